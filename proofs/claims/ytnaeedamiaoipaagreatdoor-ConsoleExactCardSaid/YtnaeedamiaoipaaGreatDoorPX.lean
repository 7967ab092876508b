/- Chapter 27: what the functions of access answer, in plain words. -/
import Derived.Test.YtnaeedamiaoipaaGreatDoorLO
import Derived.Test.YtnaeedamiaoipaaGreatDoorAbMC
set_option linter.all false
namespace Go.Ab
open Go.Proofs
noncomputable section
def xok (P:Int) (x:o6):Prop :=
 0≤x.Time∧x.Time≤1099511627776∧0≤x.Place∧x.Place≤P - 1 ∧
 ((x.Kind=1∨x.Kind=2)∧0≤x.Principal∧x.Principal≤23∧x.Until=0∧x.Content=0∧x.From=0 ∨
  x.Kind=3∧x.Time<x.Until∧x.Until≤1099511627776∧x.Principal=0∧x.Content=0∧x.From=0 ∨
  x.Kind=4∧x.Principal=0∧x.Until=0∧x.Content=0∧x.From=0 ∨
  (x.Kind=5∨x.Kind=6)∧0≤x.Content∧x.Content≤63∧x.Principal=0∧x.Until=0∧x.From=0 ∨
  x.Kind=7∧0≤x.From∧x.From≤P - 1∧x.From≠x.Place∧x.Principal=0∧x.Until=0∧x.Content=0)
structure Good (a:l9):Prop where
 lo:1≤a.Places
 hi:a.Places≤16
 len:a.Events.length≤120
 ev:∀x∈a.Events,xok a.Places x
 srt:a.Events.Pairwise fun x y=>x.Time≤y.Time
theorem a6o (n lo hi:Int):d82 n lo hi=some (decide (lo≤n∧n≤hi)):=by
 simp [d82,grp]
theorem a3z {n:Int} (h1:-1000000000000000≤n) (h2:n≤1000000000000000):a0j n=true:=x8.2 ⟨by omega,by omega⟩
theorem b06 (a:l9) (p:Int) (h1:1≤a.Places) (h2:a.Places≤16):d2d a p=some (decide (0≤p∧p≤a.Places - 1)):=by
 simp [d2d,a6o,o5 (a3z (n:=a.Places - 1) (by omega) (by omega))]
theorem c8g (a:l9) (x:o6) (h1:1≤a.Places) (h2:a.Places≤16) (h0:0≤x.Time) (hm:x.Time≤1099511627776):∃b,f5d a x=some b∧(b=true↔xok a.Places x):=by
 obtain ⟨T,K,P,pr,U,C,F⟩:=x
 simp only at h0 hm
 simp only [f5d,a6o,b06 a _ h1 h2,d1y,jn,grp,xY,Option.bind_eq_bind]
 by_cases k1:K=1
 ·subst k1
  by_cases c1:0≤pr<;>by_cases c2:pr≤23<;>simp [xok,c1,c2]<;>omega
 by_cases k2:K=2
 ·subst k2
  by_cases c1:0≤pr<;>by_cases c2:pr≤23<;>simp [xok,c1,c2]<;>omega
 by_cases k3:K=3
 ·subst k3
  by_cases c:T<U<;>by_cases c2:U≤1099511627776<;>simp [xok,c,c2]<;>omega
 by_cases k4:K=4
 ·subst k4
  simp [xok]
  omega
 by_cases k5:K=5
 ·subst k5
  by_cases c1:0≤C<;>by_cases c2:C≤63<;>simp [xok,c1,c2]<;>omega
 by_cases k6:K=6
 ·subst k6
  by_cases c1:0≤C<;>by_cases c2:C≤63<;>simp [xok,c1,c2]<;>omega
 by_cases k7:K=7
 ·subst k7
  by_cases c1:0≤F<;>by_cases c2:F≤a.Places - 1<;>by_cases c3:F=P<;>simp [xok,c1,c2,c3]<;>omega
 ·simp [xok,k1,k2,k3,k4,k5,k6,k7]
def chain (P:Int):Int→List o6→Prop
 | _,[]=>True
 | last,x::r=>last≤x.Time∧xok P x∧chain P x.Time r
theorem c0i {P:Int}:∀{l:List o6} {last:Int},chain P last l↔((∀x∈l,last≤x.Time∧xok P x)∧l.Pairwise fun x y=>x.Time≤y.Time)
 | [],last=>by simp [chain]
 | x::r,last=>by
  simp only [chain,c0i (l:=r),wV,List.pairwise_cons]
  constructor
  ·rintro ⟨h1,h2,h3,h4⟩
   refine ⟨fun y hy=>?_,fun y hy=>(h3 y hy).1,h4⟩
   rcases hy with rfl|hy
   ·exact ⟨h1,h2⟩
   ·exact ⟨Int.le_trans h1 (h3 y hy).1,(h3 y hy).2⟩
  ·rintro ⟨h1,h2,h3⟩
   exact ⟨(h1 x (.inl rfl)).1,(h1 x (.inl rfl)).2,fun y hy=>⟨h2 y hy,(h1 y (.inr hy)).2⟩,h3⟩
open Classical in
theorem d12 (a:l9) (h1:1≤a.Places) (h2:a.Places≤16):∀(l:List o6) (k last:Int),0≤last→∃o,forL (f7i a) l k last=some o∧(chain a.Places last l→∃s,o=.nx s)∧(¬chain a.Places last l→o=.ex 34)
 | [],k,last,h=>⟨.nx last,rfl,fun _=>⟨_,rfl⟩,fun hc=>absurd trivial hc⟩
 | x::r,k,last,h=>by
  simp only [forL,f7i,grp,chain]
  by_cases c:x.Time<last∨1099511627776<x.Time
  ·have c':(decide (x.Time<last)||decide (1099511627776<x.Time))=true:=by simpa using c
   simp only [c',vN,xY,a5y]
   refine ⟨_,rfl,fun hc=>?_,fun _=>rfl⟩
   have:=hc.2.1.2.1
   omega
  ·have c':(decide (x.Time<last)||decide (1099511627776<x.Time))=false:=by simpa using c
   obtain ⟨b,hb,hb2⟩:=c8g a x h1 h2 (by omega) (by omega)
   simp only [c',vL,hb,xY]
   cases b with
   | false =>
    simp only [wT,vN,xY,a5y]
    refine ⟨_,rfl,fun hc=>?_,fun _=>rfl⟩
    have:=hb2.2 hc.2.1
    cases this
   | true =>
    simp only [wY,vL,xY,a5m]
    obtain ⟨o,ho,ho1,ho2⟩:=d12 a h1 h2 r (k+1) x.Time (by omega)
    refine ⟨o,ho,fun hc=>ho1 hc.2.2,fun hc=>ho2 fun h3=>hc ⟨by omega,hb2.1 rfl,h3⟩⟩
theorem b3o (a:l9):Good a↔(1≤a.Places∧a.Places≤16)∧a.Events.length≤120∧chain a.Places 0 a.Events:=by
 rw [c0i]
 constructor
 ·rintro ⟨h1,h2,h3,h4,h5⟩
  exact ⟨⟨h1,h2⟩,h3,fun x hx=>⟨(h4 x hx).1,h4 x hx⟩,h5⟩
 ·rintro ⟨⟨h1,h2⟩,h3,h4,h5⟩
  exact ⟨h1,h2,h3,fun x hx=>(h4 x hx).2,h5⟩
open Classical in
theorem a3u (a:l9):F_j a=some (if Good a then 0 else 34):=by
 simp only [F_j,a6o,xY,grp]
 by_cases c:1≤a.Places∧a.Places≤16
 ·by_cases c2:a.Events.length≤120
  ·have c':(!decide (1≤a.Places∧a.Places≤16)||decide (120<(a.Events.length:Int)))=false:=by simp [c];omega
   obtain ⟨o,ho,ho1,ho2⟩:=d12 a c.1 c.2 a.Events 0 0 (vK 0)
   simp only [c',vL,ho,xY]
   by_cases hc:chain a.Places 0 a.Events
   ·obtain ⟨s,rfl⟩:=ho1 hc
    have:Good a:=(b3o a).2 ⟨c,c2,hc⟩
    simp [this,a5m]
   ·rw [ho2 hc]
    have:¬Good a:=fun h=>hc ((b3o a).1 h).2.2
    simp [this,a5y]
  ·have c':(!decide (1≤a.Places∧a.Places≤16)||decide (120<(a.Events.length:Int)))=true:=by simp;omega
   have:¬Good a:=fun h=>c2 h.len
   simp only [c',vN,if_neg this]
 ·have:¬Good a:=fun h=>c ⟨h.lo,h.hi⟩
  simp [c,this]
open Classical in
theorem b3i (a:l9) (p:Int):F_2 a p=some (decide (Good a∧0≤p∧p≤a.Places - 1)):=by
 simp only [F_2,a3u,xY,jn]
 by_cases h:Good a
 ·simp [h,b06 a p h.lo h.hi]
 ·simp [h]
theorem a8q {a:l9} {p:Int} (h:Good a) (h1:0≤p) (h2:p≤a.Places - 1):F_2 a p=some true:=by
 rw [b3i];simp [h,h1];omega
theorem Good.sub {a:l9} (h:Good a) {l:List o6} (hl:l.Sublist a.Events):Good ⟨a.Places,l⟩ :=
 ⟨h.lo,h.hi,vA hl.length_le h.len,fun x hx=>h.ev x (hl.subset hx),h.srt.sublist hl⟩
def lst (p t:Int) (i:Int) (x:o6) (s:Int×Bool):Int×Bool :=
 if t<x.Time∨x.Place≠p then s else if x.Kind=4 then (0,false) else if x.Kind=3∧t<x.Until then (i,true) else s
def lkf (p t:Int):List o6→Int→Int×Bool→Int×Bool
 | [],_,s=>s
 | x::r,i,s=>lkf p t r (i+1) (lst p t i x s)
theorem b1w (p t:Int):∀(l m:List o6) (i:Int) (s:Int×Bool),lkf p t (l++m) i s=lkf p t m (i+l.length) (lkf p t l i s)
 | [],m,i,s=>by simp [lkf]
 | x::r,m,i,s=>by
  simp only [wA,lkf,b1w p t r m]
  congr 1
  simp;omega
def c63 (p t:Int) (y:Int×o6):Option (Int×Bool) :=
 if t<y.2.Time∨y.2.Place≠p then none else if y.2.Kind=4 then some (0,false) else if y.2.Kind=3∧t<y.2.Until then some (y.1,true) else none
theorem c9m (p t k:Int) (y:Int×o6):f6l p t k y ()=some (flO (c63 p t y)):=by
 simp only [f6l,grp,c63]
 by_cases c:t<y.2.Time∨y.2.Place≠p
 ·have c':(decide (t<y.2.Time)||!decide (y.2.Place=p))=true:=by simpa using c
  simp [c',c,flO]
 ·have c':(decide (t<y.2.Time)||!decide (y.2.Place=p))=false:=by simpa using c
  simp only [c',vL,if_neg c]
  by_cases c2:y.2.Kind=4
  ·simp [c2,flO]
  ·by_cases c3:y.2.Kind=3∧t<y.2.Until
   ·simp [c2,c3,flO]
   ·have c4:(decide (y.2.Kind=3)&&decide (t<y.2.Until))=false:=by simpa using c3
    rw [if_neg c2,if_neg c3]
    simp [c2,c4,flO]
theorem c8k (l:List o6) (x:o6):d22 (l++[x])=((l.length:Int),x)::d22 l:=by
 unfold d22
 rw [xI,zU,List.range_succ_eq_map]
 simp only [wW,List.map_map]
 congr 1
 ·simp
 ·refine List.map_congr_left fun k hk=>?_
  have:=List.mem_range.1 hk
  simp only [Function.comp]
  have e:l.length+1 - 1 - (k+1)=l.length - 1 - k:=by omega
  rw [show k.succ=k+1 from rfl,e,zE,zE,zH (by omega)]
theorem a2q {α:Type} {m:List α→Prop} (h0:m []) (h1:∀l x,m l→m (l++[x])) (l:List α):m l:=by
 have:∀n (l:List α),l.length=n→m l:=by
  intro n
  induction n with
  | zero=>intro l hl;rw [zM.1 hl];exact h0
  | succ n ih =>
   intro l hl
   have hne:l≠[]:=by intro e;simp [e] at hl
   rw [←List.dropLast_concat_getLast hne]
   exact h1 _ _ (ih _ (by simp [hl]))
 exact this _ l rfl
theorem d58 (p t:Int) (l:List o6):(a4r (c63 p t) (d22 l)).getD (0,false)=lkf p t l 0 (0,false):=by
 induction l using a2q with
 | h0=>rfl
 | h1 l x ih =>
  rw [c8k,b1w]
  simp only [a4r,lkf,Int.zero_add]
  rw [←ih]
  unfold c63 lst
  by_cases c:t<x.Time∨x.Place≠p
  ·simp only [if_pos c]
  ·simp only [if_neg c]
   by_cases c2:x.Kind=4
   ·simp [c2]
   ·by_cases c3:x.Kind=3∧t<x.Until
    ·simp [c2,c3]
    ·simp only [if_neg c2,if_neg c3]
theorem a5d {a:l9} {p:Int} (t:Int) (h:F_2 a p=some true):F_3 a p t=some (lkf p t a.Events 0 (0,false)):=by
 simp only [F_3,h,xY,wY,vL,e3h]
 rw [a2l (c63 p t) (d22 a.Events) 0 fun k y _=>c9m p t k y,←d58]
 cases a4r (c63 p t) (d22 a.Events)<;>rfl
theorem c9l {a:l9} {p:Int} (t:Int) (h:F_2 a p=some false):F_3 a p t=some (0,false):=by
 simp [F_3,h]
def b0l {α σ:Type} (f:Int→α→σ→σ):List α→Int→σ→σ
 | [],_,s=>s
 | x::r,k,s=>b0l f r (k+1) (f k x s)
theorem a9h {α σ:Type} {body:Int→α→σ→Option σ} (f:Int→α→σ→σ) (h:∀k x s,body k x s=some (f k x s)):∀(xs:List α) (k:Int) (s:σ),foldL body xs k s=some (b0l f xs k s)
 | [],k,s=>rfl
 | x::r,k,s=>by simp only [foldL,h,xY,b0l,a9h f h r]
theorem a88 {α σ:Type} (f:Int→α→σ→σ):∀(xs ys:List α) (k:Int) (s:σ),b0l f (xs++ys) k s=b0l f ys (k+xs.length) (b0l f xs k s)
 | [],ys,k,s=>by simp [b0l]
 | x::r,ys,k,s=>by
  simp only [wA,b0l,a88 f r ys]
  congr 1
  simp;omega
theorem a8v {α β:Type} {body:Int→α→List β→Option (List β)} (g:α→β) (b:Nat) (n:Nat) (hn:n*b≤140737488355328) (h:∀k x s,body k x s=chk (room (s.length+[g x].length) b) (some (s++[g x]))) :
  ∀(xs:List α) (k:Int) (s:List β),s.length+xs.length≤n→foldL body xs k s=some (s++xs.map g)
 | [],k,s,hl=>by simp [foldL]
 | x::r,k,s,hl=>by
  have:room (s.length+[g x].length) b=true:=a0z.2 (by
   simp at hl ⊢
   exact vA (zY b (by omega)) hn)
  simp only [foldL,h,o5 this,xY]
  rw [a8v g b n hn h r (k+1) _ (by simp at hl ⊢;omega)]
  simp
def gst (p t:Int) (i:Int) (x:o6) (m:List (Int×Int)):List (Int×Int) :=
 if t<x.Time∨x.Place≠p then m else if x.Kind=1 then c0x x.Principal i m else if x.Kind=2 then c0r x.Principal m else m
def grf (p t:Int) (l:List o6):List (Int×Int):=b0l (gst p t) l 0 []
theorem d4x (p t k:Int) (x:o6) (m:List (Int×Int)):f7d p t k x m=some (gst p t k x m):=by
 simp only [f7d,grp,gst]
 by_cases c:t<x.Time∨x.Place≠p
 ·have c':(decide (t<x.Time)||!decide (x.Place=p))=true:=by simpa using c
  simp [c',c]
 ·have c':(decide (t<x.Time)||!decide (x.Place=p))=false:=by simpa using c
  simp only [c',vL,if_neg c]
  by_cases c2:x.Kind=1
  ·simp [c2]
  ·by_cases c3:x.Kind=2<;>simp [c2,c3]
theorem d08 (a:l9) (p t:Int):e6l a p t=some (grf p t a.Events):=by
 simp only [e6l,a9h (gst p t) (d4x p t),xY,grf]
theorem b9j (k v:Int):∀m:List (Int×Int),(c0x k v m).map Prod.fst=if k∈m.map Prod.fst then m.map Prod.fst else m.map Prod.fst++[k]
 | []=>by simp [c0x]
 | (a,b)::r=>by
  by_cases e:k=a
  ·simp [c0x,e]
  ·have ih:=b9j k v r
   simp only [c0x,if_neg e,wW,ih,wV]
   by_cases c:k∈List.map Prod.fst r<;>simp only [e,c,false_or,if_true,if_false,wA]
theorem b9k (k:Int):∀m:List (Int×Int),(c0r k m).map Prod.fst=(m.map Prod.fst).erase k
 | []=>by simp [c0r]
 | (a,b)::r=>by
  by_cases e:k=a
  ·simp [c0r,e]
  ·have e':¬a=k:=fun h=>e h.symm
   simp [c0r,e,e',List.erase_cons,b9k k r]
def kst (p t:Int) (x:o6) (ks:List Int):List Int :=
 if t<x.Time∨x.Place≠p then ks else if x.Kind=1 then (if x.Principal∈ks then ks else ks++[x.Principal]) else if x.Kind=2 then ks.erase x.Principal else ks
def a3t (p t:Int) (l:List o6):List Int:=l.foldl (fun ks x=>kst p t x ks) []
theorem d4w (p t i:Int) (x:o6) (m:List (Int×Int)):(gst p t i x m).map Prod.fst=kst p t x (m.map Prod.fst):=by
 unfold gst kst
 split
 ·rfl
 ·split
  ·exact b9j _ _ _
  ·split
   ·exact b9k _ _
   ·rfl
theorem b6k (p t:Int):∀(l:List o6) (i:Int) (m:List (Int×Int)),(b0l (gst p t) l i m).map Prod.fst=l.foldl (fun ks x=>kst p t x ks) (m.map Prod.fst)
 | [],i,m=>rfl
 | x::r,i,m=>by
  simp only [b0l,wM,b6k p t r]
  rw [d4w]
theorem b7x (p t:Int) (l:List o6):(grf p t l).map Prod.fst=a3t p t l:=b6k p t l 0 []
theorem b1x (p t:Int) (l:List o6) (x:o6):a3t p t (l++[x])=kst p t x (a3t p t l):=by simp [a3t]
theorem c9s {p t:Int} {x:o6} {ks:List Int} (h:ks.Nodup):(kst p t x ks).Nodup:=by
 unfold kst
 split
 ·exact h
 ·split
  ·split
   ·exact h
   ·rw [List.nodup_append]
    refine ⟨h,by simp,?_⟩
    intro a ha b hb e
    simp at hb;subst hb;subst e;contradiction
  ·split
   ·exact h.erase _
   ·exact h
theorem b4q (p t:Int) (l:List o6):(a3t p t l).Nodup:=by
 induction l using a2q with
 | h0=>simp [a3t]
 | h1 l x ih=>rw [b1x];exact c9s ih
theorem c9v (p t:Int) (l:List o6):(a3t p t l).length≤l.length:=by
 induction l using a2q with
 | h0=>simp [a3t]
 | h1 l x ih =>
  rw [b1x]
  simp only [xI,zU]
  unfold kst
  split
  ·omega
  ·split
   ·split
    ·omega
    ·simp;omega
   ·split
    ·have:=List.length_erase_le (a:=x.Principal) (l:=a3t p t l);omega
    ·omega
theorem c9u {p t:Int} {l:List o6} {k:Int} (h:k∈a3t p t l):∃x∈l,x.Kind=1∧x.Principal=k∧x.Place=p∧x.Time≤t:=by
 induction l using a2q with
 | h0=>simp [a3t] at h
 | h1 l x ih =>
  rw [b1x] at h
  unfold kst at h
  split at h
  ·obtain ⟨y,hy,h⟩:=ih h;exact ⟨y,by simp [hy],h⟩
  ·rename_i c
   split at h
   ·rename_i c2
    split at h
    ·obtain ⟨y,hy,h⟩:=ih h;exact ⟨y,by simp [hy],h⟩
    ·simp only [wJ,xG] at h
     rcases h with h|h
     ·obtain ⟨y,hy,h⟩:=ih h;exact ⟨y,by simp [hy],h⟩
     ·refine ⟨x,by simp,c2,h.symm,?_,?_⟩<;>omega
   ·split at h
    ·obtain ⟨y,hy,h⟩:=ih (List.mem_of_mem_erase h);exact ⟨y,by simp [hy],h⟩
    ·obtain ⟨y,hy,h⟩:=ih h;exact ⟨y,by simp [hy],h⟩
def c71 (l:List Int):List Int:=l.mergeSort fun x y=>decide (x≤y)
theorem a9t (l:List Int):(c71 l).Perm l:=List.mergeSort_perm _ _
theorem a6q (l:List Int):(c71 l).Pairwise (fun x y=>x≤y):=by
 have:=List.pairwise_mergeSort (le:=fun x y:Int=>decide (x≤y)) (fun a b c h1 h2=>by simp at *;omega) (fun a b=>by simp;omega) l
 exact this.imp fun h=>by simpa using h
theorem a9u {l m:List Int} (h:l.Perm m) (h1:l.Pairwise (fun x y=>x≤y)) (h2:m.Pairwise (fun x y=>x≤y)):l=m :=
 h.eq_of_pairwise (fun a b _ _ h1 h2=>by omega) h1 h2
theorem c55 {l m:List Int} (h:l.Perm m):c71 l=c71 m :=
 a9u ((a9t l).trans (h.trans (a9t m).symm)) (a6q l) (a6q m)
theorem b3g {l:List Int} {x:Int}:x∈c71 l↔x∈l:=(a9t l).mem_iff
theorem b22 {a:l9} {p:Int} (t:Int) (hn:a.Events.length≤120) (h:F_2 a p=some true):F_c a p t=some (c71 (a3t p t a.Events)):=by
 simp only [F_c,h,xY,wY,vL,d08]
 refine b7m fun l hl=>?_
 have hp:(l.map Prod.fst).Perm (a3t p t a.Events):=by rw [←b7x];exact hl.map _
 have hlen:l.length≤120:=by
  have h1:=hp.length_eq
  have h2:=c9v p t a.Events
  simp at h1;omega
 rw [a8v (body:=f4v) (g:=Prod.fst) (b:=8) (n:=120) (by omega) (fun k x s=>rfl) l 0 [] (by simpa using hlen)]
 simp only [xY,wH,b40]
 have:(l.map Prod.fst).length<4611686018427387904:=by simp;omega
 rw [if_pos this]
 simp only [xY]
 exact congrArg some (c55 hp)
def mok (d:l8) (x:a01):Prop :=
 (x.Kind=1∨x.Kind=2)∧0≤x.Time∧x.Time≤1099511627776∧(0≤x.Principal∧x.Principal<d.Kinds.length)∧(0≤x.Group∧x.Group<d.Kinds.length∧d.Kinds.getD x.Group.toNat default=2)∧x.Principal≠x.Group
structure a2c (d:l8):Prop where
 kl:d.Kinds.length≤24
 el:d.Events.length≤120
 kd:∀k∈d.Kinds,1≤k∧k≤3
 ev:∀x∈d.Events,mok d x
 srt:d.Events.Pairwise fun x y=>x.Time≤y.Time
theorem b2b (d:l8) (p:Int):e4a d p=some (decide (0≤p∧p<d.Kinds.length)):=by simp [e4a,grp]
theorem d0w (d:l8) (p:Int):f3z d p=some (decide (0≤p∧p<d.Kinds.length∧d.Kinds.getD p.toNat default=2)):=by
 simp only [f3z,b2b,xY,jn]
 by_cases c:0≤p∧p<d.Kinds.length
 ·simp [c,o5 (p8.2 c)]
 ·have:¬(0≤p∧p<(d.Kinds.length:Int)∧d.Kinds.getD p.toNat default=2):=fun h=>c ⟨h.1,h.2.1⟩
  simp only [wE c,wE this,vL,xY]
def a7g (d:l8):Int→List a01→Prop
 | _,[]=>True
 | last,x::r=>(last≤x.Time∧mok d x)∧a7g d x.Time r
theorem b6o {d:l8}:∀{l:List a01} {last:Int},a7g d last l↔((∀x∈l,last≤x.Time∧mok d x)∧l.Pairwise fun x y=>x.Time≤y.Time)
 | [],_=>by simp [a7g]
 | x::r,last=>by
  simp only [a7g,b6o,wV,List.pairwise_cons]
  constructor
  ·rintro ⟨h1,h2,h3⟩
   refine ⟨fun y hy=>?_,fun y hy=>(h2 y hy).1,h3⟩
   rcases hy with rfl|hy
   ·exact h1
   ·have:=h1.1
    exact ⟨by have:=(h2 y hy).1;omega,(h2 y hy).2⟩
  ·rintro ⟨h1,h2,h3⟩
   exact ⟨h1 x (.inl rfl),fun y hy=>⟨h2 y hy,(h1 y (.inr hy)).2⟩,h3⟩
theorem c4q (d:l8):∀(l:List a01) (k last:Int),0≤last→∃o,forL (f7j d) l k last=some o∧(a7g d last l→∃s,o=.nx s)∧(¬a7g d last l→o=.ex 30)
 | [],k,last,_=>⟨.nx last,rfl,fun _=>⟨_,rfl⟩,fun h=>absurd trivial h⟩
 | x :: r,k,last,h0=>by
  simp only [forL,f7j,grp,b2b,d0w,jn]
  by_cases c:last≤x.Time∧mok d x
  ·obtain ⟨c1,c2,c3,c4,c5,c6,c7⟩:=c
   have e1:(!decide (x.Kind=1)&&!decide (x.Kind=2))=false:=by
    rcases c2 with h|h<;>simp [h]
   have e2:decide (x.Time<last)=false:=wE (by omega)
   have e3:decide (1099511627776<x.Time)=false:=wE (by omega)
   simp only [e1,e2,e3,Bool.or_self,vL,xY,wR c5,wY,wR c6,wE c7,a5m]
   obtain ⟨o,h1,h2,h3⟩:=c4q d r (k+1) x.Time c3
   refine ⟨o,h1,fun h=>h2 h.2,fun h=>h3 fun hc=>h ⟨⟨c1,c2,c3,c4,c5,c6,c7⟩,hc⟩⟩
  ·refine ⟨.ex 30,?_,fun h=>absurd h.1 c,fun _=>rfl⟩
   by_cases d1:x.Kind=1∨x.Kind=2
   ·have e1:(!decide (x.Kind=1)&&!decide (x.Kind=2))=false:=by
     rcases d1 with h|h<;>simp [h]
    by_cases d2:x.Time<last∨1099511627776<x.Time
    ·have:(decide (x.Time<last)||decide (1099511627776<x.Time))=true:=by simpa using d2
     simp only [e1,wZ,this,vN,xY,a5y]
    ·have:(decide (x.Time<last)||decide (1099511627776<x.Time))=false:=by
      simp only [xC,zK];omega
     simp only [e1,wZ,this,vL,xY]
     by_cases d3:0≤x.Principal∧x.Principal<d.Kinds.length
     ·simp only [wR d3,wY,vL]
      by_cases d4:0≤x.Group∧x.Group<d.Kinds.length∧d.Kinds.getD x.Group.toNat default=2
      ·have d5:x.Principal=x.Group:=Classical.byContradiction fun hne=>c ⟨by omega,d1,by omega,by omega,d3,d4,hne⟩
       simp only [wR d4,wR d5,wY,wZ,vN,xY,a5y]
      ·simp only [wE d4,wT,Bool.true_or,vN,xY,a5y]
     ·simp only [wE d3,wT,vN,xY,a5y]
   ·have e1:(!decide (x.Kind=1)&&!decide (x.Kind=2))=true:=by
     simp only [not_or] at d1
     simp [d1.1,d1.2]
    simp only [e1,Bool.true_or,vN,xY,a5y]
theorem b9y {α:Type} {body:Int→α→Unit→Option (Fl Unit Int)} (p:α→Prop) [DecidablePred p] (h:∀k x,body k x ()=some (if p x then .ex k else .nx ())):∀(xs:List α) (k:Int),0≤k →
  ∃o,forL body xs k ()=some o∧((∃x∈xs,p x)→∃r,o=.ex r∧0≤r)∧((∀x∈xs,¬p x)→o=.nx ())
 | [],k,hk=>⟨.nx (),rfl,fun ⟨x,hx,_⟩=>by simp at hx,fun _=>rfl⟩
 | x::r,k,hk=>by
  simp only [forL,h]
  by_cases c:p x
  ·simp only [if_pos c,xY,a5y]
   exact ⟨_,rfl,fun _=>⟨k,rfl,hk⟩,fun hn=>absurd c (hn x (by simp))⟩
  ·simp only [if_neg c,xY,a5m]
   obtain ⟨o,h1,h2,h3⟩:=b9y p h r (k+1) (by omega)
   refine ⟨o,h1,fun ⟨y,hy,hp⟩=>?_,fun hn=>h3 fun y hy=>hn y (by simp [hy])⟩
   rcases wV.1 hy with rfl|hy
   ·exact absurd hp c
   ·exact h2 ⟨y,hy,hp⟩
theorem b2w {α:Type} {body:Int→α→Unit→Option (Fl Unit Int)} (p:α→Prop) [DecidablePred p] (xs:List α) [Decidable (∃x∈xs,p x)] (h:∀k x,body k x ()=some (if p x then .ex k else .nx ())) :
  (((forL body xs 0 ()).bind fun o=>o.elim (fun _=>some (-1)) fun r=>some r).bind fun y=>some (decide (0≤y)))=some (decide (∃x∈xs,p x)):=by
 obtain ⟨o,h1,h2,h3⟩:=b9y p h xs 0 (vK 0)
 rw [h1]
 by_cases c:∃x∈xs,p x
 ·obtain ⟨r,rfl,hr⟩:=h2 c
  simp only [xY,a5y,wR hr,wR c]
 ·have:=h3 fun x hx hp=>c ⟨x,hx,hp⟩
  subst this
  simp only [xY,a5m,wE c]
  rfl
theorem d5i (s:List Int) (v:Int):f3y s v=some (decide (v∈s)):=by
 have h:=b2w (body:=f7h v) (fun y=>v=y) s fun k y=>by
  by_cases c:v=y<;>simp [f7h,c]
 have e:decide (∃y∈s,v=y)=decide (v∈s):=decide_eq_decide.2 ⟨fun ⟨y,hy,e⟩=>e▸hy,fun h=>⟨v,h,rfl⟩⟩
 rw [e] at h
 exact h
theorem b0f (d:l8):a2c d↔d.Kinds.length≤24∧d.Events.length≤120∧(∀k∈d.Kinds,1≤k∧k≤3)∧a7g d 0 d.Events:=by
 rw [b6o]
 exact ⟨fun h=>⟨h.kl,h.el,h.kd,fun x hx=>⟨(h.ev x hx).2.1,h.ev x hx⟩,h.srt⟩,fun ⟨h1,h2,h3,h4,h5⟩=>⟨h1,h2,h3,fun x hx=>(h4 x hx).2,h5⟩⟩
open Classical in
theorem a8c (d:l8):d6l d=some (if a2c d then 0 else 30):=by
 simp only [d6l,grp]
 by_cases h1:d.Kinds.length≤24∧d.Events.length≤120
 ·have e1:(decide (24<(d.Kinds.length:Int))||decide (120<(d.Events.length:Int)))=false:=by
   simp only [xC,zK];omega
  have e2:f6o d.Kinds=some (decide (∃k∈d.Kinds,¬(1≤k∧k≤3))):=by
   refine b2w (fun k=>¬(1≤k∧k≤3)) d.Kinds fun k x=>?_
   simp only [g2g,f6p,grp,xY]
   by_cases c:1≤x∧x≤3
   ·have:(decide (x<1)||decide (3<x))=false:=by simp only [xC,zK];omega
    simp [this,c]
   ·have:(decide (x<1)||decide (3<x))=true:=by simp only [wP,xN];omega
    simp only [this,vN,c,not_false_eq_true,if_true]
  simp only [e1,e2,vL,xY]
  by_cases q:∃k∈d.Kinds,¬(1≤k∧k≤3)
  ·have:¬a2c d:=fun h=>by obtain ⟨k,hk,hn⟩:=q;exact hn (h.kd k hk)
   simp only [wR q,vN,if_neg this]
  ·simp only [wE q,vL]
   have q':∀k∈d.Kinds,1≤k∧k≤3:=fun k hk=>Classical.byContradiction fun hn=>q ⟨k,hk,hn⟩
   obtain ⟨o,k1,k2,k3⟩:=c4q d d.Events 0 0 (vK 0)
   rw [k1]
   by_cases c:a7g d 0 d.Events
   ·obtain ⟨s,rfl⟩:=k2 c
    simp only [xY,a5m,if_pos ((b0f d).2 ⟨h1.1,h1.2,q',c⟩)]
   ·rw [k3 c]
    have:¬a2c d:=fun h=>c ((b0f d).1 h).2.2.2
    simp only [xY,a5y,if_neg this]
 ·have e1:(decide (24<(d.Kinds.length:Int))||decide (120<(d.Events.length:Int)))=true:=by
   simp only [wP,xN];omega
  have:¬a2c d:=fun h=>h1 ⟨h.kl,h.el⟩
  simp only [e1,vN,if_neg this]
theorem d0v {d:l8} (g:a2c d) (p:Int):e67 d p=some (decide (0≤p∧p<d.Kinds.length)):=by
 simp only [e67,a8c,if_pos g,xY,decide_true,vN,b2b,jn]
inductive RT (L:Nat→Nat→Bool) (n p:Nat):Nat→Prop
 | refl:RT L n p p
 | step {a b:Nat} (h:RT L n p a) (ha:a<n) (hb:b<n) (hl:L a b=true):RT L n p b
theorem a3o {n b:Nat} (h:n*b≤1000000):room n b=true:=a0z.2 (by omega)
theorem a8r {n:Int} (h1:-1000000000000000≤n) (h2:n≤1000000000000000):a0j n=true:=x8.2 ⟨by omega,by omega⟩
def gt (o:List Bool):Nat→Bool:=fun i=>o.getD i false
theorem d7d {o:List Bool} {k:Nat} (hk:k<o.length) (i:Nat):gt (o.set k true) i=if i=k then true else gt o i:=by
 simp only [gt,zE,xQ]
 by_cases e:k=i
 ·subst e;simp [hk]
 ·rw [if_neg e,if_neg (fun h=>e h.symm)]
theorem d2h {L:Nat→Nat→Bool} {n p:Nat} (hn:n≤24) {row:List Bool} (hr:row.length=n) {a:Nat} (ha:a<n) (hL:∀i,i<n→row.getD i false=L a i) (q:List Int) (o:List Bool) (ho:o.length=n) (hq:q.length≤100)
  (hR:∀i,i<n→gt o i=true→RT L n p i) (hRa:RT L n p a) :
  Ok (foldL e6m row 0 (q,o)) fun s=>∃news,s.1=q++news∧s.2.length=n∧(∀x∈news,0≤x∧x<n∧gt s.2 x.toNat=true)∧(∀i,gt o i=true→gt s.2 i=true)∧(∀i,i<n→gt s.2 i=true→RT L n p i) ∧
   (∀i,i<n→L a i=true→gt s.2 i=true)∧(∀i,i<n→gt s.2 i=true→gt o i=true∨(i:Int)∈news)∧cnt (gt s.2) n=cnt (gt o) n+news.length:=by
 refine Ok.foldI (all:=row) (fun pre s=>∃news,s.1=q++news∧s.2.length=n∧(∀x∈news,0≤x∧x<n∧gt s.2 x.toNat=true)∧(∀i,gt o i=true→gt s.2 i=true)∧(∀i,i<n→gt s.2 i=true→RT L n p i) ∧
   (∀i,i<pre.length→L a i=true→gt s.2 i=true)∧(∀i,i<n→gt s.2 i=true→gt o i=true∨(i:Int)∈news)∧cnt (gt s.2) n=cnt (gt o) n+news.length) row [] 0 _ rfl rfl ⟨[],by simp,ho,by simp,fun _ h=>h,hR,fun i hi=>by simp at hi,fun i _ h=>.inl h,by simp⟩ (fun pre x r s hw hs=>?_) fun s hs=>by rw [hr] at hs;exact hs
 obtain ⟨q',o'⟩:=s
 obtain ⟨news,rfl,h1,h2,h3,h4,h5,h6,h7⟩:=hs
 simp only at h1 h2 h3 h4 h5 h6 h7
 have hlen:pre.length<n:=by rw [←hr,hw];simp
 have hx:x=L a pre.length:=by rw [←hL _ hlen,hw];simp
 unfold e6m
 have hi:inb (pre.length:Int) o'.length=true:=p8.2 ⟨by omega,by omega⟩
 have hg:o'.getD (pre.length:Int).toNat default=gt o' pre.length:=by simp [gt]
 cases hxx:x with
 | false =>
  simp only [vL,jn,xY]
  refine Ok.ret ⟨news,rfl,h1,h2,h3,h4,fun i hi' hl=>?_,h6,h7⟩
  simp only [xI,zU] at hi'
  by_cases e:i=pre.length
  ·subst e;rw [←hx,hxx] at hl;cases hl
  ·exact h5 i (by omega) hl
 | true =>
  have hla:L a pre.length=true:=by rw [←hx,hxx]
  simp only [vN,jn,o5 hi,xY,hg]
  cases hgo:gt o' pre.length with
  | true =>
   simp only [wY,vL]
   refine Ok.ret ⟨news,rfl,h1,h2,h3,h4,fun i hi' hl=>?_,h6,h7⟩
   simp only [xI,zU] at hi'
   by_cases e:i=pre.length
   ·subst e;exact hgo
   ·exact h5 i (by omega) hl
  | false =>
   simp only [wT,vN]
   have hc1:=b6s (gt o') n
   refine Ok.chk (a3o (by simp;omega)) ?_
   have hset:∀i,gt (o'.set (pre.length:Int).toNat true) i=if i=pre.length then true else gt o' i:=fun i=>by
    have:=d7d (o:=o') (k:=pre.length) (by omega) i
    simpa using this
   have hmono:∀i,gt o' i=true→gt (o'.set (pre.length:Int).toNat true) i=true:=fun i h=>by rw [hset];split<;>simp [h]
   refine Ok.ret ⟨news++[(pre.length:Int)],by simp,by simp [h1],fun y hy=>?_,fun i h=>hmono i (h3 i h),fun i hi' h=>?_,fun i hi' hl=>?_,fun i hi' h=>?_,?_⟩
   ·simp only [wJ,xG] at hy
    rcases hy with hy|rfl
    ·obtain ⟨a1,a2,a3⟩:=h2 y hy
     exact ⟨a1,a2,hmono _ a3⟩
    ·exact ⟨by omega,by omega,by simp only [hset];simp⟩
   ·simp only [hset] at h
    by_cases e:i=pre.length
    ·subst e;exact .step hRa ha hlen hla
    ·rw [if_neg e] at h;exact h4 i hi' h
   ·simp only [xI,zU] at hi'
    by_cases e:i=pre.length
    ·simp only [hset,e,if_true]
    ·exact hmono i (h5 i (by omega) hl)
   ·simp only [hset] at h
    by_cases e:i=pre.length
    ·exact .inr (by simp [e])
    ·rw [if_neg e] at h
     rcases h6 i hi' h with h|h
     ·exact .inl h
     ·exact .inr (by simp [h])
   ·have:cnt (gt (o'.set (pre.length:Int).toNat true)) n=cnt (gt o') n+1:=by
     have key:∀m,cnt (gt (o'.set (pre.length:Int).toNat true)) m=cnt (gt o') m+(if pre.length<m then 1 else 0):=by
      intro m
      induction m with
      | zero=>simp [cnt]
      | succ m ih =>
       simp only [cnt,ih,hset]
       by_cases e:m=pre.length
       ·subst e;rw [hgo];simp
       ·rw [if_neg e]
        by_cases c:pre.length<m
        ·rw [if_pos c,if_pos (by omega)];omega
        ·rw [if_neg c,if_neg (by omega)];omega
     rw [key,if_pos hlen]
    simp only [this,xI,zU]
    omega
theorem c7d {L:Nat→Nat→Bool} {n p:Nat} (hn:n≤24) (hp:p<n) (T:List (List Bool)) (hT:T.length=n) (hrow:∀a,a<n→(T.getD a default).length=n∧∀i,i<n→(T.getD a default).getD i false=L a i) :
  Ok (e4v T (p:Int)) fun o=>o.length=n∧∀i,i<n→(gt o i=true↔RT L n p i):=by
 unfold e4v
 rw [hT]
 have hl0:(List.replicate ((n:Int)).toNat false).length=n:=by simp
 refine Ok.chk (a6b.2 ⟨by omega,by omega,by omega⟩) (Ok.chk (p8.2 ⟨by omega,by rw [hl0];omega⟩) ?_)
 have hset:∀i,gt ((List.replicate ((n:Int)).toNat false).set ((p:Int)).toNat true) i=if i=p then true else gt (List.replicate n false) i:=fun i=>by
  have:=d7d (o:=List.replicate n false) (k:=p) (by simpa using hp) i
  simpa using this
 have hrep:∀i,gt (List.replicate n false) i=false:=fun i=>by
  simp only [gt,zE,List.getElem?_replicate]
  split<;>rfl
 refine Ok.bind (Ok.loop (Q:=fun o:List Bool=>o.length=n∧∀i,i<n→(gt o i=true↔RT L n p i))
  (fun (s:List Int×List Bool)=>s.2.length=n∧(∀x∈s.1,0≤x∧x<n∧gt s.2 x.toNat=true)∧(∀i,i<n→gt s.2 i=true→RT L n p i)∧gt s.2 p=true∧(∀a,a<n→gt s.2 a=true→(a:Int)∉s.1→∀b,b<n→L a b=true→gt s.2 b=true)∧s.1.length≤cnt (gt s.2) n)
  (fun (s:List Int×List Bool)=>2*(n - cnt (gt s.2) n)+s.1.length) (fun s hs=>?_) _ ?_) fun r hr=>Ok.ret hr
 ·obtain ⟨q,o⟩:=s
  obtain ⟨i1,i2,i3,i4,i5,i6⟩:=hs
  simp only at i1 i2 i3 i4 i5 i6
  unfold f4l
  have hcn:=b6s (gt o) n
  refine Ok.ite (fun cq=>?_) fun cq=>?_
  ·have cq:0<(q.length:Int):=by simpa using cq
   obtain ⟨q0,rest,rfl⟩:∃a r,q=a::r:=by
    cases q with
    | nil=>simp at cq
    | cons a r=>exact ⟨a,r,rfl⟩
   have e0:(q0::rest).getD 0 default=q0:=rfl
   obtain ⟨b1,b2,b3⟩:=i2 q0 (by simp)
   refine Ok.chk (p8.2 ⟨by omega,cq⟩) ?_
   simp only [e0]
   have hqa:q0.toNat<n:=by omega
   obtain ⟨r1,r2⟩:=hrow q0.toNat hqa
   refine Ok.chk (p8.2 ⟨by omega,by rw [hT];exact b2⟩) (Ok.bind (d2h (p:=p) hn r1 hqa r2 (q0::rest) o i1 (by omega) i3 (i3 _ hqa b3)) fun s hs=>?_)
   obtain ⟨q',o'⟩:=s
   obtain ⟨news,hq',h1,h2,h3,h4,h5,h6,h7⟩:=hs
   simp only at hq' h1 h2 h3 h4 h5 h6 h7
   subst hq'
   have hcn':=b6s (gt o') n
   refine Ok.chk (a1u.2 ⟨by omega,by simp;omega,by omega⟩) (Ok.ret ?_)
   have e1:(((q0::rest)++news).drop 1).take (((q0::rest)++news).length - 1)=rest++news:=by
    simp only [wA,xD,wS,x5,Nat.add_sub_cancel]
    exact xZ
   rw [e1]
   refine ⟨⟨h1,fun x hx=>?_,h4,h3 p i4,fun a ha hga hna b hb hl=>?_,?_⟩,?_⟩
   ·rcases wJ.1 hx with hx|hx
    ·obtain ⟨c1,c2,c3⟩:=i2 x (by simp [hx])
     exact ⟨c1,c2,h3 _ c3⟩
    ·exact h2 x hx
   ·simp only [wJ,not_or] at hna
    rcases h6 a ha hga with hoa|hnew
    ·by_cases e:(a:Int)=q0
     ·have:a=q0.toNat:=by omega
      subst this
      exact h5 b hb hl
     ·exact h3 b (i5 a ha hoa (by simp only [wV,not_or];exact ⟨e,hna.1⟩) b hb hl)
    ·exact absurd hnew hna.2
   ·simp only [xI,x5] at i6 ⊢
    omega
   ·show 2*(n - cnt (gt o') n)+(rest++news).length<2*(n - cnt (gt o) n)+(q0::rest).length
    simp only [xI,x5] at i6 ⊢
    omega
  ·have:q=[]:=by
    have cq:¬0<(q.length:Int):=by simpa using cq
    exact zM.1 (by omega)
   subst this
   refine Ok.ret ⟨i1,fun i hi=>⟨i3 i hi,fun h=>?_⟩⟩
   induction h with
   | refl=>exact i4
   | step h ha hb hl ih=>exact i5 _ ha (ih ha) (by simp) _ hb hl
 ·refine ⟨by simp,fun x hx=>?_,fun i hi h=>?_,by simp only [hset,if_true],fun a ha h hna=>?_,?_⟩
  ·simp only [xG] at hx
   subst hx
   exact ⟨by omega,by omega,by simp only [hset];simp⟩
  ·simp only [hset,hrep] at h
   by_cases e:i=p
   ·subst e;exact .refl
   ·rw [if_neg e] at h;cases h
  ·simp only [hset,hrep] at h
   by_cases e:a=p
   ·subst e;simp at hna
   ·rw [if_neg e] at h;cases h
  ·exact c2m (j:=p) (by simp only [hset,if_true]) n hp
def dlk (d:l8) (t:Int):Nat→Nat→Bool:=zk (ev4 (d.Events.map fun e=>(e.Time,e.Kind,e.Principal,e.Group))) t d.Events.length
open Classical in
def upl (d:l8) (p t:Int):List Int:=((List.range d.Kinds.length).filter fun i=>decide (RT (dlk d t) d.Kinds.length p.toNat i)).map fun i:Nat=>(i:Int)
theorem at_eq {d:l8} (g:a2c d) (t:Int):atF d.Kinds.length (d.Events.map fun e=>(e.Time,e.Kind,e.Principal,e.Group)) t=some ((List.range d.Kinds.length).map fun j=>(List.range d.Kinds.length).map fun i=>dlk d t j i):=by
 have hk:=g.kl
 unfold atF
 rw [o5 (by simp;omega),o5]
 ·simp [dlk]
 ·simp only [wB,vD]
  rintro _ ⟨e,he,rfl⟩
  obtain ⟨_,_,_,h4,h5,_⟩:=g.ev e he
  have e1:inb e.Principal d.Kinds.length=true:=p8.2 h4
  have e2:inb e.Group d.Kinds.length=true:=p8.2 ⟨h5.1,h5.2.1⟩
  simp [e1,e2]
theorem c3a (l:List Bool) (h:l.length≤24):e4r l=some (((List.range l.length).filter (gt l)).map fun i:Nat=>(i:Int)):=by
 refine Ok.eq ?_
 unfold e4r
 refine Ok.bind (Ok.foldI (all:=l) (fun pre s=>s=((List.range pre.length).filter (gt l)).map fun i:Nat=>(i:Int)) l [] 0 [] rfl rfl rfl (fun pre x r s hw hs=>?_) fun s hs=>hs) fun s hs=>Ok.ret hs
 subst hs
 unfold f7e
 have hp:pre.length<l.length:=by rw [hw];simp
 have hx:gt l pre.length=x:=by rw [hw];simp [gt]
 have hlen:(((List.range pre.length).filter (gt l)).map fun i:Nat=>(i:Int)).length≤pre.length:=by
  rw [wL];exact vA (List.length_filter_le _ _) (by simp)
 simp only [xI,zU,List.range_succ,List.filter_append,List.map_append]
 cases x
 ·simp only [vL]
  exact Ok.ret (by simp [hx])
 ·simp only [vN]
  exact Ok.chk (a3o (by simp only [wL] at hlen ⊢;omega)) (Ok.ret (by simp [hx]))
theorem c7e {d:l8} (g:a2c d) {p:Int} (t:Int) (h0:0≤p) (h1:p<d.Kinds.length):d88 d p t=some (upl d p t):=by
 have hk:decide (0≤p∧p<(d.Kinds.length:Int))=true:=wR ⟨h0,h1⟩
 simp only [d88,d0v g,hk,xY,wY,vL,at_eq g]
 obtain ⟨o,ho,ho1,ho2⟩:=c7d (L:=dlk d t) (n:=d.Kinds.length) (p:=p.toNat) g.kl (by omega) ((List.range d.Kinds.length).map fun j=>(List.range d.Kinds.length).map fun i=>dlk d t j i) (by simp) fun a ha=>by
  have e:((List.range d.Kinds.length).map fun j=>(List.range d.Kinds.length).map fun i=>dlk d t j i).getD a default=(List.range d.Kinds.length).map fun i=>dlk d t a i:=by simp [zE,ha]
  rw [e]
  exact ⟨by simp,fun i hi=>by simp [zE,hi]⟩
 rw [show ((p.toNat:Nat):Int)=p by omega] at ho
 rw [ho]
 have hl:=g.kl
 simp only [xY,c3a o (by rw [ho1];exact hl)]
 simp only [upl,ho1]
 congr 2
 refine List.filter_congr fun i hi=>?_
 have:=ho2 i (List.mem_range.1 hi)
 cases e:gt o i with
 | true=>simp [this.1 e]
 | false =>
  have h:¬RT (dlk d t) d.Kinds.length p.toNat i:=fun h=>by rw [this.2 h] at e;cases e
  simp [h]
def rdr (d:l8) (p:Int):Prop:=0≤p∧p<d.Kinds.length∧d.Kinds.getD p.toNat default≠2
theorem c8o (d:l8) (p:Int) [Decidable (rdr d p)]:f3s d p=some (decide (rdr d p)):=by
 simp only [f3s,grp,jn]
 by_cases c:0≤p∧p<(d.Kinds.length:Int)
 ·have e:(decide (0≤p)&&decide (p<(d.Kinds.length:Int)))=true:=by simpa using c
  simp only [e,vN,o5 (p8.2 c),xY]
  congr 1
  by_cases q:d.Kinds.getD p.toNat default=2
  ·rw [wR q,wE (fun h:rdr d p=>h.2.2 q)];rfl
  ·rw [wE q,wR (show rdr d p from ⟨c.1,c.2,q⟩)];rfl
 ·have e:(decide (0≤p)&&decide (p<(d.Kinds.length:Int)))=false:=by
   cases h:(decide (0≤p)&&decide (p<(d.Kinds.length:Int)))
   ·rfl
   ·exact absurd (by simpa using h) c
  simp only [e,vL,xY]
  rw [wE (fun h:rdr d p=>c ⟨h.1,h.2.1⟩)]
open Classical in
theorem e2f {d:l8} {a:l9} (g:a2c d) (h:Good a) (p pl:Int):e68 d a p pl=some (decide (rdr d p∧0≤pl∧pl≤a.Places - 1)):=by
 simp only [e68,d6b,a8c,a3u,if_pos g,if_pos h,xY,jn,c8o,b06 a pl h.lo h.hi]
 by_cases c:rdr d p<;>simp [c]
theorem d6y (U:List Int):∀(xs:List Int) (k:Int),forL (e6d U) xs k ()=some (match xs.find? (fun x=>decide (x∈U)) with|some x=>.ex (x,true)|none=>.nx ())
 | [],k=>rfl
 | x::r,k=>by
  simp only [forL,e6d,d5i,xY,List.find?_cons]
  by_cases c:x∈U
  ·simp [c,a5y]
  ·simp [c,a5m,d6y U r (k+1)]
def c69 (o:Option Int):Int×Bool:=match o with|some x=>(x,true)|none=>(0,false)
theorem c8i {d:l8} {a:l9} {p pl t:Int} {U G:List Int} (h1:d88 d p t=some U) (h2:F_c a pl t=some G):e4q d a p pl t=some (c69 (G.find? fun x=>decide (x∈U))):=by
 simp only [e4q,h1,h2,xY,d6y]
 cases G.find? (fun x=>decide (x∈U))<;>simp [c69,a5m,a5y]
def b6g (d:l8) (a:l9) (p pl t:Int):Prop :=
 (rdr d p∧0≤pl∧pl≤a.Places - 1)∧((lkf pl t a.Events 0 (0,false)).2=true∨∃x∈a3t pl t a.Events,x∈upl d p t)
open Classical in
theorem d73 {d:l8} {a:l9} (g:a2c d) (h:Good a) (p pl t:Int):d81 d a p pl t=some (decide (b6g d a p pl t)):=by
 simp only [d81,e2f g h,xY,grp]
 by_cases c:rdr d p∧0≤pl∧pl≤a.Places - 1
 ·have hk:=a8q h c.2.1 c.2.2
  rw [a5d t hk,c8i (c7e g t c.1.1 c.1.2.1) (b22 t h.len hk)]
  simp only [wR c,wY,vL,xY]
  congr 1
  by_cases q:∃x∈a3t pl t a.Events,x∈upl d p t
  ·have:(c69 ((c71 (a3t pl t a.Events)).find? fun x=>decide (x∈upl d p t))).2=true:=by
    obtain ⟨x,hx,hu⟩:=q
    cases e:(c71 (a3t pl t a.Events)).find? fun x=>decide (x∈upl d p t) with
    | some y=>rfl
    | none =>
     have:=List.find?_eq_none.1 e x (b3g.2 hx)
     simp [hu] at this
   rw [this,Bool.or_true]
   exact (wR (show b6g d a p pl t from ⟨c,.inr q⟩)).symm
  ·have:(c69 ((c71 (a3t pl t a.Events)).find? fun x=>decide (x∈upl d p t))).2=false:=by
    cases e:(c71 (a3t pl t a.Events)).find? fun x=>decide (x∈upl d p t) with
    | none=>rfl
    | some y =>
     refine absurd ⟨y,b3g.1 (List.mem_of_find?_eq_some e),?_⟩ q
     have:=List.find?_some e
     simpa using this
   rw [this,Bool.or_false]
   cases e:(lkf pl t a.Events 0 (0,false)).2 with
   | true=>exact (wR (show b6g d a p pl t from ⟨c,.inl e⟩)).symm
   | false =>
    refine (wE fun hm:b6g d a p pl t=>?_).symm
    rcases hm.2 with h|h
    ·rw [e] at h;cases h
    ·exact q h
 ·simp only [wE c,wT,vN]
  congr 1
  exact (wE fun hm:b6g d a p pl t=>c hm.1).symm
theorem a4b (d:Array Int):∀(m i:Nat),i<m→d[i]! ∈ Go.Lib.compactUpTo d m
 | 0,i,h=>by omega
 | m + 1,i,h=>by
  rw [Go.Lib.compactUpTo_succ,wJ]
  rcases Nat.lt_or_ge i m with h1|h1
  ·exact .inl (a4b d m i h1)
  ·have e:i=m:=by omega
   subst e
   cases hk:Go.Lib.keeps d i with
   | true=>right;simp [hk]
   | false =>
    left
    cases i with
    | zero=>simp [Go.Lib.keeps] at hk
    | succ i =>
     have h2:d[i+1]! = d[i]! := by
      by_cases c:d[i+1]! = d[i]!
      ·exact c
      ·have:=Go.Lib.keeps_pos (d:=d) (m:=i+1) (by simpa using c)
       rw [hk] at this;cases this
     rw [h2]
     exact a4b d (i+1) i (by omega)
theorem c0c (xs:List Int):∀x∈xs,x∈Go.Lib.compact xs:=by
 intro x hx
 obtain ⟨i,hi,rfl⟩:=xA.1 hx
 have:=a4b xs.toArray xs.length i hi
 simpa [Go.Lib.compact,hi] using this
theorem c2l {xs:List Int} {x:Int}:x∈Go.Lib.compact xs↔x∈xs:=⟨b56 xs x,c0c xs x⟩
theorem b55 (xs:List Int):(Go.Lib.compact xs).Sublist xs:=by
 have h:(List.range xs.length).map (fun i=>xs.toArray[i]!)=xs:=by
  apply List.ext_getElem
  ·simp
  ·intro i h1 h2
   simp [h2]
 have:=(List.filter_sublist (p:=Go.Lib.keeps xs.toArray) (l:=List.range xs.length)).map (fun i=>xs.toArray[i]!)
 rw [h] at this
 exact this
theorem c7i {a:l9} (g:Good a):F_t a=some (Go.Lib.compact (a.Events.map o6.Time)):=by
 simp only [F_t,a3u,if_pos g,xY,decide_true,wY,vL]
 have h:=g.len
 rw [a8v (body:=g2k) (g:=o6.Time) (b:=8) (n:=120) (by omega) (fun k x s=>rfl) a.Events 0 [] (by simpa using h)]
 simp only [xY,a5u,wH,wS]
 rw [List.take_left']
 rfl
def tms (d:l8) (a:l9):List Int:=Go.Lib.compact (c71 (Go.Lib.compact (a.Events.map o6.Time)++d.Events.map a01.Time))
theorem b7p {d:l8} {a:l9} {t:Int}:t∈tms d a↔(∃x∈a.Events,x.Time=t)∨∃x∈d.Events,x.Time=t:=by
 simp only [tms,c2l,b3g,wJ,vD]
theorem c4z (d:l8) (a:l9):(tms d a).Pairwise fun x y=>x≤y:=(a6q _).sublist (b55 _)
theorem d0q {d:l8} {a:l9} (g:a2c d) (h:Good a):F_u d a=some (tms d a):=by
 have h1:=h.len
 have h2:=g.el
 have h3:=(b55 (a.Events.map o6.Time)).length_le
 rw [wL] at h3
 simp only [F_u,c7i h,xY]
 rw [a8v (body:=f5b) (g:=a01.Time) (b:=8) (n:=240) (by omega) (fun k x s=>rfl) d.Events 0 _ (by omega)]
 simp only [xY,b40,xI,wL]
 rw [if_pos (by omega)]
 simp only [xY,a5u,wS]
 rw [List.take_left']
 ·rfl
 ·rfl
theorem b6y {c:Int} (h0:0≤c) (h1:c≤63):e3z c=some (IntKind.wrap .u64 (1*2^c.toNat)):=by
 unfold e3z
 have:e7f c 64=true:=by rw [←b5z];omega
 rw [o5 this]
theorem d07 {P:Int} {s:List Int} {x:o6} (h:xok P x) (hs:(s.length:Int)=P):Ok (d6i s x) fun s'=>s'.length=s.length:=by
 obtain ⟨_,_,h3,h4,h5⟩:=h
 have hp:inb x.Place s.length=true:=p8.2 ⟨h3,by omega⟩
 unfold d6i
 refine Ok.ite (fun c=>?_) fun c=>Ok.ite (fun c2=>?_) fun c2=>Ok.ite (fun c3=>?_) fun c3=>Ok.ret rfl
 ·have c:x.Kind=5:=by simpa using c
  exact Ok.chk hp (Ok.bind (P:=fun _=>True) (Ok.of (b6y (by omega) (by omega)) trivial) fun _ _=>Ok.chk hp (Ok.ret (by simp)))
 ·have c2:x.Kind=6:=by simpa using c2
  exact Ok.chk hp (Ok.bind (P:=fun _=>True) (Ok.of (b6y (by omega) (by omega)) trivial) fun _ _=>Ok.chk hp (Ok.ret (by simp)))
 ·have c3:x.Kind=7:=by simpa using c3
  have hf:inb x.From s.length=true:=p8.2 ⟨by omega,by omega⟩
  exact Ok.chk hp (Ok.chk hf (Ok.chk hp (Ok.ret (by simp))))
theorem f2b {a:l9} (g:Good a) (t:Int):Ok (F_v a t) fun s=>(s.length:Int)=a.Places:=by
 have h1:=g.lo
 have h2:=g.hi
 unfold F_v
 refine Ok.chk (a6b.2 ⟨by omega,by omega,by omega⟩) (Ok.bind (Ok.foldI (all:=a.Events) (fun _ s=>(s.length:Int)=a.Places) a.Events [] 0 _ rfl rfl (by simp;omega) (fun pre x r s hw hs=>?_) fun s hs=>hs) fun s hs=>Ok.ret hs)
 unfold f7o
 refine Ok.ite (fun _=>Ok.bind (d07 (g.ev x (by rw [hw];simp)) hs) fun y hy=>Ok.ret ?_) fun _=>Ok.ret hs
 rw [hy];exact hs
theorem c39 {a:l9} (g:Good a) {c:Int} (h0:0≤c) (h1:c≤63) (t:Int):Ok (d6j a c t) fun W=>∀x∈W,0≤x∧x≤a.Places - 1:=by
 have hc:d1y c=some true:=by simp [d1y,a6o,h0,h1]
 have h2:=g.hi
 simp only [d6j,a3u,if_pos g,xY,decide_true,wY,vL,hc]
 refine Ok.bind (f2b g t) fun s hs=>Ok.bind (Ok.foldI (all:=s) (fun pre W=>W.length≤pre.length∧∀x∈W,0≤x∧x≤a.Places - 1) s [] 0 _ rfl rfl ⟨by simp,by simp⟩ (fun pre x r W hw hW=>?_) fun W hW=>hW.2) fun W hW=>Ok.ret hW
 unfold f7c
 have hp:pre.length<s.length:=by rw [hw];simp
 refine Ok.bind (P:=fun _=>True) (Ok.of (b6y h0 h1) trivial) fun b _=>Ok.ite (fun _=>Ok.chk (a3o (by simp;omega)) (Ok.ret ⟨by simp;omega,fun y hy=>?_⟩)) fun _=>Ok.ret ⟨by simp;omega,hW.2⟩
 simp only [wJ,xG] at hy
 rcases hy with hy|rfl
 ·exact hW.2 y hy
 ·omega
def whr (a:l9) (c t:Int):List Int:=(d6j a c t).getD []
theorem b75 {a:l9} (g:Good a) {c:Int} (h0:0≤c) (h1:c≤63) (t:Int):d6j a c t=some (whr a c t):=by
 obtain ⟨W,h,_⟩:=c39 g h0 h1 t
 simp [whr,h]
theorem c7a {a:l9} (g:Good a) {c:Int} (h0:0≤c) (h1:c≤63) (t:Int):∀x∈whr a c t,0≤x∧x≤a.Places - 1:=(c39 g h0 h1 t).val (b75 g h0 h1 t)
open Classical in
def see (d:l8) (a:l9) (p t x:Int):Bool :=
 if p=-1 then (lkf x t a.Events 0 (0,false)).2 else decide (b6g d a p x t)
theorem g4x {d:l8} {a:l9} (g:a2c d) (h:Good a) (p t:Int) (xs:List Int) (hx:∀x∈xs,0≤x∧x≤a.Places - 1) (k:Int) :
  forL (e6b d a p t) xs k ()=some (flO (a4r (fun x=>if see d a p t x then some (x,true) else none) xs)):=by
 refine a2l _ xs k fun k x hm=>?_
 simp only [e6b,a5d t (a8q h (hx x hm).1 (hx x hm).2),xY,grp,d73 g h]
 by_cases c:p=-1
 ·simp only [c,decide_true,Bool.true_and,wY,vL,see,if_true]
  cases (lkf x t a.Events 0 (0,false)).2<;>simp [flO]
 ·simp only [c,decide_false,Bool.false_and,wT,vL,vN,see,if_false]
  by_cases q:b6g d a p x t<;>simp [q,flO]
theorem a6j {α ρ:Type} (p:α→Bool) (f:α→ρ):∀xs:List α,a4r (fun x=>if p x then some (f x) else none) xs=(xs.find? p).map f
 | []=>rfl
 | x::r=>by
  simp only [a4r,List.find?_cons]
  cases h:p x with
  | true=>simp
  | false=>simp [a6j p f r]
def pla (d:l8) (a:l9) (c p t:Int):Option Int:=(whr a c t).find? (see d a p t)
theorem c8t {d:l8} {a:l9} (g:a2c d) (h:Good a) {c:Int} (h0:0≤c) (h1:c≤63) (p t:Int):e4o d a c p t=some (c69 (pla d a c p t)):=by
 simp only [e4o,b75 h h0 h1,xY,g4x g h p t _ (c7a h h0 h1 t),a6y,a6j,pla]
 cases (whr a c t).find? (see d a p t)<;>rfl
def sin (d:l8) (a:l9) (c p:Int):Option Int:=(tms d a).find? fun t=>(pla d a c p t).isSome
theorem d2r {d:l8} {a:l9} (g:a2c d) (h:Good a) {c:Int} (h0:0≤c) (h1:c≤63) (p:Int):e4n d a c p=some (c69 (sin d a c p)):=by
 simp only [e4n,d0q g h,xY]
 rw [a2l (fun t=>if (pla d a c p t).isSome then some (t,true) else none) (tms d a) 0 fun k t _=>by
  simp only [f4k,c8t g h h0 h1,xY]
  cases pla d a c p t<;>simp [c69,flO]]
 simp only [xY,a6y,a6j,sin]
 cases (tms d a).find? (fun t=>(pla d a c p t).isSome)<;>rfl
theorem d0s {d:l8} {a:l9} (g:a2c d) (h:Good a) {c:Int} (h0:0≤c) (h1:c≤63):e66 d a c=some 0:=by
 simp [e66,d6b,a8c,a3u,g,h,d1y,a6o,h0,h1]
theorem d67 {d:l8} {a:l9} (g:a2c d) (h:Good a) {c:Int} (h0:0≤c) (h1:c≤63) (p:Int):d80 d a c p=some (c69 (sin d a c p)):=by
 simp [d80,d0s g h h0 h1,d2r g h h0 h1]
theorem b6m {T:List Int} {q:Int→Bool} (hs:T.Pairwise fun x y=>x≤y) {t:Int} (ht:t∈T) (hq:q t=true):∃t',T.find? q=some t'∧t'≤t:=by
 induction T with
 | nil=>simp at ht
 | cons x r ih =>
  rw [List.pairwise_cons] at hs
  cases hx:q x with
  | true =>
   refine ⟨x,by simp [hx],?_⟩
   rcases wV.1 ht with rfl|ht
   ·omega
   ·exact hs.1 t ht
  | false =>
   rcases wV.1 ht with rfl|ht
   ·rw [hq] at hx;cases hx
   ·obtain ⟨t',h1,h2⟩:=ih hs.2 ht
    exact ⟨t',by simp [hx,h1],h2⟩
def tb (w:Int) (c:Nat):Bool:=(BitVec.ofInt 64 w).getLsbD c
theorem a6t (b:BitVec 64):BitVec.ofInt 64 (IntKind.wrap .u64 (b.toNat:Int))=b:=by
 apply BitVec.eq_of_toNat_eq
 have h:=b.isLt
 simp only [IntKind.wrap,IntKind.bits,IntKind.signed,BitVec.toNat_ofInt]
 simp
 omega
theorem e74 (x y:Int) (c:Nat):tb (bits .or .u64 x y) c=(tb x c||tb y c):=by
 simp only [tb,bits,a6t,IntKind.bits]
 exact BitVec.getLsbD_or
theorem c7k (x y:Int) {c:Nat} (hc:c<64):tb (bits .andNot .u64 x y) c=(tb x c&&!tb y c):=by
 simp only [tb,bits,a6t,IntKind.bits]
 have:∀a b:BitVec 64,(a &&& ~~~b).getLsbD c=(a.getLsbD c&&!b.getLsbD c):=fun a b=>by rw [BitVec.getLsbD_and,BitVec.getLsbD_not];simp [hc]
 exact this _ _
theorem e75 (x y:Int) (c:Nat):tb (bits .and .u64 x y) c=(tb x c&&tb y c):=by
 simp only [tb,bits,a6t,IntKind.bits]
 exact BitVec.getLsbD_and
def msk (c:Int):Int:=IntKind.wrap .u64 (1*2^c.toNat)
theorem d71 {c:Int} (h1:c≤63):BitVec.ofInt 64 (msk c)=BitVec.twoPow 64 c.toNat:=by
 have h:c.toNat<64:=by omega
 have hp:2^c.toNat<2^64:=Nat.pow_lt_pow_right (by omega) h
 have e:(1*2^c.toNat:Int)=((2^c.toNat:Nat):Int):=by simp
 apply BitVec.eq_of_toNat_eq
 rw [BitVec.toNat_twoPow,BitVec.toNat_ofInt]
 unfold msk
 rw [e]
 generalize 2^c.toNat=m at hp
 simp only [IntKind.wrap,IntKind.bits,IntKind.signed]
 simp
 omega
theorem c7j {c:Int} (h0:0≤c) (h1:c≤63) (i:Nat) (hi:i<64):tb (msk c) i=decide ((i:Int)=c):=by
 have h:c.toNat<64:=by omega
 simp only [tb,d71 h1,BitVec.getLsbD_twoPow]
 by_cases e:(i:Int)=c
 ·have:c.toNat=i:=by omega
  simp [e,this,hi]
 ·have:¬c.toNat=i:=by omega
  simp [e,this]
theorem e3p {c:Int} (h0:0≤c) (h1:c≤63) (x:Int):decide (bits .and .u64 x (msk c)=0)=!tb x c.toNat:=by
 have h:c.toNat<64:=by omega
 have e1:bits .and .u64 x (msk c)=((BitVec.ofInt 64 x &&& BitVec.ofInt 64 (msk c)).toNat:Int):=by
  have h2:bits .and .u64 x (msk c)=IntKind.wrap .u64 ((BitVec.ofInt 64 x &&& BitVec.ofInt 64 (msk c)).toNat:Int):=rfl
  have:=(BitVec.ofInt 64 x &&& BitVec.ofInt 64 (msk c)).isLt
  rw [h2]
  generalize (BitVec.ofInt 64 x &&& BitVec.ofInt 64 (msk c)).toNat=n at this
  simp only [IntKind.wrap,IntKind.bits,IntKind.signed]
  simp
  omega
 have e2:(bits .and .u64 x (msk c)=0)↔BitVec.ofInt 64 x &&& BitVec.ofInt 64 (msk c)=0#64:=by
  rw [e1]
  constructor
  ·intro h
   apply BitVec.eq_of_toNat_eq
   simp only [BitVec.toNat_ofNat]
   have:(BitVec.ofInt 64 x &&& BitVec.ofInt 64 (msk c)).toNat=0:=by omega
   rw [this]
  ·intro h;rw [h];rfl
 cases ht:tb x c.toNat with
 | true =>
  refine wE fun h'=>?_
  have h2:=e2.1 h'
  have h3:tb (bits .and .u64 x (msk c)) c.toNat=false:=by rw [h'];simp [tb]
  rw [e75,ht,c7j h0 h1 _ h] at h3
  simp at h3
  omega
 | false =>
  refine wR (e2.2 ?_)
  rw [d71 h1]
  apply BitVec.eq_of_getLsbD_eq
  intro i hi
  rw [BitVec.getLsbD_and,BitVec.getLsbD_twoPow]
  by_cases q:c.toNat=i
  ·subst q
   have:(BitVec.ofInt 64 x).getLsbD c.toNat=false:=ht
   simp [this]
  ·simp [q]
def upd (s:Int→Bool) (p:Int) (b:Bool):Int→Bool:=fun i=>if i=p then b else s i
def cst (c:Int) (x:o6) (s:Int→Bool):Int→Bool :=
 if x.Kind=5 then upd s x.Place (s x.Place||decide (x.Content=c))
 else if x.Kind=6 then upd s x.Place (s x.Place&&!decide (x.Content=c))
 else if x.Kind=7 then upd s x.Place (s x.Place||s x.From)
 else s
def cfo (c t:Int) (E:List o6) (s:Int→Bool):Int→Bool:=E.foldl (fun s x=>if x.Time≤t then cst c x s else s) s
def hld (a:l9) (c t:Int):Int→Bool:=cfo c t a.Events fun _=>false
def wof (c:Int) (l:List Int) (s:Int→Bool):Prop:=∀i:Int,0≤i→i<l.length→tb (l.getD i.toNat default) c.toNat=s i
theorem c0y {c:Int} {l:List Int} {s:Int→Bool} (h:wof c l s) {p w:Int} {b:Bool} (hp:0≤p) (hl:p<l.length) (hb:tb w c.toNat=b):wof c (l.set p.toNat w) (upd s p b):=by
 intro i h0 h1
 rw [List.length_set] at h1
 simp only [upd,zE,xQ]
 by_cases e:i=p
 ·subst e
  simp [show i.toNat<l.length by omega,hb]
 ·rw [if_neg (by omega),if_neg e]
  have:=h i h0 h1
  rwa [zE] at this
theorem c67 {P c:Int} {l:List Int} {s:Int→Bool} {x:o6} (h0:0≤c) (h1:c≤63) (h:xok P x) (hl:(l.length:Int)=P) (hw:wof c l s):Ok (d6i l x) fun l'=>l'.length=l.length∧wof c l' (cst c x s):=by
 obtain ⟨_,_,h3,h4,h5⟩:=h
 have hp:inb x.Place l.length=true:=p8.2 ⟨h3,by omega⟩
 have hc:c.toNat<64:=by omega
 have hP:=hw x.Place h3 (by omega)
 unfold d6i
 refine Ok.ite (fun q=>?_) fun q=>Ok.ite (fun q2=>?_) fun q2=>Ok.ite (fun q3=>?_) fun q3=>?_
 ·have q:x.Kind=5:=by simpa using q
  refine Ok.chk hp (Ok.bind (Ok.of (b6y (by omega) (by omega)) rfl) fun b hb=>Ok.chk hp (Ok.ret ⟨by simp,?_⟩))
  simp only [cst,if_pos q]
  refine c0y hw h3 (by omega) ?_
  rw [e74,hP,←hb]
  congr 1
  rw [show IntKind.wrap .u64 (1*2^x.Content.toNat)=msk x.Content from rfl,c7j (by omega) (by omega) _ hc]
  exact decide_eq_decide.2 (by omega)
 ·have q:¬x.Kind=5:=by simpa using q
  have q2:x.Kind=6:=by simpa using q2
  refine Ok.chk hp (Ok.bind (Ok.of (b6y (by omega) (by omega)) rfl) fun b hb=>Ok.chk hp (Ok.ret ⟨by simp,?_⟩))
  simp only [cst,if_neg q,if_pos q2]
  refine c0y hw h3 (by omega) ?_
  rw [c7k _ _ hc,hP,←hb]
  congr 2
  rw [show IntKind.wrap .u64 (1*2^x.Content.toNat)=msk x.Content from rfl,c7j (by omega) (by omega) _ hc]
  exact decide_eq_decide.2 (by omega)
 ·have q:¬x.Kind=5:=by simpa using q
  have q2:¬x.Kind=6:=by simpa using q2
  have q3:x.Kind=7:=by simpa using q3
  have hf:inb x.From l.length=true:=p8.2 ⟨by omega,by omega⟩
  refine Ok.chk hp (Ok.chk hf (Ok.chk hp (Ok.ret ⟨by simp,?_⟩)))
  simp only [cst,if_neg q,if_neg q2,if_pos q3]
  refine c0y hw h3 (by omega) ?_
  rw [e74,hP,hw x.From (by omega) (by omega)]
 ·have q:¬x.Kind=5:=by simpa using q
  have q2:¬x.Kind=6:=by simpa using q2
  have q3:¬x.Kind=7:=by simpa using q3
  simp only [cst,if_neg q,if_neg q2,if_neg q3]
  exact Ok.ret ⟨rfl,hw⟩
theorem e2u {a:l9} (g:Good a) {c:Int} (h0:0≤c) (h1:c≤63) (t:Int):Ok (F_v a t) fun l=>(l.length:Int)=a.Places∧wof c l (hld a c t):=by
 have h2:=g.lo
 have h3:=g.hi
 unfold F_v
 refine Ok.chk (a6b.2 ⟨by omega,by omega,by omega⟩) (Ok.bind (Ok.foldI (all:=a.Events) (fun pre l=>(l.length:Int)=a.Places∧wof c l (cfo c t pre fun _=>false)) a.Events [] 0 _ rfl rfl ⟨by simp;omega,fun i hi hl=>?_⟩ (fun pre x r s hw hs=>?_) fun s hs=>hs) fun s hs=>Ok.ret hs)
 ·simp only [cfo,List.foldl_nil,List.length_replicate] at hl ⊢
  rw [zE,List.getElem?_replicate,if_pos (by omega)]
  simp [tb]
 ·unfold f7o
  have hx:=g.ev x (by rw [hw];simp)
  refine Ok.ite (fun q=>Ok.bind (c67 h0 h1 hx hs.1 hs.2) fun y hy=>Ok.ret ⟨by rw [hy.1];exact hs.1,?_⟩) fun q=>Ok.ret ⟨hs.1,?_⟩
  ·have q:x.Time≤t:=by simpa using q
   simp only [cfo,List.foldl_append,wM,List.foldl_nil,if_pos q]
   exact hy.2
  ·have q:¬x.Time≤t:=by simpa using q
   simp only [cfo,List.foldl_append,wM,List.foldl_nil,if_neg q]
   exact hs.2
theorem e6z {a:l9} (g:Good a) {c:Int} (h0:0≤c) (h1:c≤63) (t:Int):whr a c t=((List.range a.Places.toNat).filter fun i:Nat=>hld a c t i).map fun i:Nat=>(i:Int):=by
 have hc:d1y c=some true:=by simp [d1y,a6o,h0,h1]
 have h2:=g.hi
 have h3:=g.lo
 refine Ok.val (Q:=fun W=>W=((List.range a.Places.toNat).filter fun i:Nat=>hld a c t i).map fun i:Nat=>(i:Int)) ?_ (b75 g h0 h1 t)
 simp only [d6j,a3u,if_pos g,xY,decide_true,wY,vL,hc]
 refine Ok.bind (e2u g h0 h1 t) fun s hs=>Ok.bind (Ok.foldI (all:=s) (fun pre W=>W=((List.range pre.length).filter fun i:Nat=>hld a c t i).map fun i:Nat=>(i:Int)) s [] 0 _ rfl rfl rfl (fun pre x r W hw hW=>?_) fun W hW=>by rw [hW,show s.length=a.Places.toNat by omega]) fun W hW=>Ok.ret hW
 subst hW
 unfold f7c
 have hp:pre.length<s.length:=by rw [hw];simp
 have hx:=hs.2 (pre.length:Int) (by omega) (by omega)
 rw [xV,show s.getD pre.length default=x by rw [hw];simp] at hx
 have hlen:(((List.range pre.length).filter fun i:Nat=>hld a c t i).map fun i:Nat=>(i:Int)).length≤pre.length:=by
  rw [wL];exact vA (List.length_filter_le _ _) (by simp)
 refine Ok.bind (Ok.of (b6y h0 h1) rfl) fun b hb=>?_
 rw [←hb,show IntKind.wrap .u64 (1*2^c.toNat)=msk c from rfl,e3p h0 h1,hx,Bool.not_not]
 simp only [xI,zU,List.range_succ,List.filter_append,List.map_append]
 cases q:hld a c t (pre.length:Int) with
 | false=>simp only [vL];exact Ok.ret (by simp [q])
 | true =>
  simp only [vN]
  exact Ok.chk (a3o (by simp only [wL] at hlen ⊢;omega)) (Ok.ret (by simp [q]))
def g5d (a:l9) (t:Int):l9:=⟨a.Places,a.Events.filter fun x=>decide (x.Time≤t)⟩
def g5c (d:l8) (t:Int):l8:=⟨d.Kinds,d.Events.filter fun x=>decide (x.Time≤t)⟩
theorem Good.cut {a:l9} (g:Good a) (t:Int):Good (g5d a t):=g.sub List.filter_sublist
theorem a2c.cut {d:l8} (g:a2c d) (t:Int):a2c (g5c d t) :=
 ⟨g.kl,vA (List.length_filter_le _ _) g.el,g.kd,fun x hx=>g.ev x (wI.1 hx).1,g.srt.sublist List.filter_sublist⟩
theorem c3q (n lo hi:Int):c77 n lo hi=some (decide (lo≤n∧n≤hi)):=by simp [c77,grp]
open Classical in
theorem d0l (a:l9) (x:o6) (h1:1≤a.Places) (h2:a.Places≤16):f5a a x=some (decide (xok a.Places x)):=by
 have hin:∀o:Option Bool,chk (a0j (a.Places - 1)) o=o:=fun o=>o5 (a3z (n:=a.Places - 1) (by omega) (by omega))
 obtain ⟨T,K,P,pr,U,C,F⟩:=x
 simp only [f5a,c3q,xY,jn,grp,hin,decide_true,Bool.true_and]
 by_cases t1:0≤T∧T≤1099511627776
 ·by_cases t2:0≤P∧P≤a.Places - 1
  ·simp only [t1,t2,and_self,decide_true,wY,vL]
   by_cases k1:K=1
   ·subst k1
    by_cases c1:U=0<;>by_cases c2:C=0<;>by_cases c3:F=0<;>simp [xok,c1,c2,c3,t1,t2]
   by_cases k2:K=2
   ·subst k2
    by_cases c1:U=0<;>by_cases c2:C=0<;>by_cases c3:F=0<;>simp [xok,c1,c2,c3,t1,t2]
   by_cases k3:K=3
   ·subst k3
    by_cases c1:pr=0<;>by_cases c2:C=0<;>by_cases c3:F=0<;>by_cases c4:T<U<;>simp [xok,c1,c2,c3,c4,t1,t2]
   by_cases k4:K=4
   ·subst k4
    by_cases c1:pr=0<;>by_cases c2:C=0<;>by_cases c3:F=0<;>by_cases c4:U=0<;>simp [xok,c1,c2,c3,c4,t1,t2]
   by_cases k5:K=5
   ·subst k5
    by_cases c1:pr=0<;>by_cases c2:U=0<;>by_cases c3:F=0<;>simp [xok,c1,c2,c3,t1,t2]
   by_cases k6:K=6
   ·subst k6
    by_cases c1:pr=0<;>by_cases c2:U=0<;>by_cases c3:F=0<;>simp [xok,c1,c2,c3,t1,t2]
   by_cases k7:K=7
   ·subst k7
    by_cases c1:pr=0<;>by_cases c2:U=0<;>by_cases c3:C=0<;>by_cases c4:F=P<;>simp [xok,c1,c2,c3,c4,t1,t2]<;>omega
   ·simp [xok,k1,k2,k3,k4,k5,k6,k7,t1,t2]
  ·have:¬xok a.Places ⟨T,K,P,pr,U,C,F⟩:=fun h=>t2 ⟨h.2.2.1,h.2.2.2.1⟩
   simp [t1,t2,this]
 ·have:¬xok a.Places ⟨T,K,P,pr,U,C,F⟩:=fun h=>t1 ⟨h.1,h.2.1⟩
  simp [t1,this]
open Classical in
theorem b8p (a:l9) (h1:1≤a.Places) (h2:a.Places≤16) (hn:a.Events.length≤120):∀(l:List o6) (k:Nat) (last:Int),a.Events.drop k=l→(0<k→(a.Events.getD (k - 1) default).Time=last)→(k=0→last=0)→k≤a.Events.length →
  forL (f7b a) l (k:Int) ()=some (if chain a.Places last l then .nx () else .ex false)
 | [],k,last,hd,hl,h0,hk=>by simp [forL,chain]
 | x :: r,k,last,hd,hl,h0,hk=>by
  have hlt:k<a.Events.length:=by
   rcases Nat.lt_or_ge k a.Events.length with h|h
   ·exact h
   ·rw [List.drop_eq_nil_of_le h] at hd;cases hd
  rw [List.drop_eq_getElem_cons hlt] at hd
  obtain ⟨e1,e2⟩:=List.cons.inj hd
  have hx:(a.Events.getD (k+1 - 1) default)=x:=by rw [Nat.add_sub_cancel,zE,zJ hlt];exact e1
  have ih:=fun last h=>b8p a h1 h2 hn r (k+1) last e2 h (by omega) hlt
  simp only [forL,f7b,d0l a x h1 h2,xY,chain]
  by_cases c:xok a.Places x
  ·simp only [c,decide_true,wY,vL,true_and]
   have ih':=ih x.Time (fun _=>by rw [hx])
   rw [show ((k+1:Nat):Int)=(k:Int)+1 by simp] at ih'
   by_cases ck:0<k
   ·have e3:decide (0<(k:Int))=true:=wR (by omega)
    have e4:a0j ((k:Int) - 1)=true:=a3z (by omega) (by omega)
    have e5:inb ((k:Int) - 1) a.Events.length=true:=p8.2 ⟨by omega,by omega⟩
    have e6:((k:Int) - 1).toNat=k - 1:=by omega
    simp only [e3,vN,o5 e4,o5 e5,e6,hl ck]
    by_cases c3:x.Time<last
    ·have:¬last≤x.Time:=by omega
     simp [c3,this,a5y]
    ·have:last≤x.Time:=by omega
     simp [c3,this,a5m,ih']
   ·have e3:decide (0<(k:Int))=false:=wE (by omega)
    have hk0:k=0:=by omega
    have:last≤x.Time:=by rw [h0 hk0];exact c.1
    simp only [e3,vL,xY,a5m,this,true_and,ih']
  ·simp [c,a5y]
open Classical in
theorem valid_eq (a:l9):F_n a=some (decide (Good a)):=by
 simp only [F_n,c3q,xY,grp]
 by_cases c:1≤a.Places∧a.Places≤16
 ·by_cases c2:a.Events.length≤120
  ·have c':(!decide (1≤a.Places∧a.Places≤16)||decide (120<(a.Events.length:Int)))=false:=by simp [c];omega
   have h:=b8p a c.1 c.2 c2 a.Events 0 0 rfl (fun h=>by omega) (fun _=>rfl) (by omega)
   simp only [show ((0:Nat):Int)=0 from rfl] at h
   simp only [c',vL,h,xY]
   by_cases hc:chain a.Places 0 a.Events
   ·have:Good a:=(b3o a).2 ⟨c,c2,hc⟩
    simp [this,hc,a5m]
   ·have:¬Good a:=fun h=>hc ((b3o a).1 h).2.2
    simp [this,hc,a5y]
  ·have c':(!decide (1≤a.Places∧a.Places≤16)||decide (120<(a.Events.length:Int)))=true:=by simp;omega
   have:¬Good a:=fun h=>c2 h.len
   simp only [c',vN,this,decide_false]
 ·have:¬Good a:=fun h=>c ⟨h.lo,h.hi⟩
  simp [c,this]
open Classical in
theorem a7s (a:l9) (p:Int):d7z a p=F_2 a p:=by
 rw [b3i]
 simp only [d7z,valid_eq,xY,jn]
 by_cases h:Good a
 ·have:=h.lo;have:=h.hi
  simp [h,c3q,o5 (a3z (n:=a.Places - 1) (by omega) (by omega))]
 ·simp [h]
theorem b4o (a:l9) (p:Int):(F_2 a p=some true∧Good a∧0≤p∧p≤a.Places - 1)∨F_2 a p=some false:=by
 classical
 rw [b3i]
 by_cases h:Good a∧0≤p∧p≤a.Places - 1
 ·left;exact ⟨congrArg some (wR h),h⟩
 ·right;exact congrArg some (wE h)
theorem b1b {β:Type} (q k:Int) (v:β):∀m:List (Int×β),b1d q (c0x k v m)=if q=k then some v else b1d q m
 | []=>by by_cases e:q=k<;>simp [c0x,b1d,e]
 | (a,b)::r=>by
  by_cases e:k=a
  ·subst e
   by_cases e2:q=k<;>simp [c0x,b1d,e2]
  ·simp only [c0x,if_neg e,b1d,b1b q k v r]
   by_cases e2:q=a
   ·subst e2
    have:¬q=k:=fun h=>e h.symm
    simp [this]
   ·simp [e2]
theorem b5d {β:Type} {q:Int}:∀{m:List (Int×β)},q∉m.map Prod.fst→b1d q m=none
 | [],h=>rfl
 | (a,b)::r,h=>by
  simp only [wW,wV,not_or] at h
  simp only [b1d,if_neg h.1,b5d h.2]
theorem c0q {β:Type} {q:Int}:∀{m:List (Int×β)},q∈m.map Prod.fst→∃v,b1d q m=some v
 | (a,b)::r,h=>by
  by_cases e:q=a
  ·exact ⟨b,by simp [b1d,e]⟩
  ·have:q∈r.map Prod.fst:=by simpa [e] using h
   obtain ⟨v,hv⟩:=c0q this
   exact ⟨v,by simp [b1d,e,hv]⟩
theorem c2x {β:Type} (q:Int) (m:List (Int×β)):(b1d q m).isSome=decide (q∈m.map Prod.fst):=by
 by_cases h:q∈m.map Prod.fst
 ·obtain ⟨v,hv⟩:=c0q h
  rw [hv];exact (wR h).symm
 ·rw [b5d h];exact (wE h).symm
theorem b1c {β:Type} (q k:Int):∀m:List (Int×β),(m.map Prod.fst).Nodup→b1d q (c0r k m)=if q=k then none else b1d q m
 | [],h=>by simp [c0r,b1d]
 | (a,b)::r,h=>by
  simp only [wW,List.nodup_cons] at h
  by_cases e:k=a
  ·subst e
   by_cases e2:q=k
   ·subst e2
    simp only [c0r,if_true]
    exact b5d h.1
   ·simp [c0r,b1d,e2]
  ·simp only [c0r,if_neg e,b1d,b1c q k r h.2]
   by_cases e2:q=a
   ·subst e2
    have:¬q=k:=fun h=>e h.symm
    simp [this]
   ·simp [e2]
theorem b4v (p t:Int) (l:List o6):((grf p t l).map Prod.fst).Nodup:=by rw [b7x];exact b4q p t l
theorem c4e (p t:Int) (l:List o6) (x:o6):grf p t (l++[x])=gst p t l.length x (grf p t l):=by
 simp only [grf,a88,b0l,Int.zero_add]
def told (p t q:Int) (l:List o6) (n:Nat):Prop :=
 n<l.length∧(l.getD n default).Kind=1∧(l.getD n default).Place=p∧(l.getD n default).Principal=q∧(l.getD n default).Time≤t∧∀y∈l.drop (n+1),¬(y.Kind=2∧y.Place=p∧y.Principal=q∧y.Time≤t)
theorem a9s {p t q:Int} {l:List o6} {n:Nat} {x:o6} (h:told p t q l n) (hx:¬(x.Kind=2∧x.Place=p∧x.Principal=q∧x.Time≤t)):told p t q (l++[x]) n:=by
 obtain ⟨h1,h2,h3,h4,h5,h6⟩:=h
 have e:(l++[x]).getD n default=l.getD n default:=by rw [zE,zE,zH h1]
 refine ⟨by simp;omega,by rw [e];exact h2,by rw [e];exact h3,by rw [e];exact h4,by rw [e];exact h5,fun y hy=>?_⟩
 rw [List.drop_append_of_le_length (by omega),wJ,xG] at hy
 rcases hy with hy|rfl
 ·exact h6 y hy
 ·exact hx
theorem c68 (p t q:Int) (l:List o6) (k:Int) (h:b1d q (grf p t l)=some k):∃n:Nat,k=n∧told p t q l n:=by
 induction l using a2q generalizing k with
 | h0=>cases h
 | h1 l x ih =>
  rw [c4e] at h
  unfold gst at h
  split at h
  ·rename_i c
   obtain ⟨n,e,hn⟩:=ih k h
   exact ⟨n,e,a9s hn (by omega)⟩
  ·rename_i c
   split at h
   ·rename_i c2
    rw [b1b] at h
    split at h
    ·rename_i c3
     cases h
     refine ⟨l.length,rfl,by simp,?_⟩
     have e:(l++[x]).getD l.length default=x:=by simp
     rw [e]
     refine ⟨c2,by omega,c3.symm,by omega,fun y hy=>?_⟩
     rw [List.drop_eq_nil_of_le (by simp)] at hy
     cases hy
    ·obtain ⟨n,e,hn⟩:=ih k h
     exact ⟨n,e,a9s hn (by omega)⟩
   ·split at h
    ·rw [b1c _ _ _ (b4v p t l)] at h
     split at h
     ·cases h
     ·rename_i c3
      obtain ⟨n,e,hn⟩:=ih k h
      exact ⟨n,e,a9s hn fun hh=>c3 hh.2.2.1.symm⟩
    ·obtain ⟨n,e,hn⟩:=ih k h
     exact ⟨n,e,a9s hn (by omega)⟩
open Classical in
theorem b65 {d:l8} (g:a2c d) (p:Int):e5z d p=some (decide (rdr d p)):=by
 have hk:=g.kl
 have hx:F_w d p=some (decide (0≤p∧p<d.Kinds.length)):=by
  unfold F_w
  rw [o5 (a8r (by omega) (by omega))]
  simp only [c78,grp,xY]
  congr 1
  by_cases q:0≤p∧p<(d.Kinds.length:Int)
  ·rw [wR q,wR q.1,wR (show p≤(d.Kinds.length:Int) - 1 by omega)];rfl
  ·rw [wE q]
   by_cases q1:0≤p
   ·rw [wR q1,wE (show ¬p≤(d.Kinds.length:Int) - 1 by omega)];rfl
   ·rw [wE q1];rfl
 unfold e5z
 simp only [hx,xY,jn]
 by_cases q:0≤p∧p<(d.Kinds.length:Int)
 ·simp only [wR q,vN,o5 (p8.2 q),xY]
  by_cases w:d.Kinds.getD p.toNat default=2
  ·have:¬rdr d p:=fun h=>h.2.2 w
   rw [wR w,wE this];rfl
  ·have:rdr d p:=⟨q.1,q.2,w⟩
   rw [wE w,wR this];rfl
 ·have:¬rdr d p:=fun h=>q ⟨h.1,h.2.1⟩
  simp [wE q,this]
def e7q (p q t:Int) (i:Int) (x:o6) (s:Int):Int :=
 if t<x.Time∨x.Place≠p∨x.Principal≠q then s else if x.Kind=1 then i else if x.Kind=2 then -1 else s
theorem c8h (p q t k:Int) (x:o6) (s:Int):f7a p q t k x s=some (e7q p q t k x s):=by
 simp only [f7a,grp,e7q]
 by_cases c:t<x.Time∨x.Place≠p∨x.Principal≠q
 ·have c':(decide (t<x.Time)||!decide (x.Place=p)||!decide (x.Principal=q))=true:=by
   simp only [wP,xN,xW,zK];omega
  simp only [c',vN,if_pos c]
 ·have c':(decide (t<x.Time)||!decide (x.Place=p)||!decide (x.Principal=q))=false:=by
   simp only [xC,zK,Bool.not_eq_false',xN];omega
  simp only [c',vL,if_neg c]
  by_cases c2:x.Kind=1
  ·simp [c2]
  ·by_cases c3:x.Kind=2<;>simp [c2,c3]
theorem c1m (p q t:Int) (l:List o6):b0l (e7q p q t) l 0 (-1)=(b1d q (grf p t l)).getD (-1):=by
 induction l using a2q with
 | h0=>rfl
 | h1 l x ih =>
  rw [a88,c4e]
  simp only [b0l,Int.zero_add,ih,e7q,gst]
  by_cases c:t<x.Time∨x.Place≠p
  ·rw [if_pos (by omega),if_pos c]
  ·rw [if_neg c]
   by_cases cq:x.Principal=q
   ·rw [if_neg (by omega)]
    by_cases c2:x.Kind=1
    ·rw [if_pos c2,if_pos c2,b1b,if_pos cq.symm];rfl
    ·rw [if_neg c2,if_neg c2]
     by_cases c3:x.Kind=2
     ·rw [if_pos c3,if_pos c3,b1c _ _ _ (b4v p t l),if_pos cq.symm];rfl
     ·rw [if_neg c3,if_neg c3]
   ·have cq':¬q=x.Principal:=fun h=>cq h.symm
    rw [if_pos (by omega)]
    by_cases c2:x.Kind=1
    ·rw [if_pos c2,b1b,if_neg cq']
    ·rw [if_neg c2]
     by_cases c3:x.Kind=2
     ·rw [if_pos c3,b1c _ _ _ (b4v p t l),if_neg cq']
     ·rw [if_neg c3]
theorem c5m (a:l9) (p q t:Int):f4t a p q t=some ((b1d q (grf p t a.Events)).getD (-1)):=by
 simp only [f4t,a9h (e7q p q t) (c8h p q t),xY,c1m]
theorem c2w {p t q k:Int} {l:List o6} (h:b1d q (grf p t l)=some k):0≤k:=by
 obtain ⟨n,rfl,_⟩:=c68 p t q l k h;omega
theorem a94 (n:Nat):((List.range n).map fun i:Nat=>(i:Int)).Pairwise fun x y=>x<y:=by
 rw [List.pairwise_map]
 exact List.pairwise_lt_range.imp fun h=>by omega
theorem b46 (a:l9) (p t:Int):e6s a p t=F_c a p t:=by
 simp only [e6s,a7s]
 rcases b4o a p with ⟨h,g,_⟩|h
 ·rw [b22 t g.len h,h]
  simp only [xY,wY,vL]
  have key:∀q:Int,decide (0≤(b1d q (grf p t a.Events)).getD (-1))=decide (q∈a3t p t a.Events):=fun q=>by
   have e:(b1d q (grf p t a.Events)).isSome=decide (q∈a3t p t a.Events):=by rw [c2x,b7x]
   rw [←e]
   cases ha:b1d q (grf p t a.Events) with
   | none=>rfl
   | some k=>simpa using c2w ha
  refine Ok.eq (Ok.bind (Ok.loop (Q:=fun r=>r=c71 (a3t p t a.Events)) (fun x=>0≤x.1∧x.1≤24∧x.2=((List.range x.1.toNat).map fun i:Nat=>(i:Int)).filter fun q=>decide (q∈a3t p t a.Events)) (fun x=>(24 - x.1).toNat) (fun x hx=>?_) _ ⟨by omega,by omega,rfl⟩) fun r hr=>Ok.ret hr)
  obtain ⟨i,out⟩:=x
  obtain ⟨h1,h2,h3⟩:=hx
  simp only at h1 h2 h3
  subst h3
  have hl:=List.length_filter_le (fun q=>decide (q∈a3t p t a.Events)) ((List.range i.toNat).map fun i:Nat=>(i:Int))
  simp only [wL,List.length_range] at hl
  unfold g2e
  refine Ok.ite (fun c=>?_) fun c=>?_
  ·have c:i<24:=by simpa using c
   rw [c5m]
   simp only [xY,key]
   have e1:(i+1).toNat=i.toNat+1:=by omega
   refine Ok.jn (P:=fun j=>j=((List.range (i+1).toNat).map fun i:Nat=>(i:Int)).filter fun q=>decide (q∈a3t p t a.Events)) (Ok.ite (fun cc=>Ok.chk (a3o (by simp only [zU];omega)) (Ok.ret ?_)) fun cc=>Ok.ret ?_) fun j hj=>?_
   ·rw [e1,List.range_succ,List.map_append,List.filter_append]
    have e2:((i.toNat:Nat):Int)=i:=by omega
    simp only [wW,vE,e2,List.filter_cons,cc,if_true,List.filter_nil]
   ·rw [e1,List.range_succ,List.map_append,List.filter_append]
    have e2:((i.toNat:Nat):Int)=i:=by omega
    simp [e2,cc]
   ·refine Ok.chk (a3z (by omega) (by omega)) (Ok.ret ?_)
    exact ⟨⟨by show 0≤i+1;omega,by show i+1≤24;omega,hj⟩,by show (24 - (i+1)).toNat<(24 - i).toNat;omega⟩
  ·have c:¬i<24:=by simpa using c
   have:i=24:=by omega
   subst this
   refine Ok.ret ?_
   show _=_
   have hsr:(((List.range (Int.toNat 24)).map fun i:Nat=>(i:Int)).filter fun q=>decide (q∈a3t p t a.Events)).Pairwise (fun x y=>x≤y):=List.Pairwise.filter _ ((a94 24).imp fun h=>vF h)
   refine a9u ?_ hsr (a6q _)
   refine List.Perm.trans ?_ (a9t _).symm
   refine (List.perm_ext_iff_of_nodup ?_ (b4q p t a.Events)).2 fun q=>?_
   ·exact List.Pairwise.filter _ ((a94 24).imp fun h=>Int.ne_of_lt h)
   ·simp only [wI,vD,List.mem_range,xN]
    constructor
    ·rintro ⟨_,h⟩;exact h
    ·intro hq
     refine ⟨?_,hq⟩
     obtain ⟨w,hw,hw1,hw2,_⟩:=c9u hq
     have:=(g.ev w hw).2.2.2.2
     exact ⟨q.toNat,by show q.toNat<(24:Int).toNat;omega,by omega⟩
 ·simp [h,F_c]
def unl (p t:Int) (y:o6):Prop:=y.Kind=4∧y.Place=p∧y.Time≤t
def lnk (p t:Int) (x:o6):Prop:=x.Kind=3∧x.Place=p∧x.Time≤t∧t<x.Until
def b07 (p t:Int) (l:List o6) (k:Nat):Prop:=lnk p t (l.getD k default)∧∀y∈l.drop (k+1),¬unl p t y
open Classical in
def c8n (p t:Int) (l:List o6):Nat→Int×Bool
 | 0=>(0,false)
 | n+1=>if b07 p t l n then ((n:Int),true) else c8n p t l n
theorem b6b {p t:Int} {l:List o6} {x:o6} {k:Nat} (hk:k<l.length):b07 p t (l++[x]) k↔b07 p t l k∧¬unl p t x:=by
 unfold b07
 rw [show (l++[x]).getD k default=l.getD k default by rw [zE,zE,zH hk],List.drop_append_of_le_length (by omega)]
 simp only [wJ,xG]
 constructor
 ·rintro ⟨h1,h2⟩
  exact ⟨⟨h1,fun y hy=>h2 y (.inl hy)⟩,h2 x (.inr rfl)⟩
 ·rintro ⟨⟨h1,h2⟩,h3⟩
  refine ⟨h1,fun y hy=>?_⟩
  rcases hy with hy|rfl
  ·exact h2 y hy
  ·exact h3
theorem b91 {p t:Int} {l:List o6} {x:o6}:∀{n:Nat},n≤l.length→(unl p t x→c8n p t (l++[x]) n=(0,false))∧(¬unl p t x→c8n p t (l++[x]) n=c8n p t l n)
 | 0,h=>⟨fun _=>rfl,fun _=>rfl⟩
 | n+1,h=>by
  have ih:=b91 (p:=p) (t:=t) (l:=l) (x:=x) (n:=n) (by omega)
  constructor
  ·intro hu
   have:¬b07 p t (l++[x]) n:=fun h'=>((b6b (by omega)).1 h').2 hu
   simp only [c8n,if_neg this,ih.1 hu]
  ·intro hu
   have:b07 p t (l++[x]) n↔b07 p t l n:=by rw [b6b (by omega)];exact ⟨fun h=>h.1,fun h=>⟨h,hu⟩⟩
   by_cases hh:b07 p t l n
   ·simp only [c8n,if_pos (this.2 hh),if_pos hh]
   ·simp only [c8n,if_neg (fun h=>hh (this.1 h)),if_neg hh,ih.2 hu]
theorem d38 (p t:Int) (l:List o6):c8n p t l l.length=lkf p t l 0 (0,false):=by
 induction l using a2q with
 | h0=>rfl
 | h1 l x ih =>
  rw [xI,zU,b1w]
  simp only [lkf,Int.zero_add,c8n]
  have e:(l++[x]).getD l.length default=x:=by simp
  have ho:b07 p t (l++[x]) l.length↔lnk p t x:=by
   unfold b07
   rw [e,List.drop_eq_nil_of_le (by simp)]
   simp
  rw [←ih]
  have hs:=b91 (p:=p) (t:=t) (l:=l) (x:=x) (vI l.length)
  unfold lst
  by_cases hl:lnk p t x
  ·rw [if_pos (ho.2 hl)]
   obtain ⟨h1,h2,h3,h4⟩:=hl
   rw [if_neg (by omega),if_neg (by omega),if_pos ⟨h1,h4⟩]
  ·rw [if_neg fun h=>hl (ho.1 h)]
   by_cases hu:unl p t x
   ·rw [hs.1 hu]
    obtain ⟨h1,h2,h3⟩:=hu
    rw [if_neg (by omega),if_pos h1]
   ·rw [hs.2 hu]
    by_cases c:t<x.Time∨x.Place≠p
    ·rw [if_pos c]
    ·rw [if_neg c]
     have:¬x.Kind=4:=fun h=>hu ⟨h,by omega,by omega⟩
     rw [if_neg this]
     have:¬(x.Kind=3∧t<x.Until):=fun h=>hl ⟨h.1,by omega,by omega,h.2⟩
     rw [if_neg this]
open Classical in
theorem f0r (p t:Int):∀m:List o6,a4r (fun y=>if unl p t y then some false else none) m=if ∀y∈m,¬unl p t y then none else some false
 | []=>by simp [a4r]
 | y :: r=>by
  by_cases hu:unl p t y
  ·have:¬∀z∈y::r,¬unl p t z:=fun h=>h y (by simp) hu
   rw [if_neg this]
   simp only [a4r,if_pos hu]
  ·simp only [a4r,if_neg hu,f0r p t r]
   by_cases hr:∀z∈r,¬unl p t z
   ·have:∀z∈y::r,¬unl p t z:=fun z hz=>by
     rcases wV.1 hz with rfl|hz
     ·exact hu
     ·exact hr z hz
    rw [if_pos hr,if_pos this]
   ·have:¬∀z∈y::r,¬unl p t z:=fun h=>hr fun z hz=>h z (by simp [hz])
    rw [if_neg hr,if_neg this]
open Classical in
theorem d9r {a:l9} {p t:Int} (hn:a.Events.length≤120) (h:F_2 a p=some true) {k:Nat} (hk:k<a.Events.length):∃b,e4m a p (k:Int) t=some b∧(b=true↔b07 p t a.Events k):=by
 have i1:a0j ((a.Events.length:Int) - 1)=true:=a3z (by omega) (by omega)
 have i2:decide (0≤(k:Int)∧(k:Int)≤(a.Events.length:Int) - 1)=true:=wR (by omega)
 have i3:inb (k:Int) a.Events.length=true:=p8.2 ⟨by omega,by omega⟩
 have i4:a0j ((k:Int)+1)=true:=a3z (by omega) (by omega)
 have i5:inc ((k:Int)+1) (a.Events.length:Int) a.Events.length=true:=a1u.2 ⟨by omega,by omega,by omega⟩
 have i6:((k:Int)+1).toNat=k+1:=by omega
 simp only [e4m,a7s,h,xY,wY,vL,o5 i1,c3q,i2,o5 i3,o5 i4,o5 i5,i6,xV,grp]
 by_cases c1:lnk p t (a.Events.getD k default)
 ·have c1':=c1
  unfold lnk at c1'
  have e:(!decide ((a.Events.getD k default).Kind=3)||!decide ((a.Events.getD k default).Place=p)||decide (t<(a.Events.getD k default).Time)||decide ((a.Events.getD k default).Until≤t))=false:=by
   simp only [xC,zK,Bool.not_eq_false',xN];omega
  simp only [e,vL]
  rw [a2l (fun y=>if unl p t y then some false else none) (a.Events.drop (k+1)) 0 fun k y _=>by
   simp only [g2f,grp]
   by_cases hu:unl p t y
   ·have e:(decide (y.Kind=4)&&decide (y.Place=p)&&decide (y.Time≤t))=true:=by
     simp only [wC,xN];exact ⟨⟨hu.1,hu.2.1⟩,hu.2.2⟩
    simp only [e,vN,if_pos hu,flO]
   ·have e:(decide (y.Kind=4)&&decide (y.Place=p)&&decide (y.Time≤t))=false:=by
     cases hh:(decide (y.Kind=4)&&decide (y.Place=p)&&decide (y.Time≤t)) with
     | false=>rfl
     | true =>
      simp only [wC,xN] at hh
      exact absurd ⟨hh.1.1,hh.1.2,hh.2⟩ hu
    simp only [e,vL,if_neg hu,flO]]
  simp only [xY,a6y,f0r]
  by_cases hr:∀y∈a.Events.drop (k+1),¬unl p t y
  ·simp only [if_pos hr]
   exact ⟨true,rfl,fun _=>⟨c1,hr⟩,fun _=>rfl⟩
  ·simp only [if_neg hr]
   exact ⟨false,rfl,iff_of_false (by simp) fun h=>hr h.2⟩
 ·have e:(!decide ((a.Events.getD k default).Kind=3)||!decide ((a.Events.getD k default).Place=p)||decide (t<(a.Events.getD k default).Time)||decide ((a.Events.getD k default).Until≤t))=true:=by
   unfold lnk at c1
   simp only [wP,xN,xW,zK];omega
  simp only [e,vN]
  exact ⟨false,rfl,iff_of_false (by simp) fun h=>c1 h.1⟩
open Classical in
theorem d9s {a:l9} {p t:Int} (hn:a.Events.length≤120) (h:F_2 a p=some true) {k:Nat} (hk:k<a.Events.length):e4m a p (k:Int) t=some (decide (b07 p t a.Events k)):=by
 obtain ⟨b,hb,hb2⟩:=d9r (t:=t) hn h hk
 rw [hb]
 by_cases c:b07 p t a.Events k
 ·rw [hb2.2 c,wR c]
 ·have:b=false:=by cases b with
   | false=>rfl
   | true=>exact absurd (hb2.1 rfl) c
  rw [this,wE c]
theorem c3t {a:l9} {p t:Int} (hn:a.Events.length≤120) (h:F_2 a p=some true):∀{n:Nat},n≤a.Events.length→∃r,loop (e4g a p t) ((n:Int) - 1)=some r∧Sum.elim (fun _=>some (0,false)) (fun u=>some u) r=some (c8n p t a.Events n)
 | 0,hl=>by
  rw [a1t]
  simp only [e4g]
  exact ⟨.inl (),rfl,rfl⟩
 | n+1,hl=>by
  classical
  rw [a1t]
  have e0:((n+1:Nat):Int) - 1=(n:Int):=by omega
  have e1:decide (0≤(n:Int))=true:=wR (by omega)
  rw [e0]
  simp only [e4g,e1,vN,d9s hn h (show n<a.Events.length by omega),xY,c8n]
  by_cases c:b07 p t a.Events n
  ·simp only [c,decide_true,vN,xY,a5y,if_true]
   exact ⟨_,rfl,rfl⟩
  ·have i1:a0j ((n:Int) - 1)=true:=a3z (by omega) (by omega)
   simp only [c,decide_false,vL,o5 i1,xY,a5m,if_false]
   exact c3t hn h (by omega)
theorem c3s {a:l9} {p t:Int} (hn:a.Events.length≤120) (h:F_2 a p=some false):∀{n:Nat},n≤a.Events.length→loop (e4g a p t) ((n:Int) - 1)=some (.inl ())
 | 0,hl=>by
  rw [a1t]
  rfl
 | n+1,hl=>by
  rw [a1t]
  have e0:((n+1:Nat):Int) - 1=(n:Int):=by omega
  have e1:decide (0≤(n:Int))=true:=wR (by omega)
  have i1:a0j ((n:Int) - 1)=true:=a3z (by omega) (by omega)
  rw [e0]
  simp only [e4g,e1,vN,e4m,a7s,h,xY,wT,vL,o5 i1,a5m]
  exact c3s hn h (by omega)
theorem b1n (a:l9) (p t:Int) (hn:a.Events.length≤120):e4l a p t=F_3 a p t:=by
 have i1:a0j ((a.Events.length:Int) - 1)=true:=a3z (by omega) (by omega)
 simp only [e4l,o5 i1]
 rcases b4o a p with ⟨h,_⟩|h
 ·rw [a5d t h,←d38]
  obtain ⟨r,h1,h2⟩:=c3t (t:=t) hn h (vI _)
  rw [h1]
  exact h2
 ·rw [c9l t h,c3s hn h (vI _)]
  rfl
theorem a6c {d:l8} (hk:d.Kinds.length≤24) (p:Int):F_w d p=some (decide (0≤p∧p<d.Kinds.length)):=by
 unfold F_w
 rw [o5 (a8r (by omega) (by omega))]
 simp only [c78,grp,xY]
 congr 1
 by_cases q:0≤p∧p<(d.Kinds.length:Int)
 ·rw [wR q,wR q.1,wR (show p≤(d.Kinds.length:Int) - 1 by omega)];rfl
 ·rw [wE q]
  by_cases q1:0≤p
  ·rw [wR q1,wE (show ¬p≤(d.Kinds.length:Int) - 1 by omega)];rfl
  ·rw [wE q1];rfl
theorem a8b {d:l8} (g:a2c d):F_d d=some true:=by
 have hk:=g.kl
 have he:=g.el
 have hin:∀x a b:Int,c78 x a b=some (decide (a≤x∧x≤b)):=fun x a b=>by simp [c78,grp]
 refine Ok.eq ?_
 unfold F_d
 refine Ok.grp (Ok.ite (fun q=>?_) fun _=>Ok.bind (P:=fun o=>o=.nx ()) (Ok.for (fun _=>True) _ 0 () trivial (fun k x s hx _=>?_) fun s _=>rfl) fun o ho=>?_)
 ·simp only [wP,xN] at q;omega
 ·unfold f4u
  rw [hin,wR (g.kd x hx)]
  exact Ok.ret trivial
 subst ho
 rw [a5m]
 refine Ok.bind (P:=fun o=>o=.nx ()) (Ok.forI (all:=d.Events) (fun _ _=>True) _ [] 0 () rfl rfl trivial (fun pre x r s hw _=>?_) fun s _=>rfl) fun o ho=>by subst ho;exact Ok.ret rfl
 have hx:x∈d.Events:=by rw [hw];simp
 obtain ⟨m1,m2,m3,m4,m5,m6⟩:=g.ev x hx
 have hgr:d2b d x.Group=some true:=by
  unfold d2b
  rw [a6c hk,wR (show 0≤x.Group∧x.Group<(d.Kinds.length:Int) from ⟨m5.1,m5.2.1⟩)]
  simp only [xY,vN,jn,o5 (p8.2 ⟨m5.1,m5.2.1⟩),wR m5.2.2]
 have hp:pre.length<d.Events.length:=by rw [hw];simp
 have rest:Ok ((F_w d x.Principal).bind fun y251=>bif (!y251) then some (.ex false) else (d2b d x.Group).bind fun y252=>bif (!y252) then some (.ex false) else bif decide (x.Principal=x.Group) then some (.ex false) else some (.nx ())) (Fl.elim (fun _:Unit=>True) fun r:Bool=>(Fl.ex r:Fl Unit Bool)=.nx ()):=by
  rw [a6c hk,wR m4,hgr]
  simp only [xY,wY,vL,wE m6]
  exact Ok.ret trivial
 unfold f4j
 rw [hin,hin,wR (show 1≤x.Kind∧x.Kind≤2 by omega),wR (show 0≤x.Time∧x.Time≤1099511627776 from ⟨m2,m3⟩)]
 simp only [xY,wY,vL]
 refine Ok.ite (fun q=>?_) fun _=>rest
 have q:0<(pre.length:Int):=by simpa using q
 have h1:(pre.length:Int) - 1<d.Events.length:=by omega
 refine Ok.chk (a8r (by omega) (by omega)) (Ok.chk (p8.2 ⟨by omega,h1⟩) (Ok.ite (fun w=>?_) fun _=>rest))
 exfalso
 have w:=of_decide_eq_true w
 have hlt:pre.length - 1<d.Events.length:=by omega
 have e:d.Events.getD ((pre.length:Int) - 1).toNat default=d.Events[pre.length - 1]:=by
  rw [show ((pre.length:Int) - 1).toNat=pre.length - 1 by omega,zE,zJ hlt];rfl
 have e2:d.Events[pre.length]=x:=by simp [hw]
 have:=(List.pairwise_iff_getElem.1 g.srt) (pre.length - 1) pre.length hlt hp (by omega)
 rw [e2] at this
 rw [e] at w
 omega
theorem c5a {d:l8} (g:a2c d) {p:Int} (t:Int) (h0:0≤p) (h1:p<d.Kinds.length):e6x d p t=some (upl d p t):=by
 have hk:=g.kl
 simp only [e6x,a8b g,a6c hk,wR (show 0≤p∧p<(d.Kinds.length:Int) from ⟨h0,h1⟩),xY,wY,vL]
 have hu:upF d.Kinds.length (d.Events.map fun e=>(e.Time,e.Kind,e.Principal,e.Group)) p t=some ((List.range d.Kinds.length).map (oul (dlk d t) d.Kinds.length (fun i=>decide (i=p.toNat)) d.Kinds.length)):=by
  unfold upF
  rw [o5,o5]
  ·simp [dlk]
  ·simp only [wB,vD]
   rintro _ ⟨e,he,rfl⟩
   obtain ⟨_,_,_,h4,h5,_⟩:=g.ev e he
   have e1:inb e.Principal 24=true:=p8.2 ⟨h4.1,by omega⟩
   have e2:inb e.Group 24=true:=p8.2 ⟨h5.1,by omega⟩
   simp [e1,e2]
  ·rw [p8.2 ⟨h0,h1⟩,wR hk];rfl
 rw [hu]
 generalize hy:(List.range d.Kinds.length).map (oul (dlk d t) d.Kinds.length (fun i=>decide (i=p.toNat)) d.Kinds.length)=y
 have hyl:y.length=d.Kinds.length:=by rw [←hy];simp
 have hyi:∀i,i<d.Kinds.length→gt y i=oul (dlk d t) d.Kinds.length (fun i=>decide (i=p.toNat)) d.Kinds.length i:=fun i hi=>by
  rw [←hy];simp [gt,zE,hi]
 have hpn:p.toNat<d.Kinds.length:=by omega
 have hRT:∀i,i<d.Kinds.length→(gt y i=true↔RT (dlk d t) d.Kinds.length p.toNat i):=fun i hi=>by
  rw [hyi i hi]
  constructor
  ·exact b94 (P:=fun i=>RT (dlk d t) d.Kinds.length p.toNat i) (fun a b ha hb h hl=>.step h ha hb hl) (fun i h=>by
    have:=of_decide_eq_true h
    subst this;exact .refl) _ i
  ·intro h
   induction h with
   | refl=>exact c3v (by simp) _
   | step h ha hb hl ih=>exact b6a hpn _ _ ha hb (ih ha) hl
 have ht:=c3a y (by omega)
 have hup:g2j=f7e:=rfl
 simp only [e4r] at ht
 simp only [xY,hup]
 rw [ht]
 simp only [upl,hyl]
 congr 2
 refine List.filter_congr fun i hi=>?_
 have:=hRT i (List.mem_range.1 hi)
 cases e:gt y i with
 | true=>simp [this.1 e]
 | false =>
  have h:¬RT (dlk d t) d.Kinds.length p.toNat i:=fun h=>by rw [this.2 h] at e;cases e
  simp [h]
theorem d9l (l:List Int) (x:Int):f3r l x=some (decide (x∈l)):=by
 simp only [f3r]
 rw [a2l (fun y=>if y=x then some true else none) l 0 (fun k y _=>by by_cases e:y=x<;>simp [g2d,e,flO])]
 simp only [xY,a6y]
 have:a4r (fun y=>if y=x then some true else none) l=if x∈l then some true else none:=by
  induction l with
  | nil=>rfl
  | cons y r ih =>
   by_cases e:y=x
   ·simp [a4r,e]
   ·have e':¬x=y:=fun h=>e h.symm
    simp [a4r,e,e',ih]
 rw [this]
 by_cases e:x∈l<;>simp [e]
open Classical in
theorem c1l {d:l8} {a:l9} {p pl t:Int} {U G:List Int} (h1:e6x d p t=some U) (h2:e6s a pl t=some G):f4s d a p pl t=some (decide (∃x∈G,x∈U)):=by
 simp only [f4s,h1,h2,xY]
 rw [a2l (fun y=>if y∈U then some true else none) G 0 (fun k y _=>by by_cases e:y∈U<;>simp [g2c,d9l,e,flO])]
 simp only [xY,a6y]
 have:a4r (fun y=>if y∈U then some true else none) G=if ∃x∈G,x∈U then some true else none:=by
  clear h1 h2
  induction G with
  | nil=>simp [a4r]
  | cons y r ih =>
   by_cases e:y∈U
   ·simp [a4r,e]
   ·simp only [a4r,if_neg e]
    rw [ih]
    simp [e]
 rw [this]
 by_cases e:∃x∈G,x∈U<;>simp [e]
open Classical in
theorem c8f {d:l8} {a:l9} (g:a2c d) (h:Good a) (p pl t:Int):e5y d a p pl t=some (decide (b6g d a p pl t)):=by
 simp only [e5y,a8b g,a7s,b65 g,b1n a pl t h.len,b46,xY,wY,vL]
 by_cases c1:0≤pl∧pl≤a.Places - 1
 ·have hk:=a8q h c1.1 c1.2
  simp only [hk,xY,wY,vL]
  by_cases c:rdr d p
  ·simp only [wR c,wY,vL,a5d t hk,xY]
   cases e:(lkf pl t a.Events 0 (0,false)).2 with
   | true =>
    simp only [vN,jn,xY]
    rw [wR (show b6g d a p pl t from ⟨⟨c,c1⟩,.inl e⟩)]
   | false =>
    rw [c1l (c5a g t c.1 c.2.1) (by rw [b46];exact b22 t h.len hk)]
    simp only [vL,jn,xY,b3g]
    congr 1
    refine decide_eq_decide.2 ⟨fun q=>⟨⟨c,c1⟩,.inr q⟩,fun q=>?_⟩
    rcases q.2 with q|q
    ·rw [e] at q;cases q
    ·exact q
  ·simp only [wE c,wT,vN]
   rw [wE (fun q:b6g d a p pl t=>c q.1.1)]
 ·have hk:F_2 a pl=some false:=by
   rw [b3i,wE (fun q:Good a∧0≤pl∧pl≤a.Places - 1=>c1 q.2)]
  simp only [hk,xY,wT,vN]
  rw [wE (fun q:b6g d a p pl t=>c1 q.1.2)]
theorem c2a {a:l9} (g:Good a) (t:Int):Ok (f3p a t) fun n=>∃k:Nat,n=(k:Int)∧k≤a.Events.length∧(∀x∈a.Events.take k,x.Time≤t)∧∀x∈a.Events.drop k,t<x.Time:=by
 have hl:=g.len
 unfold f3p
 refine Ok.bind (Ok.loop (fun s:Int=>∃k:Nat,s=(k:Int)∧k≤a.Events.length∧∀x∈a.Events.take k,x.Time≤t) (fun s=>((a.Events.length:Int) - s).toNat) (fun s hs=>?_) _ ⟨0,rfl,by omega,by simp⟩) fun r hr=>Ok.ret hr
 obtain ⟨k,rfl,h1,h2⟩:=hs
 unfold g29
 refine Ok.ite (fun q=>?_) fun q=>Ok.ret ⟨k,rfl,h1,h2,fun x hx=>?_⟩
 ·have q:(k:Int)<a.Events.length:=by simpa using q
  have hk:k<a.Events.length:=by omega
  have e:a.Events.getD (k:Int).toNat default=a.Events[k]:=by
   rw [xV,zE,zJ hk];rfl
  refine Ok.chk (p8.2 ⟨by omega,q⟩) ?_
  rw [e]
  refine Ok.ite (fun w=>Ok.chk (a8r (by omega) (by omega)) (Ok.ret ⟨⟨k+1,by simp,by omega,fun x hx=>?_⟩,by show ((a.Events.length:Int) - ((k:Int)+1)).toNat<((a.Events.length:Int) - (k:Int)).toNat;omega⟩)) fun w=>Ok.ret ⟨k,rfl,h1,h2,fun x hx=>?_⟩
  ·rw [List.take_succ,zJ hk] at hx
   simp only [Option.toList_some,wJ,xG] at hx
   rcases hx with hx|rfl
   ·exact h2 x hx
   ·exact of_decide_eq_true w
  ·have w:¬a.Events[k].Time≤t:=of_decide_eq_false w
   rw [List.drop_eq_getElem_cons hk] at hx
   have hs:(a.Events.drop k).Pairwise fun x y=>x.Time≤y.Time:=g.srt.sublist (List.drop_sublist _ _)
   rw [List.drop_eq_getElem_cons hk,List.pairwise_cons] at hs
   rcases wV.1 hx with rfl|hx
   ·omega
   ·have:=hs.1 x hx;omega
 ·have q:¬(k:Int)<a.Events.length:=by simpa using q
  rw [List.drop_eq_nil_of_le (by omega)] at hx
  cases hx
theorem d14 {c t:Int}:∀{E:List o6} {s:Int→Bool},(∀x∈E,x.Time≤t)→cfo c t E s=E.foldl (fun s x=>cst c x s) s
 | [],s,_=>rfl
 | x::r,s,h=>by
  simp only [cfo,wM,if_pos (h x (by simp))]
  exact d14 (E:=r) fun y hy=>h y (by simp [hy])
theorem d7p {c t:Int}:∀{E:List o6} {s:Int→Bool},(∀x∈E,t<x.Time)→cfo c t E s=s
 | [],s,_=>rfl
 | x::r,s,h=>by
  have:=h x (by simp)
  simp only [cfo,wM,if_neg (show ¬x.Time≤t by omega)]
  exact d7p (E:=r) fun y hy=>h y (by simp [hy])
theorem d4i {a:l9} {c t:Int} {k:Nat} (h1:∀x∈a.Events.take k,x.Time≤t) (h2:∀x∈a.Events.drop k,t<x.Time):hld a c t=(a.Events.take k).foldl (fun s x=>cst c x s) fun _=>false:=by
 have:hld a c t=cfo c t (a.Events.drop k) (cfo c t (a.Events.take k) fun _=>false):=by
  simp only [hld,cfo]
  rw [←List.foldl_append,List.take_append_drop]
 rw [this,d7p h2,d14 h1]
def bof (l:List Bool) (s:Int→Bool):Prop:=∀i:Int,0≤i→i<l.length→l.getD i.toNat default=s i
theorem e3d {l:List Bool} {s:Int→Bool} (h:bof l s) {p:Int} {b:Bool} (hp:0≤p) (hl:p<l.length):bof (l.set p.toNat b) (upd s p b):=by
 intro i h0 h1
 rw [List.length_set] at h1
 simp only [upd,zE,xQ]
 by_cases e:i=p
 ·subst e
  simp [show i.toNat<l.length by omega]
 ·rw [if_neg (by omega),if_neg e]
  have:=h i h0 h1
  rwa [zE] at this
theorem d3i {P c:Int} {l:List Bool} {s:Int→Bool} {x:o6} (k:Int) (h:xok P x) (hl:(l.length:Int)=P) (hw:bof l s):Ok (f6y c k x l) fun l'=>l'.length=l.length∧bof l' (cst c x s):=by
 obtain ⟨_,_,h3,h4,h5⟩:=h
 have hp:inb x.Place l.length=true:=p8.2 ⟨h3,by omega⟩
 have hP:=hw x.Place h3 (by omega)
 have fin:∀b b':Bool,b=b'→Ok (chk (inb x.Place l.length) (some (l.set x.Place.toNat b))) fun l'=>l'.length=l.length∧bof l' (upd s x.Place b'):=fun b b' e=>by
  subst e
  exact Ok.chk hp (Ok.ret ⟨by simp,e3d hw h3 (by omega)⟩)
 unfold f6y
 refine Ok.ite (fun q=>?_) fun q=>Ok.ite (fun q2=>?_) fun q2=>Ok.ite (fun q3=>?_) fun q3=>?_
 ·have q:x.Kind=5:=by simpa using q
  simp only [cst,if_pos q]
  refine Ok.chk hp (Ok.ite (fun w=>fin _ _ ?_) fun w=>fin _ _ ?_)
  ·rw [hP] at w;rw [w];rfl
  ·rw [hP] at w;rw [w];rfl
 ·have q:¬x.Kind=5:=by simpa using q
  have q2:x.Kind=6:=by simpa using q2
  simp only [cst,if_neg q,if_pos q2]
  refine Ok.chk hp (Ok.ite (fun w=>fin _ _ ?_) fun w=>fin _ _ ?_)
  ·rw [hP] at w;rw [w];rfl
  ·rw [hP] at w;rw [w];rfl
 ·have q:¬x.Kind=5:=by simpa using q
  have q2:¬x.Kind=6:=by simpa using q2
  have q3:x.Kind=7:=by simpa using q3
  simp only [cst,if_neg q,if_neg q2,if_pos q3]
  refine Ok.chk hp (Ok.ite (fun w=>fin _ _ ?_) fun w=>Ok.chk (p8.2 ⟨by omega,by omega⟩) (fin _ _ ?_))
  ·rw [hP] at w;rw [w];rfl
  ·rw [hP] at w;rw [w,hw x.From (by omega) (by omega)];rfl
 ·have q:¬x.Kind=5:=by simpa using q
  have q2:¬x.Kind=6:=by simpa using q2
  have q3:¬x.Kind=7:=by simpa using q3
  simp only [cst,if_neg q,if_neg q2,if_neg q3]
  exact Ok.ret ⟨rfl,hw⟩
theorem e7w {a:l9} (g:Good a) (c:Int) {k:Nat} (hk:k≤a.Events.length):Ok (f4q a c (k:Int)) fun l=>(l.length:Int)=a.Places∧bof l ((a.Events.take k).foldl (fun s x=>cst c x s) fun _=>false):=by
 have h2:=g.lo
 have h3:=g.hi
 unfold f4q
 refine Ok.chk (a6b.2 ⟨by omega,by omega,by omega⟩) (Ok.chk (a1u.2 ⟨by omega,by omega,by omega⟩) ?_)
 rw [xV]
 refine Ok.bind (Ok.foldI (all:=a.Events.take k) (fun pre l=>(l.length:Int)=a.Places∧bof l (pre.foldl (fun s x=>cst c x s) fun _=>false)) (a.Events.take k) [] 0 _ rfl rfl ⟨by simp;omega,fun i hi hl=>?_⟩ (fun pre x r s hw hs=>?_) fun s hs=>hs) fun s hs=>Ok.ret hs
 ·simp only [List.foldl_nil,List.length_replicate] at hl ⊢
  rw [zE,List.getElem?_replicate,if_pos (by omega)]
  rfl
 ·have hx:=g.ev x (List.mem_of_mem_take (i:=k) (by rw [hw];simp))
  refine Ok.mono (d3i _ hx hs.1 hs.2) fun l' hl'=>⟨by rw [hl'.1];exact hs.1,?_⟩
  simp only [List.foldl_append,wM,List.foldl_nil]
  exact hl'.2
end
end Go.Ab
namespace Go.Ab
open Go.Proofs Classical
theorem b7k:∀(xs:List Bool) (k:Nat) (s:List Int),s.length+xs.length≤1000→foldL f6x xs (k:Int) s=some (s++((List.range xs.length).filter fun i=>xs.getD i false).map fun i:Nat=>((k+i:Nat):Int))
 | [],k,s,_=>by simp [foldL]
 | x::r,k,s,h=>by
  simp only [x5] at h
  have e1:((List.range (r.length+1)).filter fun i=>(x::r).getD i false)=(if x then [0] else [])++((List.range r.length).filter fun i=>r.getD i false).map fun i=>i+1:=by
   rw [List.range_succ_eq_map,List.filter_cons,List.filter_map]
   cases x<;>simp [Function.comp_def]
  have e2:((k:Int)+1)=((k+1:Nat):Int):=by omega
  have hm:(((List.range r.length).filter fun i=>r.getD i false).map fun i=>i+1).map (fun i:Nat=>((k+i:Nat):Int))=((List.range r.length).filter fun i=>r.getD i false).map fun i:Nat=>((k+1+i:Nat):Int):=by
   rw [List.map_map]
   refine List.map_congr_left fun i _=>?_
   simp only [Function.comp];omega
  rw [x5,e1,List.map_append,hm]
  simp only [foldL,f6x]
  cases x with
  | false =>
   simp only [vL,xY]
   rw [e2,b7k r (k+1) s (by omega)]
   simp
  | true =>
   have hr:room (s.length+[(k:Int)].length) 8=true:=a3o (by simp;omega)
   simp only [vN,o5 hr,xY]
   rw [e2,b7k r (k+1) _ (by simp;omega)]
   simp
theorem c8r {a:l9} (g:Good a) {c:Int} (h0:0≤c) (h1:c≤63) (t:Int):f4p a c t=some (whr a c t):=by
 have hlo:=g.lo
 have hhi:=g.hi
 have hr:f3q a c=some true:=by
  simp only [f3q,valid_eq,wR g,xY,wR h0,wR h1,jn,grp,vN,w5]
 refine Ok.eq ?_
 simp only [f4p,hr,xY,wY,vL]
 refine Ok.bind (c2a g t) fun n hn=>?_
 obtain ⟨k,rfl,k1,k2,k3⟩:=hn
 refine Ok.bind (e7w g c k1) fun l hl=>?_
 obtain ⟨l1,l2⟩:=hl
 have:=b7k l 0 [] (by simp;omega)
 rw [show ((0:Nat):Int)=0 from rfl] at this
 rw [this]
 refine Ok.ret ?_
 have e2:=d4i (c:=c) k2 k3
 rw [←e2] at l2
 rw [e6z g h0 h1]
 have e:l.length=a.Places.toNat:=by omega
 simp only [wH,w8,e]
 congr 1
 refine List.filter_congr fun i hi=>?_
 have hi:=List.mem_range.1 hi
 have:=l2 (i:Int) (by omega) (by omega)
 rw [xV] at this
 exact this
end Go.Ab
namespace Go.Ab
open Go.Proofs
open Classical in
noncomputable def c42 (d:l8) (a:l9) (pl t:Int):List Int:=((List.range d.Kinds.length).filter fun i:Nat=>decide (b6g d a i pl t)).map fun i:Nat=>(i:Int)
theorem d3n {d:l8} {a:l9} {pl t x:Int}:x∈c42 d a pl t↔b6g d a x pl t:=by
 simp only [c42,vD,wI,List.mem_range,xN]
 constructor
 ·rintro ⟨i,⟨_,h⟩,rfl⟩;exact h
 ·intro h
  obtain ⟨h0,h1,_⟩:=h.1.1
  exact ⟨x.toNat,⟨by omega,by rw [Int.toNat_of_nonneg h0];exact h⟩,Int.toNat_of_nonneg h0⟩
theorem e70 {d:l8} {a:l9} (g:a2c d) (h:Good a) {pl:Int} (t:Int) (h0:0≤pl) (h1:pl≤a.Places - 1):e4p d a pl t=some (⟨(lkf pl t a.Events 0 (0,false)).2,c42 d a pl t⟩,0):=by
 have hk:=g.kl
 classical
 have e:foldL (e6c d a pl t) d.Kinds 0 ((lkf pl t a.Events 0 (0,false)).2,[])=some ((lkf pl t a.Events 0 (0,false)).2,c42 d a pl t):=by
  refine Ok.eq (Ok.foldI (all:=d.Kinds) (fun pre s=>s=((lkf pl t a.Events 0 (0,false)).2,((List.range pre.length).filter fun i:Nat=>decide (b6g d a i pl t)).map fun i:Nat=>(i:Int))) d.Kinds [] 0 _ rfl rfl rfl (fun pre x r s hw hs=>?_) fun s hs=>hs)
  subst hs
  have hp:pre.length<d.Kinds.length:=by rw [hw];simp
  have hlen:(((List.range pre.length).filter fun i:Nat=>decide (b6g d a i pl t)).map fun i:Nat=>(i:Int)).length≤pre.length:=by
   rw [wL];exact vA (List.length_filter_le _ _) (by simp)
  unfold e6c
  rw [d73 g h]
  simp only [xY,xI,zU,List.range_succ,List.filter_append,List.map_append]
  by_cases c:b6g d a (pre.length:Int) pl t
  ·rw [wR c,vN]
   refine Ok.chk (a3o (by omega)) (Ok.ret ?_)
   simp [c]
  ·rw [wE c,vL]
   refine Ok.ret ?_
   simp [c]
 simp only [e4p,d6b,a8c,a3u,if_pos g,if_pos h,xY,decide_true,wY,vL,b06 a pl h.lo h.hi,wR (show 0≤pl∧pl≤a.Places - 1 from ⟨h0,h1⟩),a5d t (a8q h h0 h1),e]
def g56 (d:l8) (q:Int):Prop:=0≤q∧q<d.Kinds.length∧d.Kinds.getD q.toNat default=2
instance (d:l8) (q:Int):Decidable (g56 d q):=inferInstanceAs (Decidable (_∧_∧_))
def d1:l8:=⟨[1,2],[⟨0,1,0,1⟩]⟩
def a1:l9:=⟨1,[⟨0,1,0,1,0,0,0⟩]⟩
end Go.Ab
namespace Go.Ab
open Go.Proofs Classical
theorem d9g {d:l8} {a:l9} (g:a2c d) (h:Good a) {pl:Int} (t:Int) (h0:0≤pl) (h1:pl≤a.Places - 1):e6k d a pl t=some (⟨(lkf pl t a.Events 0 (0,false)).2,c42 d a pl t⟩,0):=by
 have hk:=g.kl
 have e:foldL (f6z d a pl t) d.Kinds 0 ((lkf pl t a.Events 0 (0,false)).2,[])=some ((lkf pl t a.Events 0 (0,false)).2,c42 d a pl t):=by
  refine Ok.eq (Ok.foldI (all:=d.Kinds) (fun pre s=>s=((lkf pl t a.Events 0 (0,false)).2,((List.range pre.length).filter fun i:Nat=>decide (b6g d a i pl t)).map fun i:Nat=>(i:Int))) d.Kinds [] 0 _ rfl rfl rfl (fun pre x r s hw hs=>?_) fun s hs=>hs)
  subst hs
  have hp:pre.length<d.Kinds.length:=by rw [hw];simp
  have hlen:(((List.range pre.length).filter fun i:Nat=>decide (b6g d a i pl t)).map fun i:Nat=>(i:Int)).length≤pre.length:=by
   rw [wL];exact vA (List.length_filter_le _ _) (by simp)
  unfold f6z
  rw [c8f g h]
  simp only [xY,xI,zU,List.range_succ,List.filter_append,List.map_append]
  by_cases c:b6g d a (pre.length:Int) pl t
  ·rw [wR c,vN]
   refine Ok.chk (a3o (by omega)) (Ok.ret ?_)
   simp [c]
  ·rw [wE c,vL]
   refine Ok.ret ?_
   simp [c]
 have hkn:=a8q h h0 h1
 simp only [e6k,a8b g,valid_eq,wR h,a7s,hkn,b1n a pl t h.len,xY,wY,vL,a5d t hkn,e]
set_option maxRecDepth 20000
theorem d0f {T U:List Int} {q:Int→Bool} (hT:T.Pairwise fun x y=>x≤y) (hU:U.Pairwise fun x y=>x≤y) (h:∀t,t∈T↔t∈U):T.find? q=U.find? q:=by
 cases e:U.find? q with
 | none=>rw [List.find?_eq_none] at e ⊢;exact fun x hx=>e x ((h x).1 hx)
 | some t =>
  obtain ⟨t',e1,l1⟩:=b6m hT ((h t).2 (List.mem_of_find?_eq_some e)) (List.find?_some e)
  obtain ⟨t2,e2,l2⟩:=b6m hU ((h t').1 (List.mem_of_find?_eq_some e1)) (List.find?_some e1)
  rw [e] at e2;cases e2
  rw [e1,show t'=t by omega]
def e5s (d:l8) (p:Int):Prop:=p=-1∨rdr d p
theorem b63 {d:l8} {a:l9} (g:a2c d) (h:Good a) {c p:Int} (h0:0≤c) (h1:c≤63):e3y d a c p=some (decide (e5s d p)):=by
 by_cases hp:p=-1
 ·have:decide (e5s d p)=true:=wR (.inl hp)
  simp only [e3y,a8b g,valid_eq,wR h,wR h0,wR h1,wR hp,jn,grp,vN,vL,xY,w5,this]
 ·have:decide (e5s d p)=decide (rdr d p):=decide_eq_decide.2 ⟨fun e=>e.resolve_left hp,.inr⟩
  simp only [e3y,a8b g,valid_eq,wR h,wR h0,wR h1,wE hp,b65 g,jn,grp,vN,vL,xY,w5,this]
theorem d3f {d:l8} {a:l9} {c p t:Int} (hr:¬e5s d p):pla d a c p t=none:=by
 unfold pla
 rw [List.find?_eq_none]
 intro x _
 simp only [see,if_neg fun e=>hr (.inl e),xN]
 exact fun hm=>hr (.inr hm.1.1)
theorem c5q {d:l8} {a:l9} (g:a2c d) (h:Good a) {c p t:Int} (h0:0≤c) (h1:c≤63) (hr:e5s d p) (t0:0≤t) (t1:t≤1099511627776):f4o d a c p t=some (pla d a c p t).isSome:=by
 unfold f4o
 rw [b63 g h h0 h1,xY,wR hr]
 simp only [grp,wE (show ¬t<0 by omega),wE (show ¬1099511627776<t by omega),wY,Bool.or_self,vL]
 rw [c8r h h0 h1,xY]
 rw [a2l (fun x=>if see d a p t x then some true else none) (whr a c t) 0 fun k x hm=>by
  have hx:=c7a h h0 h1 t x hm
  by_cases hp:p=-1
  ·simp only [f6w,wR hp,vN,b1n a x t h.len,a5d t (a8q h hx.1 hx.2),xY,see,if_pos hp]
   cases (lkf x t a.Events 0 (0,false)).2<;>simp [flO]
  ·simp only [f6w,wE hp,vL,c8f g h,xY,see,if_neg hp]
   by_cases q:b6g d a p x t<;>simp [q,flO]]
 simp only [xY,a6y,a6j,pla]
 cases (whr a c t).find? (see d a p t)<;>rfl
theorem c5f {a:l9} (h:Good a):Ok (f4r a) fun ts=>ts.length≤a.Events.length∧(ts.Pairwise fun x y=>x≤y)∧∀t,t∈ts↔∃x∈a.Events,x.Time=t:=by
 have hl:=h.len
 unfold f4r
 rw [valid_eq,wR h,xY,wY,vL]
 refine Ok.bind (Ok.foldI (all:=a.Events) (fun pre ts=>ts.length≤pre.length∧(ts.Pairwise fun x y=>x≤y)∧∀t,t∈ts↔∃x∈pre,x.Time=t) a.Events [] 0 _ rfl rfl ⟨vI _,List.Pairwise.nil,by simp⟩ (fun pre x r s hw hs=>?_) fun s hs=>hs) fun s hs=>Ok.ret hs
 obtain ⟨s1,s3,s2⟩:=hs
 have hp:pre.length<a.Events.length:=by rw [hw];simp
 have hsr:=h.srt
 rw [hw,List.pairwise_append] at hsr
 have hle:∀t∈s,t≤x.Time:=fun t ht=>by
  obtain ⟨y,hy,e⟩:=(s2 t).1 ht
  have:=hsr.2.2 y hy x (by simp)
  omega
 have hadd:(s++[x.Time]).length≤(pre++[x]).length∧((s++[x.Time]).Pairwise fun x y=>x≤y)∧∀t,t∈s++[x.Time]↔∃y∈pre++[x],y.Time=t:=by
  refine ⟨by simp;omega,?_,fun t=>?_⟩
  ·rw [List.pairwise_append]
   exact ⟨s3,by simp,fun t ht u hu=>by rw [xG] at hu;subst hu;exact hle t ht⟩
  rw [wJ,s2,xG]
  constructor
  ·rintro (⟨y,hy,e⟩|rfl)
   ·exact ⟨y,List.mem_append_left _ hy,e⟩
   ·exact ⟨x,zT _ (xG.2 rfl),rfl⟩
  ·rintro ⟨y,hy,e⟩
   rcases wJ.1 hy with hy|hy
   ·exact .inl ⟨y,hy,e⟩
   ·rw [xG] at hy;subst hy;exact .inr e.symm
 have hr:room (s.length+[x.Time].length) 8=true:=a3o (by simp only [zU];omega)
 unfold g2b
 refine Ok.ite (fun _=>Ok.chk hr (Ok.ret hadd)) fun c1=>?_
 have c1:=of_decide_eq_false c1
 refine Ok.chk (a8r (by omega) (by omega)) (Ok.chk (p8.2 ⟨by omega,by omega⟩) (Ok.ite (fun _=>Ok.chk hr (Ok.ret hadd)) fun c2=>Ok.ret ⟨by simp;omega,s3,fun t=>?_⟩))
 have c2:s.getD ((s.length:Int) - 1).toNat default=x.Time:=by simpa using c2
 have hm:x.Time∈s:=by
  rw [←c2,zE,zJ (by omega)]
  exact x6 _
 rw [←hadd.2.2 t,wJ,xG]
 exact ⟨.inl,fun e=>e.elim id fun e=>e▸hm⟩
theorem d2y {d:l8} {a:l9} (g:a2c d) (h:Good a):Ok (f4z d a) fun ts=>(ts.Pairwise fun x y=>x≤y)∧∀t,t∈ts↔t∈tms d a:=by
 have hl:=h.len
 have hd:=g.el
 unfold f4z
 refine Ok.bind (c5f h) fun s0 hs0=>Ok.bind (Ok.foldI (all:=d.Events) (fun pre ts=>ts.length≤120+pre.length∧(ts.Pairwise fun x y=>x≤y)∧∀t,t∈ts↔(∃x∈a.Events,x.Time=t)∨∃x∈pre,x.Time=t) d.Events [] 0 _ rfl rfl ⟨by simp;omega,hs0.2.1,fun t=>by rw [hs0.2.2];simp⟩ (fun pre x r s hw hs=>?_) fun s hs=>hs) fun s hs=>Ok.ret ⟨hs.2.1,fun t=>by rw [hs.2.2,b7p]⟩
 obtain ⟨s1,s3,s2⟩:=hs
 have hp:pre.length<d.Events.length:=by rw [hw];simp
 unfold g2a
 refine Ok.bind (P:=fun r:Int=>(0≤r∧r≤s.length)∧(∀y∈s.take r.toNat,y≤x.Time)∧∀y∈s.drop r.toNat,x.Time≤y) (Ok.loop (fun r:Int=>(0≤r∧r≤s.length)∧∀y∈s.take r.toNat,y≤x.Time) (fun r=>((s.length:Int) - r).toNat) (fun r hr=>?_) _ ⟨⟨vK 0,by omega⟩,by simp⟩) fun r hr=>?_
 ·obtain ⟨⟨r0,r1⟩,r2⟩:=hr
  unfold g2i
  refine Ok.ite (fun c=>?_) fun c=>Ok.ret ⟨⟨r0,r1⟩,r2,fun y hy=>?_⟩
  ·have c:=of_decide_eq_true c
   have hlt:r.toNat<s.length:=by omega
   have hg:s.getD r.toNat default=s[r.toNat]:=by rw [zE,zJ hlt];rfl
   refine Ok.chk (p8.2 ⟨r0,by omega⟩) (Ok.ite (fun c2=>Ok.chk (a8r (by omega) (by omega)) (Ok.ret ⟨⟨⟨by omega,by omega⟩,fun y hy=>?_⟩,by omega⟩)) fun c2=>Ok.ret ⟨⟨r0,r1⟩,r2,fun y hy=>?_⟩)
   ·have c2:=of_decide_eq_true c2
    rw [hg] at c2
    rw [show (r+1).toNat=r.toNat+1 by omega,List.take_succ_eq_append_getElem hlt] at hy
    rcases wJ.1 hy with hy|hy
    ·exact r2 y hy
    ·rw [xG] at hy;omega
   ·have c2:=of_decide_eq_false c2
    rw [hg] at c2
    have hd:s.drop r.toNat=s[r.toNat]::s.drop (r.toNat+1):=List.drop_eq_getElem_cons hlt
    have hpw:=s3.drop (i:=r.toNat)
    rw [hd] at hy hpw
    rw [List.pairwise_cons] at hpw
    rcases wV.1 hy with rfl|hy
    ·omega
    ·have:=hpw.1 y hy;omega
  ·have c:=of_decide_eq_false c
   rw [List.drop_eq_nil_of_le (by omega)] at hy
   simp at hy
 ·obtain ⟨⟨r0,r1⟩,r2,r3⟩:=hr
  have key:s.take r.toNat++s.drop r.toNat=s:=List.take_append_drop _ _
  have ed:(s.drop r.toNat).take (s.length - r.toNat)=s.drop r.toNat:=zP (by simp)
  have hmem:∀t,(t∈s∨t=x.Time)↔(∃y∈a.Events,y.Time=t)∨∃y∈pre++[x],y.Time=t:=fun t=>by
   rw [s2]
   constructor
   ·rintro ((e|⟨y,hy,e⟩)|rfl)
    ·exact .inl e
    ·exact .inr ⟨y,List.mem_append_left _ hy,e⟩
    ·exact .inr ⟨x,zT _ (xG.2 rfl),rfl⟩
   ·rintro (e|⟨y,hy,e⟩)
    ·exact .inl (.inl e)
    ·rcases wJ.1 hy with hy|hy
     ·exact .inl (.inr ⟨y,hy,e⟩)
     ·rw [xG] at hy;subst hy;exact .inr e.symm
  have hadd:(s.take r.toNat++([x.Time]++(s.drop r.toNat).take (s.length - r.toNat))).length≤120+(pre++[x]).length∧((s.take r.toNat++([x.Time]++(s.drop r.toNat).take (s.length - r.toNat))).Pairwise fun x y=>x≤y)∧∀t,t∈s.take r.toNat++([x.Time]++(s.drop r.toNat).take (s.length - r.toNat))↔(∃y∈a.Events,y.Time=t)∨∃y∈pre++[x],y.Time=t:=by
   rw [ed]
   refine ⟨by simp only [xI,x4,List.length_drop,zU];omega,?_,fun t=>?_⟩
   ·have hs:=s3
    rw [←key,List.pairwise_append] at hs
    rw [List.pairwise_append,List.singleton_append,List.pairwise_cons]
    refine ⟨hs.1,⟨r3,hs.2.1⟩,fun y hy z hz=>?_⟩
    rcases wV.1 hz with rfl|hz
    ·exact r2 y hy
    ·exact hs.2.2 y hy z hz
   rw [←hmem]
   have:t∈s↔t∈s.take r.toNat∨t∈s.drop r.toNat:=by rw [←wJ,key]
   rw [this]
   simp only [wJ,xG]
   constructor
   ·rintro (e|e|e)
    ·exact .inl (.inl e)
    ·exact .inr e
    ·exact .inl (.inr e)
   ·rintro ((e|e)|e)
    ·exact .inl e
    ·exact .inr (.inr e)
    ·exact .inr (.inl e)
  have add:Ok (chk (inc 0 r s.length) (chk (inc r (s.length:Int) s.length) (chk (room ([x.Time].length+((s.drop r.toNat).take (s.length - r.toNat)).length) 8) (chk (b7i 0 r.toNat s.length ([x.Time]++(s.drop r.toNat).take (s.length - r.toNat)).length 8) (some (s.take r.toNat++([x.Time]++(s.drop r.toNat).take (s.length - r.toNat)))))))) fun ts=>ts.length≤120+(pre++[x]).length∧(ts.Pairwise fun x y=>x≤y)∧∀t,t∈ts↔(∃y∈a.Events,y.Time=t)∨∃y∈pre++[x],y.Time=t :=
   Ok.chk (a1u.2 ⟨by omega,by omega,by omega⟩) (Ok.chk (a1u.2 ⟨by omega,by omega,by omega⟩) (Ok.chk (a3o (by rw [ed];simp only [zU,List.length_drop];omega)) (Ok.chk (b03.2 ⟨by omega,by rw [ed];simp only [xI,zU,List.length_drop];omega⟩) (Ok.ret hadd))))
  refine Ok.ite (fun _=>add) fun c1=>?_
  have c1:=of_decide_eq_false c1
  refine Ok.chk (p8.2 ⟨r0,by omega⟩) (Ok.ite (fun _=>add) fun c2=>Ok.ret ⟨by simp;omega,s3,fun t=>?_⟩)
  have c2:s.getD r.toNat default=x.Time:=by simpa using c2
  have hm:x.Time∈s:=by
   rw [←c2,zE,zJ (by omega)]
   exact x6 _
  rw [←hmem]
  exact ⟨.inl,fun e=>e.elim id fun e=>e▸hm⟩
theorem c8a {d:l8} {a:l9} (g:a2c d) (h:Good a) {c p:Int} (h0:0≤c) (h1:c≤63):e6j d a c p=some (c69 (sin d a c p)):=by
 refine Ok.eq ?_
 unfold e6j
 rw [b63 g h h0 h1,xY]
 by_cases hr:e5s d p
 ·rw [wR hr,wY,vL]
  refine Ok.bind (d2y g h) fun ts hts=>?_
  rw [a2l (fun t=>if (pla d a c p t).isSome then some (t,true) else none) ts 0 fun k t ht=>by
   have hb:0≤t∧t≤1099511627776:=by
    rcases b7p.1 ((hts.2 t).1 ht) with ⟨x,hx,rfl⟩|⟨x,hx,rfl⟩
    ·exact ⟨(h.ev x hx).1,(h.ev x hx).2.1⟩
    ·exact ⟨(g.ev x hx).2.1,(g.ev x hx).2.2.1⟩
   simp only [g28,c5q g h h0 h1 hr hb.1 hb.2,xY]
   cases pla d a c p t<;>simp [flO]]
  simp only [xY,a6y,a6j]
  have e:(ts.find? fun t=>(pla d a c p t).isSome)=sin d a c p:=d0f hts.1 (c4z d a) hts.2
  rw [e]
  cases sin d a c p<;>exact Ok.ret rfl
 ·rw [wE hr,wT,vN]
  have:sin d a c p=none:=by
   unfold sin
   rw [List.find?_eq_none]
   intro t _
   rw [d3f hr];simp
  rw [this]
  exact Ok.ret rfl
end Go.Ab
set_option maxRecDepth 20000
namespace Go.Ab
open Go.Proofs
theorem b9z {α ρ:Type} {f:α→Option ρ} {p:α→Prop} [DecidablePred p] {y:ρ}:∀{l:List α},(∀x∈l,f x=if p x then none else some y)→a4r f l=if (∀x∈l,p x) then none else some y
 | [],h=>by simp [a4r]
 | x::r,h=>by
  simp only [a4r,h x (by simp)]
  by_cases hp:p x
  ·simp only [hp,if_true]
   rw [b9z (p:=p) (y:=y) fun x hx=>h x (by simp [hx])]
   by_cases hq:∀x∈r,p x
   ·rw [if_pos hq,if_pos (by simpa using ⟨hp,hq⟩)]
   ·rw [if_neg hq,if_neg fun hh=>hq fun x hx=>hh x (by simp [hx])]
  ·simp only [hp,if_false]
   rw [if_neg fun hh=>hp (hh x (by simp))]
theorem d6w (x a b:Int):c78 x a b=some (decide (a≤x∧x≤b)):=by simp [c78,grp]
theorem c5l {d:l8} (hk:d.Kinds.length≤24) (p:Int):d2b d p=some (decide (0≤p∧p<d.Kinds.length∧d.Kinds.getD p.toNat default=2)):=by
 unfold d2b
 rw [a6c hk]
 by_cases c:0≤p∧p<(d.Kinds.length:Int)
 ·simp only [wR c,xY,vN,jn,o5 (p8.2 c)]
  congr 1
  simp [c.1,c.2]
 ·have:¬(0≤p∧p<(d.Kinds.length:Int)∧d.Kinds.getD p.toNat default=2):=fun h=>c ⟨h.1,h.2.1⟩
  simp only [wE c,wE this,xY,vL,jn]
open Classical in
theorem f0t {d:l8} (hk:d.Kinds.length≤24) (x:a01):((F_w d x.Principal).bind fun y251=>bif (!y251) then some (.ex false) else (d2b d x.Group).bind fun y252=>bif (!y252) then some (.ex false) else bif decide (x.Principal=x.Group) then some (.ex false) else some (.nx ()):Option (Fl Unit Bool)) =
  some (if (0≤x.Principal∧x.Principal<d.Kinds.length)∧(0≤x.Group∧x.Group<d.Kinds.length∧d.Kinds.getD x.Group.toNat default=2)∧x.Principal≠x.Group then .nx () else .ex false):=by
 rw [a6c hk,c5l hk]
 by_cases a:0≤x.Principal∧x.Principal<(d.Kinds.length:Int)
 ·by_cases b:0≤x.Group∧x.Group<(d.Kinds.length:Int)∧d.Kinds.getD x.Group.toNat default=2
  ·by_cases e:x.Principal=x.Group
   ·rw [wR a,wR b,wR e,if_neg (fun h=>h.2.2 e)];rfl
   ·rw [wR a,wR b,wE e,if_pos ⟨a,b,e⟩];rfl
  ·rw [wR a,wE b,if_neg (fun h=>b h.2.1)];rfl
 ·rw [wE a,if_neg (fun h=>a h.1)];rfl
open Classical in
theorem c4p {d:l8} (hk:d.Kinds.length≤24) (he:d.Events.length≤120):∀(l:List a01) (k:Nat) (last:Int),d.Events.drop k=l→(0<k→(d.Events.getD (k - 1) default).Time=last)→(k=0→last=0)→k≤d.Events.length →
  forL (f4j d) l (k:Int) ()=some (if a7g d last l then .nx () else .ex false)
 | [],k,last,hd,hl,h0,_=>by simp [forL,a7g]
 | x :: r,k,last,hd,hl,h0,hkk=>by
  have hlt:k<d.Events.length:=by
   rcases Nat.lt_or_ge k d.Events.length with h|h
   ·exact h
   ·rw [List.drop_eq_nil_of_le h] at hd;cases hd
  rw [List.drop_eq_getElem_cons hlt] at hd
  obtain ⟨e1,e2⟩:=List.cons.inj hd
  have hx:(d.Events.getD (k+1 - 1) default)=x:=by rw [Nat.add_sub_cancel,zE,zJ hlt];exact e1
  have ih:=c4p hk he r (k+1) x.Time e2 (fun _=>by rw [hx]) (by omega) hlt
  rw [show ((k+1:Nat):Int)=(k:Int)+1 by simp] at ih
  simp only [forL,f4j,d6w,xY,a7g,f0t hk]
  by_cases c1:1≤x.Kind∧x.Kind≤2
  ·by_cases c2:0≤x.Time∧x.Time≤1099511627776
   ·simp only [wR c1,wR c2,wY,vL]
    by_cases c3:(0≤x.Principal∧x.Principal<(d.Kinds.length:Int))∧(0≤x.Group∧x.Group<(d.Kinds.length:Int)∧d.Kinds.getD x.Group.toNat default=2)∧x.Principal≠x.Group
    ·have hm:mok d x:=⟨by omega,c2.1,c2.2,c3⟩
     simp only [if_pos c3]
     by_cases ck:0<k
     ·have e3:decide (0<(k:Int))=true:=wR (by omega)
      have e6:((k:Int) - 1).toNat=k - 1:=by omega
      simp only [e3,vN,o5 (a3z (n:=(k:Int) - 1) (by omega) (by omega)),o5 (p8.2 ⟨by omega,by omega⟩:inb ((k:Int) - 1) d.Events.length=true),e6,hl ck]
      by_cases c4:x.Time<last
      ·have:¬last≤x.Time:=by omega
       simp [c4,this,a5y]
      ·have:last≤x.Time:=by omega
       simp [c4,this,a5m,ih,hm]
     ·have e3:decide (0<(k:Int))=false:=wE (by omega)
      have:last≤x.Time:=by rw [h0 (by omega)];exact c2.1
      simp only [e3,vL,xY,a5m,this,true_and,ih,hm]
    ·have hm:¬mok d x:=fun h=>c3 h.2.2.2
     simp only [if_neg c3,hm,and_false,false_and,if_false]
     by_cases ck:0<k
     ·have e3:decide (0<(k:Int))=true:=wR (by omega)
      simp only [e3,vN,o5 (a3z (n:=(k:Int) - 1) (by omega) (by omega)),o5 (p8.2 ⟨by omega,by omega⟩:inb ((k:Int) - 1) d.Events.length=true)]
      cases decide (x.Time<(d.Events.getD ((k:Int) - 1).toNat default).Time)<;>rfl
     ·have e3:decide (0<(k:Int))=false:=wE (by omega)
      simp only [e3,vL];rfl
   ·have hm:¬mok d x:=fun h=>c2 ⟨h.2.1,h.2.2.1⟩
    simp only [wR c1,wE c2,wY,wT,vL,vN,hm,and_false,false_and,if_false];rfl
  ·have hm:¬mok d x:=fun h=>c1 (by have:=h.1;omega)
   simp only [wE c1,wT,vN,hm,and_false,false_and,if_false];rfl
open Classical in
theorem d0t (d:l8):F_d d=some (decide (a2c d)):=by
 simp only [F_d,grp]
 by_cases c:d.Kinds.length≤24∧d.Events.length≤120
 ·have c':(decide (24<(d.Kinds.length:Int))||decide (120<(d.Events.length:Int)))=false:=by simp;omega
  have hkd:forL f4u d.Kinds 0 ()=some (flO (a4r (fun k=>if 1≤k∧k≤3 then none else some false) d.Kinds)):=a2l _ _ _ fun k x _=>by
   simp only [f4u,d6w,xY]
   by_cases q:1≤x∧x≤3
   ·simp [q,flO]
   ·simp [q,flO]
  have h:=c4p c.1 c.2 d.Events 0 0 rfl (fun h=>by omega) (fun _=>rfl) (by omega)
  simp only [show ((0:Nat):Int)=0 from rfl] at h
  simp only [c',vL,hkd,xY,h,b9z (p:=fun k:Int=>1≤k∧k≤3) (f:=fun k=>if 1≤k∧k≤3 then none else some false) fun _ _=>rfl]
  by_cases q:∀x∈d.Kinds,1≤x∧x≤3
  ·rw [if_pos q]
   simp only [flO,a5m]
   by_cases hc:a7g d 0 d.Events
   ·have:a2c d:=(b0f d).2 ⟨c.1,c.2,q,hc⟩
    simp [this,hc,a5m]
   ·have:¬a2c d:=fun h=>hc ((b0f d).1 h).2.2.2
    simp [this,hc,a5y]
  ·have:¬a2c d:=fun h=>q h.kd
   rw [if_neg q]
   simp [flO,a5y,this]
 ·have c':(decide (24<(d.Kinds.length:Int))||decide (120<(d.Events.length:Int)))=true:=by simp;omega
  have:¬a2c d:=fun h=>c ⟨h.kl,h.el⟩
  simp [c',this]
end Go.Ab