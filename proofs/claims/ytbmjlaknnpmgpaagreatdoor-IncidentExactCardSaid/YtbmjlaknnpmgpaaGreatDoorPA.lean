/- Chapter 27: what the functions of access answer, in plain words. -/
import Derived.Test.YtbmjlaknnpmgpaaGreatDoorLI
import Derived.Test.YtbmjlaknnpmgpaaGreatDoorAbMach
set_option linter.all false
namespace Go.Ab
open Go.Proofs
noncomputable section
def xok (P:Int) (x:o9):Prop :=
 0≤x.Time∧x.Time≤1099511627776∧0≤x.Place∧x.Place≤P - 1 ∧
 ((x.Kind=1∨x.Kind=2)∧0≤x.Principal∧x.Principal≤23∧x.Until=0∧x.Content=0∧x.From=0 ∨
  x.Kind=3∧x.Time<x.Until∧x.Until≤1099511627776∧x.Principal=0∧x.Content=0∧x.From=0 ∨
  x.Kind=4∧x.Principal=0∧x.Until=0∧x.Content=0∧x.From=0 ∨
  (x.Kind=5∨x.Kind=6)∧0≤x.Content∧x.Content≤63∧x.Principal=0∧x.Until=0∧x.From=0 ∨
  x.Kind=7∧0≤x.From∧x.From≤P - 1∧x.From≠x.Place∧x.Principal=0∧x.Until=0∧x.Content=0)
structure Good (a:l5):Prop where
 lo:1≤a.Places
 hi:a.Places≤16
 len:a.Events.length≤120
 ev:∀x∈a.Events,xok a.Places x
 srt:a.Events.Pairwise fun x y=>x.Time≤y.Time
theorem a5i (n lo hi:Int):d4v n lo hi=some (decide (lo≤n∧n≤hi)):=by
 simp [d4v,grp]
theorem u6 {n:Int} (h1:-1000000000000000≤n) (h2:n≤1000000000000000):a0p n=true:=a1q.2 ⟨by omega,by omega⟩
theorem b5n (a:l5) (p:Int) (h1:1≤a.Places) (h2:a.Places≤16):d4u a p=some (decide (0≤p∧p≤a.Places - 1)):=by
 simp [d4u,a5i,o8 (u6 (n:=a.Places - 1) (by omega) (by omega))]
theorem right_eq (a:l5) (x:o9) (h1:1≤a.Places) (h2:a.Places≤16) (h0:0≤x.Time) (hm:x.Time≤1099511627776):∃b,f4b a x=some b∧(b=true↔xok a.Places x):=by
 obtain ⟨T,K,P,pr,U,C,F⟩:=x
 simp only at h0 hm
 simp only [f4b,a5i,b5n a _ h1 h2,F_u,jn,grp,xZ,Option.bind_eq_bind]
 by_cases k1:K=1
 ·subst k1
  by_cases c1:0≤pr<;>by_cases c2:pr≤23<;>simp [xok,c1,c2]<;>omega
 by_cases k2:K=2
 ·subst k2
  by_cases c1:0≤pr<;>by_cases c2:pr≤23<;>simp [xok,c1,c2]<;>omega
 by_cases k3:K=3
 ·subst k3
  by_cases c:T<U<;>by_cases c2:U≤1099511627776<;>simp [xok,c,c2]<;>omega
 by_cases k4:K=4
 ·subst k4
  simp [xok]
  omega
 by_cases k5:K=5
 ·subst k5
  by_cases c1:0≤C<;>by_cases c2:C≤63<;>simp [xok,c1,c2]<;>omega
 by_cases k6:K=6
 ·subst k6
  by_cases c1:0≤C<;>by_cases c2:C≤63<;>simp [xok,c1,c2]<;>omega
 by_cases k7:K=7
 ·subst k7
  by_cases c1:0≤F<;>by_cases c2:F≤a.Places - 1<;>by_cases c3:F=P<;>simp [xok,c1,c2,c3]<;>omega
 ·simp [xok,k1,k2,k3,k4,k5,k6,k7]
def chain (P:Int):Int→List o9→Prop
 | _,[]=>True
 | last,x::r=>last≤x.Time∧xok P x∧chain P x.Time r
theorem b85 {P:Int}:∀{l:List o9} {last:Int},chain P last l↔((∀x∈l,last≤x.Time∧xok P x)∧l.Pairwise fun x y=>x.Time≤y.Time)
 | [],last=>by simp [chain]
 | x::r,last=>by
  simp only [chain,b85 (l:=r),w4,List.pairwise_cons]
  constructor
  ·rintro ⟨h1,h2,h3,h4⟩
   refine ⟨fun y hy=>?_,fun y hy=>(h3 y hy).1,h4⟩
   rcases hy with rfl|hy
   ·exact ⟨h1,h2⟩
   ·exact ⟨Int.le_trans h1 (h3 y hy).1,(h3 y hy).2⟩
  ·rintro ⟨h1,h2,h3⟩
   exact ⟨(h1 x (.inl rfl)).1,(h1 x (.inl rfl)).2,fun y hy=>⟨h2 y hy,(h1 y (.inr hy)).2⟩,h3⟩
open Classical in
theorem c8c (a:l5) (h1:1≤a.Places) (h2:a.Places≤16):∀(l:List o9) (k last:Int),0≤last→∃o,a10 (f6u a) l k last=some o∧(chain a.Places last l→∃s,o=.nx s)∧(¬chain a.Places last l→o=.ex 34)
 | [],k,last,h=>⟨.nx last,rfl,fun _=>⟨_,rfl⟩,fun hc=>absurd trivial hc⟩
 | x::r,k,last,h=>by
  simp only [a10,f6u,grp,chain]
  by_cases c:x.Time<last∨1099511627776<x.Time
  ·have c':(decide (x.Time<last)||decide (1099511627776<x.Time))=true:=by simpa using c
   simp only [c',vQ,xZ,a1p]
   refine ⟨_,rfl,fun hc=>?_,fun _=>rfl⟩
   have:=hc.2.1.2.1
   omega
  ·have c':(decide (x.Time<last)||decide (1099511627776<x.Time))=false:=by simpa using c
   obtain ⟨b,hb,hb2⟩:=right_eq a x h1 h2 (by omega) (by omega)
   simp only [c',vO,hb,xZ]
   cases b with
   | false =>
    simp only [wY,vQ,xZ,a1p]
    refine ⟨_,rfl,fun hc=>?_,fun _=>rfl⟩
    have:=hb2.2 hc.2.1
    cases this
   | true =>
    simp only [w6,vO,xZ,a1t]
    obtain ⟨o,ho,ho1,ho2⟩:=c8c a h1 h2 r (k+1) x.Time (by omega)
    refine ⟨o,ho,fun hc=>ho1 hc.2.2,fun hc=>ho2 fun h3=>hc ⟨by omega,hb2.1 rfl,h3⟩⟩
theorem b1k (a:l5):Good a↔(1≤a.Places∧a.Places≤16)∧a.Events.length≤120∧chain a.Places 0 a.Events:=by
 rw [b85]
 constructor
 ·rintro ⟨h1,h2,h3,h4,h5⟩
  exact ⟨⟨h1,h2⟩,h3,fun x hx=>⟨(h4 x hx).1,h4 x hx⟩,h5⟩
 ·rintro ⟨⟨h1,h2⟩,h3,h4,h5⟩
  exact ⟨h1,h2,h3,fun x hx=>(h4 x hx).2,h5⟩
open Classical in
theorem a4a (a:l5):d4z a=some (if Good a then 0 else 34):=by
 simp only [d4z,a5i,xZ,grp]
 by_cases c:1≤a.Places∧a.Places≤16
 ·by_cases c2:a.Events.length≤120
  ·have c':(!decide (1≤a.Places∧a.Places≤16)||decide (120<(a.Events.length:Int)))=false:=by simp [c];omega
   obtain ⟨o,ho,ho1,ho2⟩:=c8c a c.1 c.2 a.Events 0 0 (vN 0)
   simp only [c',vO,ho,xZ]
   by_cases hc:chain a.Places 0 a.Events
   ·obtain ⟨s,rfl⟩:=ho1 hc
    have:Good a:=(b1k a).2 ⟨c,c2,hc⟩
    simp [this,a1t]
   ·rw [ho2 hc]
    have:¬Good a:=fun h=>hc ((b1k a).1 h).2.2
    simp [this,a1p]
  ·have c':(!decide (1≤a.Places∧a.Places≤16)||decide (120<(a.Events.length:Int)))=true:=by simp;omega
   have:¬Good a:=fun h=>c2 h.len
   simp only [c',vQ,if_neg this]
 ·have:¬Good a:=fun h=>c ⟨h.lo,h.hi⟩
  simp [c,this]
open Classical in
theorem b1i (a:l5) (p:Int):F_3 a p=some (decide (Good a∧0≤p∧p≤a.Places - 1)):=by
 simp only [F_3,a4a,xZ,jn]
 by_cases h:Good a
 ·simp [h,b5n a p h.lo h.hi]
 ·simp [h]
theorem b1h {a:l5} {p:Int} (h:Good a) (h1:0≤p) (h2:p≤a.Places - 1):F_3 a p=some true:=by
 rw [b1i];simp [h,h1];omega
theorem Good.sub {a:l5} (h:Good a) {l:List o9} (hl:l.Sublist a.Events):Good ⟨a.Places,l⟩ :=
 ⟨h.lo,h.hi,vD hl.length_le h.len,fun x hx=>h.ev x (hl.subset hx),h.srt.sublist hl⟩
def lst (p t:Int) (i:Int) (x:o9) (s:Int×Bool):Int×Bool :=
 if t<x.Time∨x.Place≠p then s else if x.Kind=4 then (0,false) else if x.Kind=3∧t<x.Until then (i,true) else s
def lkf (p t:Int):List o9→Int→Int×Bool→Int×Bool
 | [],_,s=>s
 | x::r,i,s=>lkf p t r (i+1) (lst p t i x s)
theorem a9s (p t:Int):∀(l m:List o9) (i:Int) (s:Int×Bool),lkf p t (l++m) i s=lkf p t m (i+l.length) (lkf p t l i s)
 | [],m,i,s=>by simp [lkf]
 | x::r,m,i,s=>by
  simp only [wE,lkf,a9s p t r m]
  congr 1
  simp;omega
def c3r (p t:Int) (y:Int×o9):Option (Int×Bool) :=
 if t<y.2.Time∨y.2.Place≠p then none else if y.2.Kind=4 then some (0,false) else if y.2.Kind=3∧t<y.2.Until then some (y.1,true) else none
theorem c6w (p t k:Int) (y:Int×o9):f5j p t k y ()=some (flO (c3r p t y)):=by
 simp only [f5j,grp,c3r]
 by_cases c:t<y.2.Time∨y.2.Place≠p
 ·have c':(decide (t<y.2.Time)||!decide (y.2.Place=p))=true:=by simpa using c
  simp [c',c,flO]
 ·have c':(decide (t<y.2.Time)||!decide (y.2.Place=p))=false:=by simpa using c
  simp only [c',vO,if_neg c]
  by_cases c2:y.2.Kind=4
  ·simp [c2,flO]
  ·by_cases c3:y.2.Kind=3∧t<y.2.Until
   ·simp [c2,c3,flO]
   ·have c4:(decide (y.2.Kind=3)&&decide (t<y.2.Until))=false:=by simpa using c3
    rw [if_neg c2,if_neg c3]
    simp [c2,c4,flO]
theorem c61 (l:List o9) (x:o9):c96 (l++[x])=((l.length:Int),x)::c96 l:=by
 unfold c96
 rw [xK,zV,List.range_succ_eq_map]
 simp only [w5,List.map_map]
 congr 1
 ·simp
 ·refine List.map_congr_left fun k hk=>?_
  have:=List.mem_range.1 hk
  simp only [Function.comp]
  have e:l.length+1 - 1 - (k+1)=l.length - 1 - k:=by omega
  rw [show k.succ=k+1 from rfl,e,zE,zE,zH (by omega)]
theorem a1y {α:Type} {m:List α→Prop} (h0:m []) (h1:∀l x,m l→m (l++[x])) (l:List α):m l:=by
 have:∀n (l:List α),l.length=n→m l:=by
  intro n
  induction n with
  | zero=>intro l hl;rw [zM.1 hl];exact h0
  | succ n ih =>
   intro l hl
   have hne:l≠[]:=by intro e;simp [e] at hl
   rw [←List.dropLast_concat_getLast hne]
   exact h1 _ _ (ih _ (by simp [hl]))
 exact this _ l rfl
theorem d2f (p t:Int) (l:List o9):(a3g (c3r p t) (c96 l)).getD (0,false)=lkf p t l 0 (0,false):=by
 induction l using a1y with
 | h0=>rfl
 | h1 l x ih =>
  rw [c61,a9s]
  simp only [a3g,lkf,Int.zero_add]
  rw [←ih]
  unfold c3r lst
  by_cases c:t<x.Time∨x.Place≠p
  ·simp only [if_pos c]
  ·simp only [if_neg c]
   by_cases c2:x.Kind=4
   ·simp [c2]
   ·by_cases c3:x.Kind=3∧t<x.Until
    ·simp [c2,c3]
    ·simp only [if_neg c2,if_neg c3]
theorem a6a {a:l5} {p:Int} (t:Int) (h:F_3 a p=some true):F_9 a p t=some (lkf p t a.Events 0 (0,false)):=by
 simp only [F_9,h,xZ,w6,vO,d9n]
 rw [a0k (c3r p t) (c96 a.Events) 0 fun k y _=>c6w p t k y,←d2f]
 cases a3g (c3r p t) (c96 a.Events)<;>rfl
theorem c6v {a:l5} {p:Int} (t:Int) (h:F_3 a p=some false):F_9 a p t=some (0,false):=by
 simp [F_9,h]
def a8w {α σ:Type} (f:Int→α→σ→σ):List α→Int→σ→σ
 | [],_,s=>s
 | x::r,k,s=>a8w f r (k+1) (f k x s)
theorem a7p {α σ:Type} {body:Int→α→σ→Option σ} (f:Int→α→σ→σ) (h:∀k x s,body k x s=some (f k x s)):∀(xs:List α) (k:Int) (s:σ),a0d body xs k s=some (a8w f xs k s)
 | [],k,s=>rfl
 | x::r,k,s=>by simp only [a0d,h,xZ,a8w,a7p f h r]
theorem a6d {α σ:Type} (f:Int→α→σ→σ):∀(xs ys:List α) (k:Int) (s:σ),a8w f (xs++ys) k s=a8w f ys (k+xs.length) (a8w f xs k s)
 | [],ys,k,s=>by simp [a8w]
 | x::r,ys,k,s=>by
  simp only [wE,a8w,a6d f r ys]
  congr 1
  simp;omega
theorem a6u {α β:Type} {body:Int→α→List β→Option (List β)} (g:α→β) (b:Nat) (n:Nat) (hn:n*b≤140737488355328) (h:∀k x s,body k x s=chk (room (s.length+[g x].length) b) (some (s++[g x]))) :
  ∀(xs:List α) (k:Int) (s:List β),s.length+xs.length≤n→a0d body xs k s=some (s++xs.map g)
 | [],k,s,hl=>by simp [a0d]
 | x::r,k,s,hl=>by
  have:room (s.length+[g x].length) b=true:=a6o.2 (by
   simp at hl ⊢
   exact vD (zZ b (by omega)) hn)
  simp only [a0d,h,o8 this,xZ]
  rw [a6u g b n hn h r (k+1) _ (by simp at hl ⊢;omega)]
  simp
def gst (p t:Int) (i:Int) (x:o9) (m:List (Int×Int)):List (Int×Int) :=
 if t<x.Time∨x.Place≠p then m else if x.Kind=1 then a7q x.Principal i m else if x.Kind=2 then b8g x.Principal m else m
def grf (p t:Int) (l:List o9):List (Int×Int):=a8w (gst p t) l 0 []
theorem d25 (p t k:Int) (x:o9) (m:List (Int×Int)):f6r p t k x m=some (gst p t k x m):=by
 simp only [f6r,grp,gst]
 by_cases c:t<x.Time∨x.Place≠p
 ·have c':(decide (t<x.Time)||!decide (x.Place=p))=true:=by simpa using c
  simp [c',c]
 ·have c':(decide (t<x.Time)||!decide (x.Place=p))=false:=by simpa using c
  simp only [c',vO,if_neg c]
  by_cases c2:x.Kind=1
  ·simp [c2]
  ·by_cases c3:x.Kind=2<;>simp [c2,c3]
theorem c7g (a:l5) (p t:Int):f2u a p t=some (grf p t a.Events):=by
 simp only [f2u,a7p (gst p t) (d25 p t),xZ,grf]
theorem b78 (k v:Int):∀m:List (Int×Int),(a7q k v m).map Prod.fst=if k∈m.map Prod.fst then m.map Prod.fst else m.map Prod.fst++[k]
 | []=>by simp [a7q]
 | (a,b)::r=>by
  by_cases e:k=a
  ·simp [a7q,e]
  ·have ih:=b78 k v r
   simp only [a7q,if_neg e,w5,ih,w4]
   by_cases c:k∈List.map Prod.fst r<;>simp only [e,c,false_or,if_true,if_false,wE]
theorem b79 (k:Int):∀m:List (Int×Int),(b8g k m).map Prod.fst=(m.map Prod.fst).erase k
 | []=>by simp [b8g]
 | (a,b)::r=>by
  by_cases e:k=a
  ·simp [b8g,e]
  ·have e':¬a=k:=fun h=>e h.symm
   simp [b8g,e,e',List.erase_cons,b79 k r]
def kst (p t:Int) (x:o9) (ks:List Int):List Int :=
 if t<x.Time∨x.Place≠p then ks else if x.Kind=1 then (if x.Principal∈ks then ks else ks++[x.Principal]) else if x.Kind=2 then ks.erase x.Principal else ks
def a2w (p t:Int) (l:List o9):List Int:=l.foldl (fun ks x=>kst p t x ks) []
theorem d24 (p t i:Int) (x:o9) (m:List (Int×Int)):(gst p t i x m).map Prod.fst=kst p t x (m.map Prod.fst):=by
 unfold gst kst
 split
 ·rfl
 ·split
  ·exact b78 _ _ _
  ·split
   ·exact b79 _ _
   ·rfl
theorem b4p (p t:Int):∀(l:List o9) (i:Int) (m:List (Int×Int)),(a8w (gst p t) l i m).map Prod.fst=l.foldl (fun ks x=>kst p t x ks) (m.map Prod.fst)
 | [],i,m=>rfl
 | x::r,i,m=>by
  simp only [a8w,wQ,b4p p t r]
  rw [d24]
theorem b60 (p t:Int) (l:List o9):(grf p t l).map Prod.fst=a2w p t l:=b4p p t l 0 []
theorem a9t (p t:Int) (l:List o9) (x:o9):a2w p t (l++[x])=kst p t x (a2w p t l):=by simp [a2w]
theorem c6z {p t:Int} {x:o9} {ks:List Int} (h:ks.Nodup):(kst p t x ks).Nodup:=by
 unfold kst
 split
 ·exact h
 ·split
  ·split
   ·exact h
   ·rw [List.nodup_append]
    refine ⟨h,by simp,?_⟩
    intro a ha b hb e
    simp at hb;subst hb;subst e;contradiction
  ·split
   ·exact h.erase _
   ·exact h
theorem b2o (p t:Int) (l:List o9):(a2w p t l).Nodup:=by
 induction l using a1y with
 | h0=>simp [a2w]
 | h1 l x ih=>rw [a9t];exact c6z ih
theorem c73 (p t:Int) (l:List o9):(a2w p t l).length≤l.length:=by
 induction l using a1y with
 | h0=>simp [a2w]
 | h1 l x ih =>
  rw [a9t]
  simp only [xK,zV]
  unfold kst
  split
  ·omega
  ·split
   ·split
    ·omega
    ·simp;omega
   ·split
    ·have:=List.length_erase_le (a:=x.Principal) (l:=a2w p t l);omega
    ·omega
theorem c71 {p t:Int} {l:List o9} {k:Int} (h:k∈a2w p t l):∃x∈l,x.Kind=1∧x.Principal=k∧x.Place=p∧x.Time≤t:=by
 induction l using a1y with
 | h0=>simp [a2w] at h
 | h1 l x ih =>
  rw [a9t] at h
  unfold kst at h
  split at h
  ·obtain ⟨y,hy,h⟩:=ih h;exact ⟨y,by simp [hy],h⟩
  ·rename_i c
   split at h
   ·rename_i c2
    split at h
    ·obtain ⟨y,hy,h⟩:=ih h;exact ⟨y,by simp [hy],h⟩
    ·simp only [wN,xI] at h
     rcases h with h|h
     ·obtain ⟨y,hy,h⟩:=ih h;exact ⟨y,by simp [hy],h⟩
     ·refine ⟨x,by simp,c2,h.symm,?_,?_⟩<;>omega
   ·split at h
    ·obtain ⟨y,hy,h⟩:=ih (List.mem_of_mem_erase h);exact ⟨y,by simp [hy],h⟩
    ·obtain ⟨y,hy,h⟩:=ih h;exact ⟨y,by simp [hy],h⟩
def c4p (l:List Int):List Int:=l.mergeSort fun x y=>decide (x≤y)
theorem a7w (l:List Int):(c4p l).Perm l:=List.mergeSort_perm _ _
theorem a4u (l:List Int):(c4p l).Pairwise (fun x y=>x≤y):=by
 have:=List.pairwise_mergeSort (le:=fun x y:Int=>decide (x≤y)) (fun a b c h1 h2=>by simp at *;omega) (fun a b=>by simp;omega) l
 exact this.imp fun h=>by simpa using h
theorem a7x {l m:List Int} (h:l.Perm m) (h1:l.Pairwise (fun x y=>x≤y)) (h2:m.Pairwise (fun x y=>x≤y)):l=m :=
 h.eq_of_pairwise (fun a b _ _ h1 h2=>by omega) h1 h2
theorem c2r {l m:List Int} (h:l.Perm m):c4p l=c4p m :=
 a7x ((a7w l).trans (h.trans (a7w m).symm)) (a4u l) (a4u m)
theorem b1e {l:List Int} {x:Int}:x∈c4p l↔x∈l:=(a7w l).mem_iff
theorem a9w {a:l5} {p:Int} (t:Int) (hn:a.Events.length≤120) (h:F_3 a p=some true):F_e a p t=some (c4p (a2w p t a.Events)):=by
 simp only [F_e,h,xZ,w6,vO,c7g]
 refine b5p fun l hl=>?_
 have hp:(l.map Prod.fst).Perm (a2w p t a.Events):=by rw [←b60];exact hl.map _
 have hlen:l.length≤120:=by
  have h1:=hp.length_eq
  have h2:=c73 p t a.Events
  simp at h1;omega
 rw [a6u (body:=g3o) (g:=Prod.fst) (b:=8) (n:=120) (by omega) (fun k x s=>rfl) l 0 [] (by simpa using hlen)]
 simp only [xZ,wL,b1s]
 have:(l.map Prod.fst).length<4611686018427387904:=by simp;omega
 rw [if_pos this]
 simp only [xZ]
 exact congrArg some (c2r hp)
def TOK (t:x8):Prop:=0≤t.at_∧t.L.length≤1000
theorem a02 {t:x8} {n:Int} (h:TOK t) (hn:0<n):Ok (F_0 t n) fun y=>0≤y.1∧y.1<n∧TOK y.2:=by
  unfold F_0
  refine Ok.ite (fun c=>Ok.ret ⟨vN 0,hn,h⟩) fun c=>?_
  have c':t.at_<t.L.length:=by simpa using c
  have h1:=h.1;have h2:=h.2
  refine Ok.chk (q9.2 ⟨h.1,c'⟩) (Ok.chk (u6 (by omega) (by omega)) (Ok.chk (b69.2 ⟨Int.emod_nonneg _ (by decide),hn⟩) (Ok.ret ⟨Int.emod_nonneg _ (by omega),Int.emod_lt_of_pos _ hn,?_,h2⟩)))
  show 0≤t.at_+1
  omega
theorem a0b {t:x8} {a b:Int} (h:TOK t) (h1:-1000000≤a) (h2:a≤b) (h3:b≤1000000):Ok (F_1 t a b) fun y=>a≤y.1∧y.1≤b∧TOK y.2:=by
  unfold F_1
  refine Ok.chk (u6 (by omega) (by omega)) (Ok.chk (u6 (by omega) (by omega)) (Ok.bind (a02 h (by omega)) fun y hy=>Ok.chk (u6 (by omega) (by omega)) (Ok.ret ⟨?_,?_,hy.2.2⟩)))
  · show a≤a+y.1;omega
  · show a+y.1≤b;omega
theorem a5y {t:x8} {l:List Int} (h:TOK t) (hl:0<l.length):Ok (F_t t l) fun y=>y.1∈l∧TOK y.2:=by
  unfold F_t
  refine Ok.bind (a02 h (by omega)) fun y hy=>Ok.chk (q9.2 ⟨hy.1,hy.2.1⟩) (Ok.ret ⟨?_,hy.2.2⟩)
  have:y.1.toNat<l.length:=by omega
  simp [this]
theorem a04 {n b:Nat} (h:n*b≤1000000):room n b=true:=a6o.2 (by omega)
theorem c2d {t:x8} {n:Int} (h:TOK t) (h0:0≤n) (hn:n≤30):Ok (e1u t n) fun y=>(y.1.length:Int)=n∧y.1.Pairwise (fun a b=>a≤b)∧(∀x∈y.1,0≤x∧x≤3+2*n)∧TOK y.2:=by
  unfold e1u
  refine Ok.bind (a02 h (by omega)) fun y hy=>?_
  refine Ok.bind (Ok.loop (Q:=fun y:List Int×x8=>(y.1.length:Int)=n∧y.1.Pairwise (fun a b=>a≤b)∧(∀x∈y.1,0≤x∧x≤3+2*n)∧TOK y.2) (fun x=>x.2.1=x.2.2.1.length∧x.2.1≤n∧x.2.2.1.Pairwise (fun a b=>a≤b)∧(∀z∈x.2.2.1,0≤z∧z≤x.1)∧0≤x.1∧x.1≤3+2*x.2.1∧TOK x.2.2.2) (fun x=>(n - x.2.1).toNat) (fun x hx=>?_) _ ?_) fun r hr=>Ok.ret hr
  · obtain ⟨a,i,out,t⟩:=x
    obtain ⟨h1,h2,h3,h4,h5,h6,h7⟩:=hx
    simp only at h1 h2 h3 h4 h5 h6 h7
    unfold g2n
    refine Ok.ite (fun c=>?_) fun c=>?_
    · have c:i<n:=by simpa using c
      refine Ok.bind (a02 h7 (by omega)) fun y hy=>?_
      obtain ⟨y1,y2,y3⟩:=hy
      refine Ok.chk (u6 (by simp only;omega) (by simp only;omega)) (Ok.chk (a04 (by simp;omega)) (Ok.chk (u6 (by simp only;omega) (by simp only;omega)) (Ok.ret ?_)))
      simp only [Fl.elim]
      refine ⟨⟨?_,?_,?_,?_,?_,?_,y3⟩,by omega⟩
      · simp;omega
      · omega
      · rw [List.pairwise_append]
        refine ⟨h3,by simp,fun z hz w hw=>?_⟩
        simp at hw
        have:=(h4 z hz).2
        omega
      · intro z hz
        simp only [wN,xI] at hz
        rcases hz with hz|hz
        · have:=h4 z hz;omega
        · omega
      · omega
      · omega
    · have c:¬i<n:=by simpa using c
      refine Ok.ret ?_
      simp only [Fl.elim]
      refine ⟨by omega,h3,fun z hz=>?_,h7⟩
      have:=h4 z hz
      omega
  · simp only [wO]
    refine ⟨rfl,h0,List.Pairwise.nil,by simp,hy.1,by omega,hy.2.2⟩
theorem c7u {t:x8} {d:d9} (h:TOK t) (hd:d.Kinds.length≤7):Ok (f4h t d) fun y=>Good y.1∧y.1.Places≤4∧y.1.Events.length≤15∧(∀x∈y.1.Events,x.Time≤33)∧TOK y.2:=by
  unfold f4h
  refine Ok.bind (a0b h (by omega) (by omega) (by omega)) fun y hy=>Ok.bind (a02 hy.2.2 (by omega)) fun n hn=>Ok.bind (c2d hn.2.2 hn.1 (by omega)) fun z hz=>?_
  obtain ⟨z1,z2,z3,z4⟩:=hz
  refine Ok.bind (Ok.foldI (all:=z.1) (Q:=fun x:Int×List o9×x8=>x.1=y.1∧x.2.1.length≤z.1.length∧(∀e∈x.2.1,xok y.1 e∧e.Time≤33)∧x.2.1.Pairwise (fun a b=>a.Time≤b.Time)∧TOK x.2.2)
    (fun pre x=>x.1=y.1∧x.2.1.length≤pre.length∧(∀e∈x.2.1,xok y.1 e∧e.Time∈pre)∧x.2.1.Pairwise (fun a b=>a.Time≤b.Time)∧TOK x.2.2) z.1 [] 0 _ rfl rfl ⟨rfl,by simp,by simp,List.Pairwise.nil,z4⟩ (fun pre c q s hw hs=>?_) fun s hs=>?_) fun s hs=>Ok.ret ?_
  · obtain ⟨s1,s2,s3,s4,s5⟩:=hs
    unfold g2l
    have hc:=z3 c (by rw [hw];simp)
    have hpre:∀e∈pre,e≤c:=fun e he=>by rw [hw,List.pairwise_append] at z2;exact z2.2.2 e he c (by simp)
    have hp:pre.length≤15:=by have:=congrArg List.length hw;simp at this;omega
    obtain ⟨y1,y2,y3⟩:=hy
    have push:∀(x:o9) (t:x8),xok y.1 x→x.Time=c→TOK t→Ok (chk (room (s.2.1.length+[x].length) 56) (some (s.1,s.2.1++[x],t))) fun x=>x.1=y.1∧x.2.1.length≤(pre++[c]).length∧(∀e∈x.2.1,xok y.1 e∧e.Time∈pre++[c])∧x.2.1.Pairwise (fun a b=>a.Time≤b.Time)∧TOK x.2.2:=by
      intro x t hx ht hT
      refine Ok.chk (a04 (by simp;omega)) (Ok.ret ⟨s1,by simp;omega,fun e he=>?_,?_,hT⟩)
      · simp only [wN,xI] at he ⊢
        rcases he with he|rfl
        · exact ⟨(s3 e he).1,.inl (s3 e he).2⟩
        · exact ⟨hx,.inr ht⟩
      · rw [List.pairwise_append]
        refine ⟨s4,by simp,fun e he w hw2=>?_⟩
        simp only [xI] at hw2
        subst hw2
        rw [ht];exact hpre _ (s3 e he).2
    refine Ok.bind (a5y s5 (by simp)) fun k hk=>Ok.bind (a02 hk.2 (by omega)) fun pl hpl=>?_
    obtain ⟨p1,p2,p3⟩:=hpl
    rw [s1] at p2
    have hk1:k.1=1∨k.1=2∨k.1=3∨k.1=4∨k.1=5∨k.1=6∨k.1=7:=by have:=hk.1;simp at this;omega
    refine Ok.jn (P:=fun o=>match o with|.nx j=>xok y.1 j.1∧j.1.Time=c∧TOK j.2|.ex r=>TOK r) ?_ fun o ho=>?_
    · refine Ok.jn (P := fun b => b = true ↔ (k.1 = 1 ∨ k.1 = 2)) (Ok.ite (fun c => Ok.ret (by simpa using Or.inl (by simpa using c))) fun c => Ok.ret (by have:¬k.1=1:=by simpa using c
                                                                                                                                                           simp [this])) fun b hb=>?_
      refine Ok.ite (fun c1=>?_) fun c1=>?_
      · have hk2:=hb.1 c1
        refine Ok.chk (u6 (by omega) (by omega)) (Ok.bind (a02 p3 (by omega)) fun w hw2=>Ok.ret ⟨?_,rfl,hw2.2.2⟩)
        exact ⟨by show 0≤c;omega,by show c≤1099511627776;omega,p1,by show pl.1≤y.1 - 1;omega,.inl ⟨hk2,hw2.1,by show w.1≤23;omega,rfl,rfl,rfl⟩⟩
      · have hk2:¬(k.1=1∨k.1=2):=fun h=>by rw [hb.2 h] at c1;cases c1
        refine Ok.ite (fun c2=>?_) fun c2=>?_
        · have c2:k.1=3:=by simpa using c2
          refine Ok.chk (u6 (by omega) (by omega)) (Ok.bind (a02 p3 (by omega)) fun w hw2=>Ok.chk (u6 (by omega) (by omega)) (Ok.ret ⟨?_,rfl,hw2.2.2⟩))
          exact ⟨by show 0≤c;omega,by show c≤1099511627776;omega,p1,by show pl.1≤y.1 - 1;omega,.inr (.inl ⟨c2,by show c<c+1+w.1;omega,by show c+1+w.1≤1099511627776;omega,rfl,rfl,rfl⟩)⟩
        · have c2:¬k.1=3:=by simpa using c2
          refine Ok.jn (P := fun b => b = true ↔ (k.1 = 5 ∨ k.1 = 6)) (Ok.ite (fun c => Ok.ret (by simpa using Or.inl (by simpa using c))) fun c => Ok.ret (by have:¬k.1=5:=by simpa using c
                                                                                                                                                               simp [this])) fun b hb=>?_
          refine Ok.ite (fun c3=>?_) fun c3=>?_
          · have hk3:=hb.1 c3
            refine Ok.bind (a02 p3 (by omega)) fun w hw2=>Ok.ret ⟨?_,rfl,hw2.2.2⟩
            exact ⟨by show 0≤c;omega,by show c≤1099511627776;omega,p1,by show pl.1≤y.1 - 1;omega,.inr (.inr (.inr (.inl ⟨hk3,hw2.1,by show w.1≤63;omega,rfl,rfl,rfl⟩)))⟩
          · have hk3:¬(k.1=5∨k.1=6):=fun h=>by rw [hb.2 h] at c3;cases c3
            refine Ok.ite (fun c4=>?_) fun c4=>?_
            · have c4:k.1=7:=by simpa using c4
              refine Ok.bind (a02 p3 (by omega)) fun w hw2=>Ok.ite (fun _=>Ok.ret hw2.2.2) fun c5=>Ok.ret ⟨?_,rfl,hw2.2.2⟩
              have c5:¬w.1=pl.1:=by simpa using c5
              have hw3:=hw2.2.1
              rw [s1] at hw3
              exact ⟨by show 0≤c;omega,by show c≤1099511627776;omega,p1,by show pl.1≤y.1 - 1;omega,.inr (.inr (.inr (.inr ⟨c4,hw2.1,by show w.1≤y.1 - 1;omega,c5,rfl,rfl,rfl⟩)))⟩
            · have c4:¬k.1=7:=by simpa using c4
              refine Ok.ret ⟨?_,rfl,p3⟩
              exact ⟨by show 0≤c;omega,by show c≤1099511627776;omega,p1,by show pl.1≤y.1 - 1;omega,.inr (.inr (.inl ⟨by show k.1=4;omega,rfl,rfl,rfl,rfl⟩))⟩
    · cases o with
      | nx j=>exact push j.1 j.2 ho.1 ho.2.1 ho.2.2
      | ex r =>
        refine Ok.ret ⟨s1,by simp;omega,fun e he=>⟨(s3 e he).1,by simp [(s3 e he).2]⟩,s4,ho⟩
  · obtain ⟨s1,s2,s3,s4,s5⟩:=hs
    refine ⟨s1,s2,fun e he=>⟨(s3 e he).1,?_⟩,s4,s5⟩
    have:=z3 _ (s3 e he).2
    omega
  · obtain ⟨s1,s2,s3,s4,s5⟩:=hs
    obtain ⟨y1,y2,y3⟩:=hy
    refine ⟨⟨?_,?_,?_,fun e he=>?_,s4⟩,?_,?_,fun e he=>(s3 e he).2,s5⟩<;>simp only [s1]
    · omega
    · omega
    · omega
    · exact (s3 e he).1
    · omega
    · omega
def mok (d:d9) (x:a0f):Prop :=
 (x.Kind=1∨x.Kind=2)∧0≤x.Time∧x.Time≤1099511627776∧(0≤x.Principal∧x.Principal<d.Kinds.length)∧(0≤x.Group∧x.Group<d.Kinds.length∧d.Kinds.getD x.Group.toNat default=2)∧x.Principal≠x.Group
structure a1g (d:d9):Prop where
 kl:d.Kinds.length≤24
 el:d.Events.length≤120
 kd:∀k∈d.Kinds,1≤k∧k≤3
 ev:∀x∈d.Events,mok d x
 srt:d.Events.Pairwise fun x y=>x.Time≤y.Time
theorem b04 (d:d9) (p:Int):e09 d p=some (decide (0≤p∧p<d.Kinds.length)):=by simp [e09,grp]
theorem c82 (d:d9) (p:Int):f1n d p=some (decide (0≤p∧p<d.Kinds.length∧d.Kinds.getD p.toNat default=2)):=by
 simp only [f1n,b04,xZ,jn]
 by_cases c:0≤p∧p<d.Kinds.length
 ·simp [c,o8 (q9.2 c)]
 ·have:¬(0≤p∧p<(d.Kinds.length:Int)∧d.Kinds.getD p.toNat default=2):=fun h=>c ⟨h.1,h.2.1⟩
  simp only [wI c,wI this,vO,xZ]
def a5k (d:d9):Int→List a0f→Prop
 | _,[]=>True
 | last,x::r=>(last≤x.Time∧mok d x)∧a5k d x.Time r
theorem b4t {d:d9}:∀{l:List a0f} {last:Int},a5k d last l↔((∀x∈l,last≤x.Time∧mok d x)∧l.Pairwise fun x y=>x.Time≤y.Time)
 | [],_=>by simp [a5k]
 | x::r,last=>by
  simp only [a5k,b4t,w4,List.pairwise_cons]
  constructor
  ·rintro ⟨h1,h2,h3⟩
   refine ⟨fun y hy=>?_,fun y hy=>(h2 y hy).1,h3⟩
   rcases hy with rfl|hy
   ·exact h1
   ·have:=h1.1
    exact ⟨by have:=(h2 y hy).1;omega,(h2 y hy).2⟩
  ·rintro ⟨h1,h2,h3⟩
   exact ⟨h1 x (.inl rfl),fun y hy=>⟨h2 y hy,(h1 y (.inr hy)).2⟩,h3⟩
theorem c2b (d:d9):∀(l:List a0f) (k last:Int),0≤last→∃o,a10 (f6v d) l k last=some o∧(a5k d last l→∃s,o=.nx s)∧(¬a5k d last l→o=.ex 30)
 | [],k,last,_=>⟨.nx last,rfl,fun _=>⟨_,rfl⟩,fun h=>absurd trivial h⟩
 | x :: r,k,last,h0=>by
  simp only [a10,f6v,grp,b04,c82,jn]
  by_cases c:last≤x.Time∧mok d x
  ·obtain ⟨c1,c2,c3,c4,c5,c6,c7⟩:=c
   have e1:(!decide (x.Kind=1)&&!decide (x.Kind=2))=false:=by
    rcases c2 with h|h<;>simp [h]
   have e2:decide (x.Time<last)=false:=wI (by omega)
   have e3:decide (1099511627776<x.Time)=false:=wI (by omega)
   simp only [e1,e2,e3,Bool.or_self,vO,xZ,wV c5,w6,wV c6,wI c7,a1t]
   obtain ⟨o,h1,h2,h3⟩:=c2b d r (k+1) x.Time c3
   refine ⟨o,h1,fun h=>h2 h.2,fun h=>h3 fun hc=>h ⟨⟨c1,c2,c3,c4,c5,c6,c7⟩,hc⟩⟩
  ·refine ⟨.ex 30,?_,fun h=>absurd h.1 c,fun _=>rfl⟩
   by_cases d1:x.Kind=1∨x.Kind=2
   ·have e1:(!decide (x.Kind=1)&&!decide (x.Kind=2))=false:=by
     rcases d1 with h|h<;>simp [h]
    by_cases d2:x.Time<last∨1099511627776<x.Time
    ·have:(decide (x.Time<last)||decide (1099511627776<x.Time))=true:=by simpa using d2
     simp only [e1,w7,this,vQ,xZ,a1p]
    ·have:(decide (x.Time<last)||decide (1099511627776<x.Time))=false:=by
      simp only [xE,zK];omega
     simp only [e1,w7,this,vO,xZ]
     by_cases d3:0≤x.Principal∧x.Principal<d.Kinds.length
     ·simp only [wV d3,w6,vO]
      by_cases d4:0≤x.Group∧x.Group<d.Kinds.length∧d.Kinds.getD x.Group.toNat default=2
      ·have d5:x.Principal=x.Group:=Classical.byContradiction fun hne=>c ⟨by omega,d1,by omega,by omega,d3,d4,hne⟩
       simp only [wV d4,wV d5,w6,w7,vQ,xZ,a1p]
      ·simp only [wI d4,wY,Bool.true_or,vQ,xZ,a1p]
     ·simp only [wI d3,wY,vQ,xZ,a1p]
   ·have e1:(!decide (x.Kind=1)&&!decide (x.Kind=2))=true:=by
     simp only [not_or] at d1
     simp [d1.1,d1.2]
    simp only [e1,Bool.true_or,vQ,xZ,a1p]
theorem b7o {α:Type} {body:Int→α→Unit→Option (Fl Unit Int)} (p:α→Prop) [DecidablePred p] (h:∀k x,body k x ()=some (if p x then .ex k else .nx ())):∀(xs:List α) (k:Int),0≤k →
  ∃o,a10 body xs k ()=some o∧((∃x∈xs,p x)→∃r,o=.ex r∧0≤r)∧((∀x∈xs,¬p x)→o=.nx ())
 | [],k,hk=>⟨.nx (),rfl,fun ⟨x,hx,_⟩=>by simp at hx,fun _=>rfl⟩
 | x::r,k,hk=>by
  simp only [a10,h]
  by_cases c:p x
  ·simp only [if_pos c,xZ,a1p]
   exact ⟨_,rfl,fun _=>⟨k,rfl,hk⟩,fun hn=>absurd c (hn x (by simp))⟩
  ·simp only [if_neg c,xZ,a1t]
   obtain ⟨o,h1,h2,h3⟩:=b7o p h r (k+1) (by omega)
   refine ⟨o,h1,fun ⟨y,hy,hp⟩=>?_,fun hn=>h3 fun y hy=>hn y (by simp [hy])⟩
   rcases w4.1 hy with rfl|hy
   ·exact absurd hp c
   ·exact h2 ⟨y,hy,hp⟩
theorem b0r {α:Type} {body:Int→α→Unit→Option (Fl Unit Int)} (p:α→Prop) [DecidablePred p] (xs:List α) [Decidable (∃x∈xs,p x)] (h:∀k x,body k x ()=some (if p x then .ex k else .nx ())) :
  (((a10 body xs 0 ()).bind fun o=>o.elim (fun _=>some (-1)) fun r=>some r).bind fun y=>some (decide (0≤y)))=some (decide (∃x∈xs,p x)):=by
 obtain ⟨o,h1,h2,h3⟩:=b7o p h xs 0 (vN 0)
 rw [h1]
 by_cases c:∃x∈xs,p x
 ·obtain ⟨r,rfl,hr⟩:=h2 c
  simp only [xZ,a1p,wV hr,wV c]
 ·have:=h3 fun x hx hp=>c ⟨x,hx,hp⟩
  subst this
  simp only [xZ,a1t,wI c]
  rfl
theorem d2p (s:List Int) (v:Int):e0g s v=some (decide (v∈s)):=by
 have h:=b0r (body:=e1q v) (fun y=>v=y) s fun k y=>by
  by_cases c:v=y<;>simp [e1q,c]
 have e:decide (∃y∈s,v=y)=decide (v∈s):=decide_eq_decide.2 ⟨fun ⟨y,hy,e⟩=>e▸hy,fun h=>⟨v,h,rfl⟩⟩
 rw [e] at h
 exact h
theorem a8q (d:d9):a1g d↔d.Kinds.length≤24∧d.Events.length≤120∧(∀k∈d.Kinds,1≤k∧k≤3)∧a5k d 0 d.Events:=by
 rw [b4t]
 exact ⟨fun h=>⟨h.kl,h.el,h.kd,fun x hx=>⟨(h.ev x hx).2.1,h.ev x hx⟩,h.srt⟩,fun ⟨h1,h2,h3,h4,h5⟩=>⟨h1,h2,h3,fun x hx=>(h4 x hx).2,h5⟩⟩
open Classical in
theorem a4s (d:d9):e1t d=some (if a1g d then 0 else 30):=by
 simp only [e1t,grp]
 by_cases h1:d.Kinds.length≤24∧d.Events.length≤120
 ·have e1:(decide (24<(d.Kinds.length:Int))||decide (120<(d.Events.length:Int)))=false:=by
   simp only [xE,zK];omega
  have e2:f5s d.Kinds=some (decide (∃k∈d.Kinds,¬(1≤k∧k≤3))):=by
   refine b0r (fun k=>¬(1≤k∧k≤3)) d.Kinds fun k x=>?_
   simp only [g2f,f5t,grp,xZ]
   by_cases c:1≤x∧x≤3
   ·have:(decide (x<1)||decide (3<x))=false:=by simp only [xE,zK];omega
    simp [this,c]
   ·have:(decide (x<1)||decide (3<x))=true:=by simp only [wT,xO];omega
    simp only [this,vQ,c,not_false_eq_true,if_true]
  simp only [e1,e2,vO,xZ]
  by_cases q:∃k∈d.Kinds,¬(1≤k∧k≤3)
  ·have:¬a1g d:=fun h=>by obtain ⟨k,hk,hn⟩:=q;exact hn (h.kd k hk)
   simp only [wV q,vQ,if_neg this]
  ·simp only [wI q,vO]
   have q':∀k∈d.Kinds,1≤k∧k≤3:=fun k hk=>Classical.byContradiction fun hn=>q ⟨k,hk,hn⟩
   obtain ⟨o,k1,k2,k3⟩:=c2b d d.Events 0 0 (vN 0)
   rw [k1]
   by_cases c:a5k d 0 d.Events
   ·obtain ⟨s,rfl⟩:=k2 c
    simp only [xZ,a1t,if_pos ((a8q d).2 ⟨h1.1,h1.2,q',c⟩)]
   ·rw [k3 c]
    have:¬a1g d:=fun h=>c ((a8q d).1 h).2.2.2
    simp only [xZ,a1p,if_neg this]
 ·have e1:(decide (24<(d.Kinds.length:Int))||decide (120<(d.Events.length:Int)))=true:=by
   simp only [wT,xO];omega
  have:¬a1g d:=fun h=>h1 ⟨h.kl,h.el⟩
  simp only [e1,vQ,if_neg this]
theorem c81 {d:d9} (g:a1g d) (p:Int):f1k d p=some (decide (0≤p∧p<d.Kinds.length)):=by
 simp only [f1k,a4s,if_pos g,xZ,decide_true,vQ,b04,jn]
inductive RT (L:Nat→Nat→Bool) (n p:Nat):Nat→Prop
 | refl:RT L n p p
 | step {a b:Nat} (h:RT L n p a) (ha:a<n) (hb:b<n) (hl:L a b=true):RT L n p b
theorem a3e {n b:Nat} (h:n*b≤1000000):room n b=true:=a6o.2 (by omega)
theorem a3y {n:Int} (h1:-1000000000000000≤n) (h2:n≤1000000000000000):a0p n=true:=a1q.2 ⟨by omega,by omega⟩
def gt (o:List Bool):Nat→Bool:=fun i=>o.getD i false
theorem d46 {o:List Bool} {k:Nat} (hk:k<o.length) (i:Nat):gt (o.set k true) i=if i=k then true else gt o i:=by
 simp only [gt,zE,xR]
 by_cases e:k=i
 ·subst e;simp [hk]
 ·rw [if_neg e,if_neg (fun h=>e h.symm)]
theorem c9k {L:Nat→Nat→Bool} {n p:Nat} (hn:n≤24) {row:List Bool} (hr:row.length=n) {a:Nat} (ha:a<n) (hL:∀i,i<n→row.getD i false=L a i) (q:List Int) (o:List Bool) (ho:o.length=n) (hq:q.length≤100)
  (hR:∀i,i<n→gt o i=true→RT L n p i) (hRa:RT L n p a) :
  Ok (a0d f7i row 0 (q,o)) fun s=>∃news,s.1=q++news∧s.2.length=n∧(∀x∈news,0≤x∧x<n∧gt s.2 x.toNat=true)∧(∀i,gt o i=true→gt s.2 i=true)∧(∀i,i<n→gt s.2 i=true→RT L n p i) ∧
   (∀i,i<n→L a i=true→gt s.2 i=true)∧(∀i,i<n→gt s.2 i=true→gt o i=true∨(i:Int)∈news)∧cnt (gt s.2) n=cnt (gt o) n+news.length:=by
 refine Ok.foldI (all:=row) (fun pre s=>∃news,s.1=q++news∧s.2.length=n∧(∀x∈news,0≤x∧x<n∧gt s.2 x.toNat=true)∧(∀i,gt o i=true→gt s.2 i=true)∧(∀i,i<n→gt s.2 i=true→RT L n p i) ∧
   (∀i,i<pre.length→L a i=true→gt s.2 i=true)∧(∀i,i<n→gt s.2 i=true→gt o i=true∨(i:Int)∈news)∧cnt (gt s.2) n=cnt (gt o) n+news.length) row [] 0 _ rfl rfl ⟨[],by simp,ho,by simp,fun _ h=>h,hR,fun i hi=>by simp at hi,fun i _ h=>.inl h,by simp⟩ (fun pre x r s hw hs=>?_) fun s hs=>by rw [hr] at hs;exact hs
 obtain ⟨q',o'⟩:=s
 obtain ⟨news,rfl,h1,h2,h3,h4,h5,h6,h7⟩:=hs
 simp only at h1 h2 h3 h4 h5 h6 h7
 have hlen:pre.length<n:=by rw [←hr,hw];simp
 have hx:x=L a pre.length:=by rw [←hL _ hlen,hw];simp
 unfold f7i
 have hi:inb (pre.length:Int) o'.length=true:=q9.2 ⟨by omega,by omega⟩
 have hg:o'.getD (pre.length:Int).toNat default=gt o' pre.length:=by simp [gt]
 cases hxx:x with
 | false =>
  simp only [vO,jn,xZ]
  refine Ok.ret ⟨news,rfl,h1,h2,h3,h4,fun i hi' hl=>?_,h6,h7⟩
  simp only [xK,zV] at hi'
  by_cases e:i=pre.length
  ·subst e;rw [←hx,hxx] at hl;cases hl
  ·exact h5 i (by omega) hl
 | true =>
  have hla:L a pre.length=true:=by rw [←hx,hxx]
  simp only [vQ,jn,o8 hi,xZ,hg]
  cases hgo:gt o' pre.length with
  | true =>
   simp only [w6,vO]
   refine Ok.ret ⟨news,rfl,h1,h2,h3,h4,fun i hi' hl=>?_,h6,h7⟩
   simp only [xK,zV] at hi'
   by_cases e:i=pre.length
   ·subst e;exact hgo
   ·exact h5 i (by omega) hl
  | false =>
   simp only [wY,vQ]
   have hc1:=b4v (gt o') n
   refine Ok.chk (a3e (by simp;omega)) ?_
   have hset:∀i,gt (o'.set (pre.length:Int).toNat true) i=if i=pre.length then true else gt o' i:=fun i=>by
    have:=d46 (o:=o') (k:=pre.length) (by omega) i
    simpa using this
   have hmono:∀i,gt o' i=true→gt (o'.set (pre.length:Int).toNat true) i=true:=fun i h=>by rw [hset];split<;>simp [h]
   refine Ok.ret ⟨news++[(pre.length:Int)],by simp,by simp [h1],fun y hy=>?_,fun i h=>hmono i (h3 i h),fun i hi' h=>?_,fun i hi' hl=>?_,fun i hi' h=>?_,?_⟩
   ·simp only [wN,xI] at hy
    rcases hy with hy|rfl
    ·obtain ⟨a1,a2,a3⟩:=h2 y hy
     exact ⟨a1,a2,hmono _ a3⟩
    ·exact ⟨by omega,by omega,by simp only [hset];simp⟩
   ·simp only [hset] at h
    by_cases e:i=pre.length
    ·subst e;exact .step hRa ha hlen hla
    ·rw [if_neg e] at h;exact h4 i hi' h
   ·simp only [xK,zV] at hi'
    by_cases e:i=pre.length
    ·simp only [hset,e,if_true]
    ·exact hmono i (h5 i (by omega) hl)
   ·simp only [hset] at h
    by_cases e:i=pre.length
    ·exact .inr (by simp [e])
    ·rw [if_neg e] at h
     rcases h6 i hi' h with h|h
     ·exact .inl h
     ·exact .inr (by simp [h])
   ·have:cnt (gt (o'.set (pre.length:Int).toNat true)) n=cnt (gt o') n+1:=by
     have key:∀m,cnt (gt (o'.set (pre.length:Int).toNat true)) m=cnt (gt o') m+(if pre.length<m then 1 else 0):=by
      intro m
      induction m with
      | zero=>simp [cnt]
      | succ m ih =>
       simp only [cnt,ih,hset]
       by_cases e:m=pre.length
       ·subst e;rw [hgo];simp
       ·rw [if_neg e]
        by_cases c:pre.length<m
        ·rw [if_pos c,if_pos (by omega)];omega
        ·rw [if_neg c,if_neg (by omega)];omega
     rw [key,if_pos hlen]
    simp only [this,xK,zV]
    omega
theorem c4y {L:Nat→Nat→Bool} {n p:Nat} (hn:n≤24) (hp:p<n) (T:List (List Bool)) (hT:T.length=n) (hrow:∀a,a<n→(T.getD a default).length=n∧∀i,i<n→(T.getD a default).getD i false=L a i) :
  Ok (f3q T (p:Int)) fun o=>o.length=n∧∀i,i<n→(gt o i=true↔RT L n p i):=by
 unfold f3q
 rw [hT]
 have hl0:(List.replicate ((n:Int)).toNat false).length=n:=by simp
 refine Ok.chk (a2f.2 ⟨by omega,by omega,by omega⟩) (Ok.chk (q9.2 ⟨by omega,by rw [hl0];omega⟩) ?_)
 have hset:∀i,gt ((List.replicate ((n:Int)).toNat false).set ((p:Int)).toNat true) i=if i=p then true else gt (List.replicate n false) i:=fun i=>by
  have:=d46 (o:=List.replicate n false) (k:=p) (by simpa using hp) i
  simpa using this
 have hrep:∀i,gt (List.replicate n false) i=false:=fun i=>by
  simp only [gt,zE,List.getElem?_replicate]
  split<;>rfl
 refine Ok.bind (Ok.loop (Q:=fun o:List Bool=>o.length=n∧∀i,i<n→(gt o i=true↔RT L n p i))
  (fun (s:List Int×List Bool)=>s.2.length=n∧(∀x∈s.1,0≤x∧x<n∧gt s.2 x.toNat=true)∧(∀i,i<n→gt s.2 i=true→RT L n p i)∧gt s.2 p=true∧(∀a,a<n→gt s.2 a=true→(a:Int)∉s.1→∀b,b<n→L a b=true→gt s.2 b=true)∧s.1.length≤cnt (gt s.2) n)
  (fun (s:List Int×List Bool)=>2*(n - cnt (gt s.2) n)+s.1.length) (fun s hs=>?_) _ ?_) fun r hr=>Ok.ret hr
 ·obtain ⟨q,o⟩:=s
  obtain ⟨i1,i2,i3,i4,i5,i6⟩:=hs
  simp only at i1 i2 i3 i4 i5 i6
  unfold g2e
  have hcn:=b4v (gt o) n
  refine Ok.ite (fun cq=>?_) fun cq=>?_
  ·have cq:0<(q.length:Int):=by simpa using cq
   obtain ⟨q0,rest,rfl⟩:∃a r,q=a::r:=by
    cases q with
    | nil=>simp at cq
    | cons a r=>exact ⟨a,r,rfl⟩
   have e0:(q0::rest).getD 0 default=q0:=rfl
   obtain ⟨b1,b2,b3⟩:=i2 q0 (by simp)
   refine Ok.chk (q9.2 ⟨by omega,cq⟩) ?_
   simp only [e0]
   have hqa:q0.toNat<n:=by omega
   obtain ⟨r1,r2⟩:=hrow q0.toNat hqa
   refine Ok.chk (q9.2 ⟨by omega,by rw [hT];exact b2⟩) (Ok.bind (c9k (p:=p) hn r1 hqa r2 (q0::rest) o i1 (by omega) i3 (i3 _ hqa b3)) fun s hs=>?_)
   obtain ⟨q',o'⟩:=s
   obtain ⟨news,hq',h1,h2,h3,h4,h5,h6,h7⟩:=hs
   simp only at hq' h1 h2 h3 h4 h5 h6 h7
   subst hq'
   have hcn':=b4v (gt o') n
   refine Ok.chk (a4c.2 ⟨by omega,by simp;omega,by omega⟩) (Ok.ret ?_)
   have e1:(((q0::rest)++news).drop 1).take (((q0::rest)++news).length - 1)=rest++news:=by
    simp only [wE,xF,wW,wC,Nat.add_sub_cancel]
    exact wA
   rw [e1]
   refine ⟨⟨h1,fun x hx=>?_,h4,h3 p i4,fun a ha hga hna b hb hl=>?_,?_⟩,?_⟩
   ·rcases wN.1 hx with hx|hx
    ·obtain ⟨c1,c2,c3⟩:=i2 x (by simp [hx])
     exact ⟨c1,c2,h3 _ c3⟩
    ·exact h2 x hx
   ·simp only [wN,not_or] at hna
    rcases h6 a ha hga with hoa|hnew
    ·by_cases e:(a:Int)=q0
     ·have:a=q0.toNat:=by omega
      subst this
      exact h5 b hb hl
     ·exact h3 b (i5 a ha hoa (by simp only [w4,not_or];exact ⟨e,hna.1⟩) b hb hl)
    ·exact absurd hnew hna.2
   ·simp only [xK,wC] at i6 ⊢
    omega
   ·show 2*(n - cnt (gt o') n)+(rest++news).length<2*(n - cnt (gt o) n)+(q0::rest).length
    simp only [xK,wC] at i6 ⊢
    omega
  ·have:q=[]:=by
    have cq:¬0<(q.length:Int):=by simpa using cq
    exact zM.1 (by omega)
   subst this
   refine Ok.ret ⟨i1,fun i hi=>⟨i3 i hi,fun h=>?_⟩⟩
   induction h with
   | refl=>exact i4
   | step h ha hb hl ih=>exact i5 _ ha (ih ha) (by simp) _ hb hl
 ·refine ⟨by simp,fun x hx=>?_,fun i hi h=>?_,by simp only [hset,if_true],fun a ha h hna=>?_,?_⟩
  ·simp only [xI] at hx
   subst hx
   exact ⟨by omega,by omega,by simp only [hset];simp⟩
  ·simp only [hset,hrep] at h
   by_cases e:i=p
   ·subst e;exact .refl
   ·rw [if_neg e] at h;cases h
  ·simp only [hset,hrep] at h
   by_cases e:a=p
   ·subst e;simp at hna
   ·rw [if_neg e] at h;cases h
  ·exact c02 (j:=p) (by simp only [hset,if_true]) n hp
def dlk (d:d9) (t:Int):Nat→Nat→Bool:=zk (ev4 (d.Events.map fun e=>(e.Time,e.Kind,e.Principal,e.Group))) t d.Events.length
open Classical in
def upl (d:d9) (p t:Int):List Int:=((List.range d.Kinds.length).filter fun i=>decide (RT (dlk d t) d.Kinds.length p.toNat i)).map fun i:Nat=>(i:Int)
theorem at_eq {d:d9} (g:a1g d) (t:Int):atF d.Kinds.length (d.Events.map fun e=>(e.Time,e.Kind,e.Principal,e.Group)) t=some ((List.range d.Kinds.length).map fun j=>(List.range d.Kinds.length).map fun i=>dlk d t j i):=by
 have hk:=g.kl
 unfold atF
 rw [o8 (by simp;omega),o8]
 ·simp [dlk]
 ·simp only [wF,vG]
  rintro _ ⟨e,he,rfl⟩
  obtain ⟨_,_,_,h4,h5,_⟩:=g.ev e he
  have e1:inb e.Principal d.Kinds.length=true:=q9.2 h4
  have e2:inb e.Group d.Kinds.length=true:=q9.2 ⟨h5.1,h5.2.1⟩
  simp [e1,e2]
theorem c0i (l:List Bool) (h:l.length≤24):e1s l=some (((List.range l.length).filter (gt l)).map fun i:Nat=>(i:Int)):=by
 refine Ok.eq ?_
 unfold e1s
 refine Ok.bind (Ok.foldI (all:=l) (fun pre s=>s=((List.range pre.length).filter (gt l)).map fun i:Nat=>(i:Int)) l [] 0 [] rfl rfl rfl (fun pre x r s hw hs=>?_) fun s hs=>hs) fun s hs=>Ok.ret hs
 subst hs
 unfold f6s
 have hp:pre.length<l.length:=by rw [hw];simp
 have hx:gt l pre.length=x:=by rw [hw];simp [gt]
 have hlen:(((List.range pre.length).filter (gt l)).map fun i:Nat=>(i:Int)).length≤pre.length:=by
  rw [wP];exact vD (List.length_filter_le _ _) (by simp)
 simp only [xK,zV,List.range_succ,List.filter_append,List.map_append]
 cases x
 ·simp only [vO]
  exact Ok.ret (by simp [hx])
 ·simp only [vQ]
  exact Ok.chk (a3e (by simp only [wP] at hlen ⊢;omega)) (Ok.ret (by simp [hx]))
theorem c4z {d:d9} (g:a1g d) {p:Int} (t:Int) (h0:0≤p) (h1:p<d.Kinds.length):e1r d p t=some (upl d p t):=by
 have hk:decide (0≤p∧p<(d.Kinds.length:Int))=true:=wV ⟨h0,h1⟩
 simp only [e1r,c81 g,hk,xZ,w6,vO,at_eq g]
 obtain ⟨o,ho,ho1,ho2⟩:=c4y (L:=dlk d t) (n:=d.Kinds.length) (p:=p.toNat) g.kl (by omega) ((List.range d.Kinds.length).map fun j=>(List.range d.Kinds.length).map fun i=>dlk d t j i) (by simp) fun a ha=>by
  have e:((List.range d.Kinds.length).map fun j=>(List.range d.Kinds.length).map fun i=>dlk d t j i).getD a default=(List.range d.Kinds.length).map fun i=>dlk d t a i:=by simp [zE,ha]
  rw [e]
  exact ⟨by simp,fun i hi=>by simp [zE,hi]⟩
 rw [show ((p.toNat:Nat):Int)=p by omega] at ho
 rw [ho]
 have hl:=g.kl
 simp only [xZ,c0i o (by rw [ho1];exact hl)]
 simp only [upl,ho1]
 congr 2
 refine List.filter_congr fun i hi=>?_
 have:=ho2 i (List.mem_range.1 hi)
 cases e:gt o i with
 | true=>simp [this.1 e]
 | false =>
  have h:¬RT (dlk d t) d.Kinds.length p.toNat i:=fun h=>by rw [this.2 h] at e;cases e
  simp [h]
def rdr (d:d9) (p:Int):Prop:=0≤p∧p<d.Kinds.length∧d.Kinds.getD p.toNat default≠2
theorem c68 (d:d9) (p:Int) [Decidable (rdr d p)]:f1m d p=some (decide (rdr d p)):=by
 simp only [f1m,grp,jn]
 by_cases c:0≤p∧p<(d.Kinds.length:Int)
 ·have e:(decide (0≤p)&&decide (p<(d.Kinds.length:Int)))=true:=by simpa using c
  simp only [e,vQ,o8 (q9.2 c),xZ]
  congr 1
  by_cases q:d.Kinds.getD p.toNat default=2
  ·rw [wV q,wI (fun h:rdr d p=>h.2.2 q)];rfl
  ·rw [wI q,wV (show rdr d p from ⟨c.1,c.2,q⟩)];rfl
 ·have e:(decide (0≤p)&&decide (p<(d.Kinds.length:Int)))=false:=by
   cases h:(decide (0≤p)&&decide (p<(d.Kinds.length:Int)))
   ·rfl
   ·exact absurd (by simpa using h) c
  simp only [e,vO,xZ]
  rw [wI (fun h:rdr d p=>c ⟨h.1,h.2.1⟩)]
open Classical in
theorem d8x {d:d9} {a:l5} (g:a1g d) (h:Good a) (p pl:Int):f1l d a p pl=some (decide (rdr d p∧0≤pl∧pl≤a.Places - 1)):=by
 simp only [f1l,d3k,a4s,a4a,if_pos g,if_pos h,xZ,jn,c68,b5n a pl h.lo h.hi]
 by_cases c:rdr d p<;>simp [c]
theorem d3y (U:List Int):∀(xs:List Int) (k:Int),a10 (f6q U) xs k ()=some (match xs.find? (fun x=>decide (x∈U)) with|some x=>.ex (x,true)|none=>.nx ())
 | [],k=>rfl
 | x::r,k=>by
  simp only [a10,f6q,d2p,xZ,List.find?_cons]
  by_cases c:x∈U
  ·simp [c,a1p]
  ·simp [c,a1t,d3y U r (k+1)]
def d49 (o:Option Int):Int×Bool:=match o with|some x=>(x,true)|none=>(0,false)
theorem c60 {d:d9} {a:l5} {p pl t:Int} {U G:List Int} (h1:e1r d p t=some U) (h2:F_e a pl t=some G):f2t d a p pl t=some (d49 (G.find? fun x=>decide (x∈U))):=by
 simp only [f2t,h1,h2,xZ,d3y]
 cases G.find? (fun x=>decide (x∈U))<;>simp [d49,a1t,a1p]
def c4r (d:d9) (a:l5) (p pl t:Int):Prop :=
 (rdr d p∧0≤pl∧pl≤a.Places - 1)∧((lkf pl t a.Events 0 (0,false)).2=true∨∃x∈a2w pl t a.Events,x∈upl d p t)
open Classical in
theorem e7p {d:d9} {a:l5} (g:a1g d) (h:Good a) (p pl t:Int):f1j d a p pl t=some (decide (c4r d a p pl t)):=by
 simp only [f1j,d8x g h,xZ,grp]
 by_cases c:rdr d p∧0≤pl∧pl≤a.Places - 1
 ·have hk:=b1h h c.2.1 c.2.2
  rw [a6a t hk,c60 (c4z g t c.1.1 c.1.2.1) (a9w t h.len hk)]
  simp only [wV c,w6,vO,xZ]
  congr 1
  by_cases q:∃x∈a2w pl t a.Events,x∈upl d p t
  ·have:(d49 ((c4p (a2w pl t a.Events)).find? fun x=>decide (x∈upl d p t))).2=true:=by
    obtain ⟨x,hx,hu⟩:=q
    cases e:(c4p (a2w pl t a.Events)).find? fun x=>decide (x∈upl d p t) with
    | some y=>rfl
    | none =>
     have:=List.find?_eq_none.1 e x (b1e.2 hx)
     simp [hu] at this
   rw [this,Bool.or_true]
   exact (wV (show c4r d a p pl t from ⟨c,.inr q⟩)).symm
  ·have:(d49 ((c4p (a2w pl t a.Events)).find? fun x=>decide (x∈upl d p t))).2=false:=by
    cases e:(c4p (a2w pl t a.Events)).find? fun x=>decide (x∈upl d p t) with
    | none=>rfl
    | some y =>
     refine absurd ⟨y,b1e.1 (List.mem_of_find?_eq_some e),?_⟩ q
     have:=List.find?_some e
     simpa using this
   rw [this,Bool.or_false]
   cases e:(lkf pl t a.Events 0 (0,false)).2 with
   | true=>exact (wV (show c4r d a p pl t from ⟨c,.inl e⟩)).symm
   | false =>
    refine (wI fun hm:c4r d a p pl t=>?_).symm
    rcases hm.2 with h|h
    ·rw [e] at h;cases h
    ·exact q h
 ·simp only [wI c,wY,vQ]
  congr 1
  exact (wI fun hm:c4r d a p pl t=>c hm.1).symm
theorem a2y (d:Array Int):∀(m i:Nat),i<m→d[i]! ∈ Go.Lib.compactUpTo d m
 | 0,i,h=>by omega
 | m + 1,i,h=>by
  rw [Go.Lib.compactUpTo_succ,wN]
  rcases Nat.lt_or_ge i m with h1|h1
  ·exact .inl (a2y d m i h1)
  ·have e:i=m:=by omega
   subst e
   cases hk:Go.Lib.keeps d i with
   | true=>right;simp [hk]
   | false =>
    left
    cases i with
    | zero=>simp [Go.Lib.keeps] at hk
    | succ i =>
     have h2:d[i+1]! = d[i]! := by
      by_cases c:d[i+1]! = d[i]!
      ·exact c
      ·have:=Go.Lib.keeps_pos (d:=d) (m:=i+1) (by simpa using c)
       rw [hk] at this;cases this
     rw [h2]
     exact a2y d (i+1) i (by omega)
theorem b81 (xs:List Int):∀x∈xs,x∈Go.Lib.compact xs:=by
 intro x hx
 obtain ⟨i,hi,rfl⟩:=xC.1 hx
 have:=a2y xs.toArray xs.length i hi
 simpa [Go.Lib.compact,hi] using this
theorem c01 {xs:List Int} {x:Int}:x∈Go.Lib.compact xs↔x∈xs:=⟨b3f xs x,b81 xs x⟩
theorem b3e (xs:List Int):(Go.Lib.compact xs).Sublist xs:=by
 have h:(List.range xs.length).map (fun i=>xs.toArray[i]!)=xs:=by
  apply List.ext_getElem
  ·simp
  ·intro i h1 h2
   simp [h2]
 have:=(List.filter_sublist (p:=Go.Lib.keeps xs.toArray) (l:=List.range xs.length)).map (fun i=>xs.toArray[i]!)
 rw [h] at this
 exact this
theorem c56 {a:l5} (g:Good a):F_v a=some (Go.Lib.compact (a.Events.map o9.Time)):=by
 simp only [F_v,a4a,if_pos g,xZ,decide_true,w6,vO]
 have h:=g.len
 rw [a6u (body:=g48) (g:=o9.Time) (b:=8) (n:=120) (by omega) (fun k x s=>rfl) a.Events 0 [] (by simpa using h)]
 simp only [xZ,a5g,wL,wW]
 rw [List.take_left']
 rfl
def tms (d:d9) (a:l5):List Int:=Go.Lib.compact (c4p (Go.Lib.compact (a.Events.map o9.Time)++d.Events.map a0f.Time))
theorem b9m {d:d9} {a:l5} {t:Int}:t∈tms d a↔(∃x∈a.Events,x.Time=t)∨∃x∈d.Events,x.Time=t:=by
 simp only [tms,c01,b1e,wN,vG]
theorem c2o (d:d9) (a:l5):(tms d a).Pairwise fun x y=>x≤y:=(a4u _).sublist (b3e _)
theorem c7t {d:d9} {a:l5} (g:a1g d) (h:Good a):f4g d a=some (tms d a):=by
 have h1:=h.len
 have h2:=g.el
 have h3:=(b3e (a.Events.map o9.Time)).length_le
 rw [wP] at h3
 simp only [f4g,c56 h,xZ]
 rw [a6u (body:=g46) (g:=a0f.Time) (b:=8) (n:=240) (by omega) (fun k x s=>rfl) d.Events 0 _ (by omega)]
 simp only [xZ,b1s,xK,wP]
 rw [if_pos (by omega)]
 simp only [xZ,a5g,wW]
 rw [List.take_left']
 ·rfl
 ·rfl
theorem b52 {c:Int} (h0:0≤c) (h1:c≤63):e08 c=some (IntKind.wrap .u64 (1*2^c.toNat)):=by
 unfold e08
 have:e2z c 64=true:=by rw [←b46];omega
 rw [o8 this]
theorem c7f {P:Int} {s:List Int} {x:o9} (h:xok P x) (hs:(s.length:Int)=P):Ok (d3m s x) fun s'=>s'.length=s.length:=by
 obtain ⟨_,_,h3,h4,h5⟩:=h
 have hp:inb x.Place s.length=true:=q9.2 ⟨h3,by omega⟩
 unfold d3m
 refine Ok.ite (fun c=>?_) fun c=>Ok.ite (fun c2=>?_) fun c2=>Ok.ite (fun c3=>?_) fun c3=>Ok.ret rfl
 ·have c:x.Kind=5:=by simpa using c
  exact Ok.chk hp (Ok.bind (P:=fun _=>True) (Ok.of (b52 (by omega) (by omega)) trivial) fun _ _=>Ok.chk hp (Ok.ret (by simp)))
 ·have c2:x.Kind=6:=by simpa using c2
  exact Ok.chk hp (Ok.bind (P:=fun _=>True) (Ok.of (b52 (by omega) (by omega)) trivial) fun _ _=>Ok.chk hp (Ok.ret (by simp)))
 ·have c3:x.Kind=7:=by simpa using c3
  have hf:inb x.From s.length=true:=q9.2 ⟨by omega,by omega⟩
  exact Ok.chk hp (Ok.chk hf (Ok.chk hp (Ok.ret (by simp))))
theorem e9y {a:l5} (g:Good a) (t:Int):Ok (F_j a t) fun s=>(s.length:Int)=a.Places:=by
 have h1:=g.lo
 have h2:=g.hi
 unfold F_j
 refine Ok.chk (a2f.2 ⟨by omega,by omega,by omega⟩) (Ok.bind (Ok.foldI (all:=a.Events) (fun _ s=>(s.length:Int)=a.Places) a.Events [] 0 _ rfl rfl (by simp;omega) (fun pre x r s hw hs=>?_) fun s hs=>hs) fun s hs=>Ok.ret hs)
 unfold f7o
 refine Ok.ite (fun _=>Ok.bind (c7f (g.ev x (by rw [hw];simp)) hs) fun y hy=>Ok.ret ?_) fun _=>Ok.ret hs
 rw [hy];exact hs
theorem c0h {a:l5} (g:Good a) {c:Int} (h0:0≤c) (h1:c≤63) (t:Int):Ok (d4y a c t) fun W=>∀x∈W,0≤x∧x≤a.Places - 1:=by
 have hc:F_u c=some true:=by simp [F_u,a5i,h0,h1]
 have h2:=g.hi
 simp only [d4y,a4a,if_pos g,xZ,decide_true,w6,vO,hc]
 refine Ok.bind (e9y g t) fun s hs=>Ok.bind (Ok.foldI (all:=s) (fun pre W=>W.length≤pre.length∧∀x∈W,0≤x∧x≤a.Places - 1) s [] 0 _ rfl rfl ⟨by simp,by simp⟩ (fun pre x r W hw hW=>?_) fun W hW=>hW.2) fun W hW=>Ok.ret hW
 unfold f6t
 have hp:pre.length<s.length:=by rw [hw];simp
 refine Ok.bind (P:=fun _=>True) (Ok.of (b52 h0 h1) trivial) fun b _=>Ok.ite (fun _=>Ok.chk (a3e (by simp;omega)) (Ok.ret ⟨by simp;omega,fun y hy=>?_⟩)) fun _=>Ok.ret ⟨by simp;omega,hW.2⟩
 simp only [wN,xI] at hy
 rcases hy with hy|rfl
 ·exact hW.2 y hy
 ·omega
def whr (a:l5) (c t:Int):List Int:=(d4y a c t).getD []
theorem b5b {a:l5} (g:Good a) {c:Int} (h0:0≤c) (h1:c≤63) (t:Int):d4y a c t=some (whr a c t):=by
 obtain ⟨W,h,_⟩:=c0h g h0 h1 t
 simp [whr,h]
theorem c4w {a:l5} (g:Good a) {c:Int} (h0:0≤c) (h1:c≤63) (t:Int):∀x∈whr a c t,0≤x∧x≤a.Places - 1:=(c0h g h0 h1 t).val (b5b g h0 h1 t)
open Classical in
def see (d:d9) (a:l5) (p t x:Int):Bool :=
 if p=-1 then (lkf x t a.Events 0 (0,false)).2 else decide (c4r d a p x t)
theorem g7i {d:d9} {a:l5} (g:a1g d) (h:Good a) (p t:Int) (xs:List Int) (hx:∀x∈xs,0≤x∧x≤a.Places - 1) (k:Int) :
  a10 (f6p d a p t) xs k ()=some (flO (a3g (fun x=>if see d a p t x then some (x,true) else none) xs)):=by
 refine a0k _ xs k fun k x hm=>?_
 simp only [f6p,a6a t (b1h h (hx x hm).1 (hx x hm).2),xZ,grp,e7p g h]
 by_cases c:p=-1
 ·simp only [c,decide_true,Bool.true_and,w6,vO,see,if_true]
  cases (lkf x t a.Events 0 (0,false)).2<;>simp [flO]
 ·simp only [c,decide_false,Bool.false_and,wY,vO,vQ,see,if_false]
  by_cases q:c4r d a p x t<;>simp [q,flO]
theorem a4q {α ρ:Type} (p:α→Bool) (f:α→ρ):∀xs:List α,a3g (fun x=>if p x then some (f x) else none) xs=(xs.find? p).map f
 | []=>rfl
 | x::r=>by
  simp only [a3g,List.find?_cons]
  cases h:p x with
  | true=>simp
  | false=>simp [a4q p f r]
def pla (d:d9) (a:l5) (c p t:Int):Option Int:=(whr a c t).find? (see d a p t)
theorem c6c {d:d9} {a:l5} (g:a1g d) (h:Good a) {c:Int} (h0:0≤c) (h1:c≤63) (p t:Int):f2s d a c p t=some (d49 (pla d a c p t)):=by
 simp only [f2s,b5b h h0 h1,xZ,g7i g h p t _ (c4w h h0 h1 t),a2t,a4q,pla]
 cases (whr a c t).find? (see d a p t)<;>rfl
def sin (d:d9) (a:l5) (c p:Int):Option Int:=(tms d a).find? fun t=>(pla d a c p t).isSome
theorem c9s {d:d9} {a:l5} (g:a1g d) (h:Good a) {c:Int} (h0:0≤c) (h1:c≤63) (p:Int):f2r d a c p=some (d49 (sin d a c p)):=by
 simp only [f2r,c7t g h,xZ]
 rw [a0k (fun t=>if (pla d a c p t).isSome then some (t,true) else none) (tms d a) 0 fun k t _=>by
  simp only [g2d,c6c g h h0 h1,xZ]
  cases pla d a c p t<;>simp [d49,flO]]
 simp only [xZ,a2t,a4q,sin]
 cases (tms d a).find? (fun t=>(pla d a c p t).isSome)<;>rfl
theorem c7w {d:d9} {a:l5} (g:a1g d) (h:Good a) {c:Int} (h0:0≤c) (h1:c≤63):d4t d a c=some 0:=by
 simp [d4t,d3k,a4s,a4a,g,h,F_u,a5i,h0,h1]
theorem b4r {T:List Int} {q:Int→Bool} (hs:T.Pairwise fun x y=>x≤y) {t:Int} (ht:t∈T) (hq:q t=true):∃t',T.find? q=some t'∧t'≤t:=by
 induction T with
 | nil=>simp at ht
 | cons x r ih =>
  rw [List.pairwise_cons] at hs
  cases hx:q x with
  | true =>
   refine ⟨x,by simp [hx],?_⟩
   rcases w4.1 ht with rfl|ht
   ·omega
   ·exact hs.1 t ht
  | false =>
   rcases w4.1 ht with rfl|ht
   ·rw [hq] at hx;cases hx
   ·obtain ⟨t',h1,h2⟩:=ih hs.2 ht
    exact ⟨t',by simp [hx,h1],h2⟩
theorem e94 {t:x8} (h:TOK t):Ok (f4i t) fun y=>a1g y.1∧1≤y.1.Kinds.length∧y.1.Kinds.length≤7∧y.1.Events.length≤11∧(∀x∈y.1.Events,x.Time≤25)∧TOK y.2:=by
 unfold f4i
 refine Ok.bind (a0b h (by omega) (by omega) (by omega)) fun y hy=>?_
 refine Ok.bind (Ok.loop (Q:=fun y:List Int×x8=>1≤y.1.length∧y.1.length≤7∧(∀k∈y.1,1≤k∧k≤3)∧TOK y.2) (fun x=>0≤x.1∧(x.2.1.length:Int)+x.1≤7∧1≤x.2.1.length∧(∀k∈x.2.1,1≤k∧k≤3)∧TOK x.2.2) (fun x=>x.1.toNat) (fun x hx=>?_) _ ?_) fun r hr=>?_
 ·obtain ⟨k,out,t⟩:=x
  obtain ⟨h1,h2,h3,h3',h4⟩:=hx
  simp only at h1 h2 h3 h3' h4
  unfold g4h
  refine Ok.ite (fun c=>?_) fun c=>?_
  ·have c:0<k:=by simpa using c
   refine Ok.bind (a5y h4 (by simp)) fun y hy=>?_
   refine Ok.chk (a04 (by simp;omega)) (Ok.chk (u6 (by simp only;omega) (by simp only;omega)) (Ok.ret ?_))
   simp only [Fl.elim]
   have hm:=hy.1
   simp only [w4,List.not_mem_nil,or_false] at hm
   refine ⟨⟨by omega,by simp;omega,by simp,fun q hq=>?_,hy.2⟩,by omega⟩
   simp only [wN,xI] at hq
   rcases hq with hq|rfl
   ·exact h3' q hq
   ·omega
  ·refine Ok.ret ?_
   simp only [Fl.elim]
   exact ⟨h3,by omega,h3',h4⟩
 ·exact ⟨by show 0≤y.1;omega,by show ((1:Nat):Int)+y.1≤7;omega,by simp,by simp,hy.2.2⟩
 ·obtain ⟨r1,r2,r2',r3⟩:=hr
  refine Ok.bind (Ok.foldI (all:=r.1) (Q:=fun x:List Int=>x.length≤7∧∀k∈x,0≤k∧k<r.1.length∧r.1.getD k.toNat default=2) (fun pre x=>x.length≤pre.length∧∀k∈x,0≤k∧k<r.1.length∧r.1.getD k.toNat default=2) r.1 [] 0 [] rfl rfl (by simp) (fun pre x q s hw hs=>?_) fun s hs=>⟨by omega,hs.2⟩) fun gs hg=>?_
  ·unfold g4c
   have hp:pre.length<r.1.length:=by rw [hw];simp
   have hx:r.1.getD pre.length default=x:=by rw [hw];simp
   refine Ok.ite (fun c=>Ok.chk (a04 (by simp;omega)) (Ok.ret ⟨by simp;omega,fun k hk=>?_⟩)) fun c=>Ok.ret ⟨by simp;omega,hs.2⟩
   simp only [wN,xI] at hk
   rcases hk with hk|rfl
   ·exact hs.2 k hk
   ·refine ⟨by omega,by omega,?_⟩
    rw [xW,hx];simpa using c
  ·have gd0:a1g ⟨r.1,[]⟩:=⟨by show r.1.length≤24;omega,by simp,r2',by simp,List.Pairwise.nil⟩
   refine Ok.ite (fun c=>Ok.ret ⟨gd0,r1,r2,by simp,by simp,r3⟩) fun c=>?_
   have c:¬(gs.length:Int)=0:=by simpa using c
   refine Ok.bind (a02 r3 (by omega)) fun y hy=>Ok.bind (c2d hy.2.2 hy.1 (by omega)) fun z hz=>?_
   obtain ⟨z1,z2,z3,z4⟩:=hz
   refine Ok.bind (Ok.foldI (all:=z.1) (Q:=fun x:List a0f×x8=>x.1.length≤z.1.length∧(∀e∈x.1,mok ⟨r.1,[]⟩ e∧e.Time∈z.1)∧x.1.Pairwise (fun a b=>a.Time≤b.Time)∧TOK x.2)
    (fun pre x=>x.1.length≤pre.length∧(∀e∈x.1,mok ⟨r.1,[]⟩ e∧e.Time∈pre)∧x.1.Pairwise (fun a b=>a.Time≤b.Time)∧TOK x.2) z.1 [] 0 _ rfl rfl ⟨by simp,by simp,List.Pairwise.nil,z4⟩ (fun pre x q s hw hs=>?_) fun s hs=>hs) fun s hs=>Ok.ret ?_
   ·unfold g2m
    obtain ⟨s1,s2,s3,s4⟩:=hs
    have hc:=z3 x (by rw [hw];simp)
    have hpre:∀e∈pre,e≤x:=fun e he=>by rw [hw,List.pairwise_append] at z2;exact z2.2.2 e he x (by simp)
    have hp:pre.length≤30:=by have:=congrArg List.length hw;simp at this;omega
    refine Ok.bind (a02 s4 (by omega)) fun a ha=>Ok.bind (a02 ha.2.2 (by omega)) fun b hb=>Ok.chk (q9.2 ⟨hb.1,hb.2.1⟩) ?_
    have hgm:gs.getD b.1.toNat default∈gs:=by
     have h1:b.1.toNat<gs.length:=by have:=hb.1;have:=hb.2.1;omega
     simp [zE,h1]
    obtain ⟨g1,g2,g3⟩:=hg.2 _ hgm
    refine Ok.jn (P:=fun j:a0f×x8=>(j.1.Kind=1∨j.1.Kind=2)∧j.1.Time=x∧j.1.Principal=a.1∧j.1.Group=gs.getD b.1.toNat default∧TOK j.2) (Ok.bind (a02 hb.2.2 (by omega)) fun d hd=>Ok.ite (fun _=>Ok.ret ⟨.inr rfl,rfl,rfl,rfl,hd.2.2⟩) fun _=>Ok.ret ⟨.inl rfl,rfl,rfl,rfl,hd.2.2⟩) fun j hj=>?_
    obtain ⟨j1,j2,j3,j4,j5⟩:=hj
    refine Ok.ite (fun c=>Ok.chk (a04 (by simp;omega)) (Ok.ret ⟨by simp;omega,fun e he=>?_,?_,j5⟩)) fun c=>Ok.ret ⟨by simp;omega,fun e he=>⟨(s2 e he).1,by simp [(s2 e he).2]⟩,s3,j5⟩
    ·have c:¬j.1.Principal=j.1.Group:=by simpa using c
     simp only [wN,xI] at he ⊢
     rcases he with he|rfl
     ·exact ⟨(s2 e he).1,.inl (s2 e he).2⟩
     ·refine ⟨⟨j1,by omega,by omega,?_,?_,c⟩,.inr j2⟩
      ·show 0≤j.1.Principal∧j.1.Principal<r.1.length
       rw [j3];exact ⟨ha.1,ha.2.1⟩
      ·show 0≤j.1.Group∧j.1.Group<r.1.length∧r.1.getD j.1.Group.toNat default=2
       rw [j4];exact ⟨g1,g2,g3⟩
    ·rw [List.pairwise_append]
     refine ⟨s3,by simp,fun e he w hw2=>?_⟩
     simp only [xI] at hw2
     subst hw2
     rw [j2];exact hpre _ (s2 e he).2
   ·obtain ⟨s1,s2,s3,s4⟩:=hs
    have ht:∀e∈s.1,e.Time≤25:=fun e he=>by have:=z3 _ (s2 e he).2;omega
    exact ⟨⟨by show r.1.length≤24;omega,by show s.1.length≤120;omega,r2',fun e he=>(s2 e he).1,s3⟩,r1,r2,by show s.1.length≤11;omega,ht,s4⟩
def b0p (d:d9) (a:l5) (c:Int):Nat→Int→List a00
 | 0,_=>[]
 | n+1,k=>(match sin d a c k with|some t=>[⟨k,t⟩]|none=>[])++b0p d a c n (k+1)
theorem b39 (d:d9) (a:l5) (c:Int):∀(n:Nat) (k:Int),b0p d a c (n+1) k=b0p d a c n k++(match sin d a c (k+n) with|some t=>[⟨k+n,t⟩]|none=>[])
 | 0,k=>by simp [b0p]
 | n+1,k=>by
  rw [b0p,b39 d a c n (k+1),b0p,List.append_assoc]
  have:k+1+(n:Int)=k+((n+1:Nat):Int):=by simp;omega
  rw [this]
theorem a6v (d:d9) (a:l5) (c:Int):∀(n:Nat) (k:Int),(b0p d a c n k).length≤n
 | 0,k=>by simp [b0p]
 | n+1,k=>by
  have:=a6v d a c n (k+1)
  simp only [b0p,xK]
  cases sin d a c k<;>simp<;>omega
theorem b5x {d:d9} {a:l5} {c:Int} {x:a00}:∀{n:Nat} {k:Int},x∈b0p d a c n k↔(k≤x.Principal∧x.Principal<k+n)∧sin d a c x.Principal=some x.Time
 | 0,k=>by simp [b0p];omega
 | n + 1,k=>by
  rw [b0p,wN,b5x (n:=n)]
  constructor
  ·rintro (h|⟨⟨h1,h2⟩,h3⟩)
   ·cases e:sin d a c k with
    | none=>rw [e] at h;simp at h
    | some t =>
     rw [e] at h
     simp only [xI] at h
     subst h
     exact ⟨⟨vN _,by simp;omega⟩,e⟩
   ·exact ⟨⟨by omega,by simp;omega⟩,h3⟩
  ·rintro ⟨⟨h1,h2⟩,h3⟩
   by_cases q:x.Principal=k
   ·left
    rw [q] at h3
    rw [h3]
    simp only [xI]
    cases x;simp only at q h3 ⊢;subst q;rfl
   ·right
    refine ⟨⟨by omega,by simp at h2;omega⟩,h3⟩
def b1b (d:d9) (a:l5) (c:Int):List a00:=b0p d a c (d.Kinds.length+1) (-1)
theorem f4l {d:d9} {a:l5} (g:a1g d) (h:Good a) {c:Int} (h0:0≤c) (h1:c≤63):F_a d a c=some (b1b d a c,0):=by
 refine Ok.eq ?_
 have hk:=g.kl
 simp only [F_a,c7w g h h0 h1,xZ,decide_true,w6,vO]
 refine Ok.bind (P:=fun r=>r=b1b d a c) (Ok.loop (fun s:Int×List a00=>∃n:Nat,n≤d.Kinds.length+1∧s.1=(n:Int) - 1∧s.2=b0p d a c n (-1)) (fun s=>((d.Kinds.length:Int) - s.1).toNat) (fun s hs=>?_) _ ⟨0,by omega,rfl,rfl⟩) fun r hr=>Ok.ret (by rw [hr])
 obtain ⟨p,l⟩:=s
 obtain ⟨n,hn,e1,e2⟩:=hs
 simp only at e1 e2
 subst e1 e2
 unfold g2c
 refine Ok.ite (fun q=>?_) fun q=>?_
 ·have q:(n:Int) - 1<d.Kinds.length:=by simpa using q
  have hl:=a6v d a c n (-1)
  refine Ok.jn (P:=fun j=>j=b0p d a c (n+1) (-1)) (Ok.bind (Ok.of (c9s g h h0 h1 _) rfl) fun y hy=>?_) fun j hj=>Ok.chk (a3y (by omega) (by omega)) (Ok.ret ⟨⟨n+1,by omega,by simp,hj⟩,?_⟩)
  ·subst hy
   rw [b39,show (-1:Int)+n=n - 1 by omega]
   cases sin d a c ((n:Int) - 1) with
   | none=>exact Ok.ret (by simp)
   | some t=>exact Ok.chk (a3e (by simp;omega)) (Ok.ret rfl)
  ·show ((d.Kinds.length:Int) - ((n:Int) - 1+1)).toNat<((d.Kinds.length:Int) - ((n:Int) - 1)).toNat
   omega
 ·have q:¬(n:Int) - 1<d.Kinds.length:=by simpa using q
  have:n=d.Kinds.length+1:=by omega
  subst this
  exact Ok.ret rfl
def tb (w:Int) (c:Nat):Bool:=(BitVec.ofInt 64 w).getLsbD c
theorem a4w (b:BitVec 64):BitVec.ofInt 64 (IntKind.wrap .u64 (b.toNat:Int))=b:=by
 apply BitVec.eq_of_toNat_eq
 have h:=b.isLt
 simp only [IntKind.wrap,IntKind.bits,IntKind.signed,BitVec.toNat_ofInt]
 simp
 omega
theorem e2q (x y:Int) (c:Nat):tb (bits .or .u64 x y) c=(tb x c||tb y c):=by
 simp only [tb,bits,a4w,IntKind.bits]
 exact BitVec.getLsbD_or
theorem c5a (x y:Int) {c:Nat} (hc:c<64):tb (bits .andNot .u64 x y) c=(tb x c&&!tb y c):=by
 simp only [tb,bits,a4w,IntKind.bits]
 have:∀a b:BitVec 64,(a &&& ~~~b).getLsbD c=(a.getLsbD c&&!b.getLsbD c):=fun a b=>by rw [BitVec.getLsbD_and,BitVec.getLsbD_not];simp [hc]
 exact this _ _
theorem e2r (x y:Int) (c:Nat):tb (bits .and .u64 x y) c=(tb x c&&tb y c):=by
 simp only [tb,bits,a4w,IntKind.bits]
 exact BitVec.getLsbD_and
def msk (c:Int):Int:=IntKind.wrap .u64 (1*2^c.toNat)
theorem d41 {c:Int} (h1:c≤63):BitVec.ofInt 64 (msk c)=BitVec.twoPow 64 c.toNat:=by
 have h:c.toNat<64:=by omega
 have hp:2^c.toNat<2^64:=Nat.pow_lt_pow_right (by omega) h
 have e:(1*2^c.toNat:Int)=((2^c.toNat:Nat):Int):=by simp
 apply BitVec.eq_of_toNat_eq
 rw [BitVec.toNat_twoPow,BitVec.toNat_ofInt]
 unfold msk
 rw [e]
 generalize 2^c.toNat=m at hp
 simp only [IntKind.wrap,IntKind.bits,IntKind.signed]
 simp
 omega
theorem c58 {c:Int} (h0:0≤c) (h1:c≤63) (i:Nat) (hi:i<64):tb (msk c) i=decide ((i:Int)=c):=by
 have h:c.toNat<64:=by omega
 simp only [tb,d41 h1,BitVec.getLsbD_twoPow]
 by_cases e:(i:Int)=c
 ·have:c.toNat=i:=by omega
  simp [e,this,hi]
 ·have:¬c.toNat=i:=by omega
  simp [e,this]
theorem d9y {c:Int} (h0:0≤c) (h1:c≤63) (x:Int):decide (bits .and .u64 x (msk c)=0)=!tb x c.toNat:=by
 have h:c.toNat<64:=by omega
 have e1:bits .and .u64 x (msk c)=((BitVec.ofInt 64 x &&& BitVec.ofInt 64 (msk c)).toNat:Int):=by
  have h2:bits .and .u64 x (msk c)=IntKind.wrap .u64 ((BitVec.ofInt 64 x &&& BitVec.ofInt 64 (msk c)).toNat:Int):=rfl
  have:=(BitVec.ofInt 64 x &&& BitVec.ofInt 64 (msk c)).isLt
  rw [h2]
  generalize (BitVec.ofInt 64 x &&& BitVec.ofInt 64 (msk c)).toNat=n at this
  simp only [IntKind.wrap,IntKind.bits,IntKind.signed]
  simp
  omega
 have e2:(bits .and .u64 x (msk c)=0)↔BitVec.ofInt 64 x &&& BitVec.ofInt 64 (msk c)=0#64:=by
  rw [e1]
  constructor
  ·intro h
   apply BitVec.eq_of_toNat_eq
   simp only [BitVec.toNat_ofNat]
   have:(BitVec.ofInt 64 x &&& BitVec.ofInt 64 (msk c)).toNat=0:=by omega
   rw [this]
  ·intro h;rw [h];rfl
 cases ht:tb x c.toNat with
 | true =>
  refine wI fun h'=>?_
  have h2:=e2.1 h'
  have h3:tb (bits .and .u64 x (msk c)) c.toNat=false:=by rw [h'];simp [tb]
  rw [e2r,ht,c58 h0 h1 _ h] at h3
  simp at h3
  omega
 | false =>
  refine wV (e2.2 ?_)
  rw [d41 h1]
  apply BitVec.eq_of_getLsbD_eq
  intro i hi
  rw [BitVec.getLsbD_and,BitVec.getLsbD_twoPow]
  by_cases q:c.toNat=i
  ·subst q
   have:(BitVec.ofInt 64 x).getLsbD c.toNat=false:=ht
   simp [this]
  ·simp [q]
def upd (s:Int→Bool) (p:Int) (b:Bool):Int→Bool:=fun i=>if i=p then b else s i
def cst (c:Int) (x:o9) (s:Int→Bool):Int→Bool :=
 if x.Kind=5 then upd s x.Place (s x.Place||decide (x.Content=c))
 else if x.Kind=6 then upd s x.Place (s x.Place&&!decide (x.Content=c))
 else if x.Kind=7 then upd s x.Place (s x.Place||s x.From)
 else s
def cfo (c t:Int) (E:List o9) (s:Int→Bool):Int→Bool:=E.foldl (fun s x=>if x.Time≤t then cst c x s else s) s
def hld (a:l5) (c t:Int):Int→Bool:=cfo c t a.Events fun _=>false
def wof (c:Int) (l:List Int) (s:Int→Bool):Prop:=∀i:Int,0≤i→i<l.length→tb (l.getD i.toNat default) c.toNat=s i
theorem b8s {c:Int} {l:List Int} {s:Int→Bool} (h:wof c l s) {p w:Int} {b:Bool} (hp:0≤p) (hl:p<l.length) (hb:tb w c.toNat=b):wof c (l.set p.toNat w) (upd s p b):=by
 intro i h0 h1
 rw [List.length_set] at h1
 simp only [upd,zE,xR]
 by_cases e:i=p
 ·subst e
  simp [show i.toNat<l.length by omega,hb]
 ·rw [if_neg (by omega),if_neg e]
  have:=h i h0 h1
  rwa [zE] at this
theorem c3u {P c:Int} {l:List Int} {s:Int→Bool} {x:o9} (h0:0≤c) (h1:c≤63) (h:xok P x) (hl:(l.length:Int)=P) (hw:wof c l s):Ok (d3m l x) fun l'=>l'.length=l.length∧wof c l' (cst c x s):=by
 obtain ⟨_,_,h3,h4,h5⟩:=h
 have hp:inb x.Place l.length=true:=q9.2 ⟨h3,by omega⟩
 have hc:c.toNat<64:=by omega
 have hP:=hw x.Place h3 (by omega)
 unfold d3m
 refine Ok.ite (fun q=>?_) fun q=>Ok.ite (fun q2=>?_) fun q2=>Ok.ite (fun q3=>?_) fun q3=>?_
 ·have q:x.Kind=5:=by simpa using q
  refine Ok.chk hp (Ok.bind (Ok.of (b52 (by omega) (by omega)) rfl) fun b hb=>Ok.chk hp (Ok.ret ⟨by simp,?_⟩))
  simp only [cst,if_pos q]
  refine b8s hw h3 (by omega) ?_
  rw [e2q,hP,←hb]
  congr 1
  rw [show IntKind.wrap .u64 (1*2^x.Content.toNat)=msk x.Content from rfl,c58 (by omega) (by omega) _ hc]
  exact decide_eq_decide.2 (by omega)
 ·have q:¬x.Kind=5:=by simpa using q
  have q2:x.Kind=6:=by simpa using q2
  refine Ok.chk hp (Ok.bind (Ok.of (b52 (by omega) (by omega)) rfl) fun b hb=>Ok.chk hp (Ok.ret ⟨by simp,?_⟩))
  simp only [cst,if_neg q,if_pos q2]
  refine b8s hw h3 (by omega) ?_
  rw [c5a _ _ hc,hP,←hb]
  congr 2
  rw [show IntKind.wrap .u64 (1*2^x.Content.toNat)=msk x.Content from rfl,c58 (by omega) (by omega) _ hc]
  exact decide_eq_decide.2 (by omega)
 ·have q:¬x.Kind=5:=by simpa using q
  have q2:¬x.Kind=6:=by simpa using q2
  have q3:x.Kind=7:=by simpa using q3
  have hf:inb x.From l.length=true:=q9.2 ⟨by omega,by omega⟩
  refine Ok.chk hp (Ok.chk hf (Ok.chk hp (Ok.ret ⟨by simp,?_⟩)))
  simp only [cst,if_neg q,if_neg q2,if_pos q3]
  refine b8s hw h3 (by omega) ?_
  rw [e2q,hP,hw x.From (by omega) (by omega)]
 ·have q:¬x.Kind=5:=by simpa using q
  have q2:¬x.Kind=6:=by simpa using q2
  have q3:¬x.Kind=7:=by simpa using q3
  simp only [cst,if_neg q,if_neg q2,if_neg q3]
  exact Ok.ret ⟨rfl,hw⟩
theorem d9b {a:l5} (g:Good a) {c:Int} (h0:0≤c) (h1:c≤63) (t:Int):Ok (F_j a t) fun l=>(l.length:Int)=a.Places∧wof c l (hld a c t):=by
 have h2:=g.lo
 have h3:=g.hi
 unfold F_j
 refine Ok.chk (a2f.2 ⟨by omega,by omega,by omega⟩) (Ok.bind (Ok.foldI (all:=a.Events) (fun pre l=>(l.length:Int)=a.Places∧wof c l (cfo c t pre fun _=>false)) a.Events [] 0 _ rfl rfl ⟨by simp;omega,fun i hi hl=>?_⟩ (fun pre x r s hw hs=>?_) fun s hs=>hs) fun s hs=>Ok.ret hs)
 ·simp only [cfo,List.foldl_nil,List.length_replicate] at hl ⊢
  rw [zE,List.getElem?_replicate,if_pos (by omega)]
  simp [tb]
 ·unfold f7o
  have hx:=g.ev x (by rw [hw];simp)
  refine Ok.ite (fun q=>Ok.bind (c3u h0 h1 hx hs.1 hs.2) fun y hy=>Ok.ret ⟨by rw [hy.1];exact hs.1,?_⟩) fun q=>Ok.ret ⟨hs.1,?_⟩
  ·have q:x.Time≤t:=by simpa using q
   simp only [cfo,List.foldl_append,wQ,List.foldl_nil,if_pos q]
   exact hy.2
  ·have q:¬x.Time≤t:=by simpa using q
   simp only [cfo,List.foldl_append,wQ,List.foldl_nil,if_neg q]
   exact hs.2
theorem e2g {a:l5} (g:Good a) {c:Int} (h0:0≤c) (h1:c≤63) (t:Int):whr a c t=((List.range a.Places.toNat).filter fun i:Nat=>hld a c t i).map fun i:Nat=>(i:Int):=by
 have hc:F_u c=some true:=by simp [F_u,a5i,h0,h1]
 have h2:=g.hi
 have h3:=g.lo
 refine Ok.val (Q:=fun W=>W=((List.range a.Places.toNat).filter fun i:Nat=>hld a c t i).map fun i:Nat=>(i:Int)) ?_ (b5b g h0 h1 t)
 simp only [d4y,a4a,if_pos g,xZ,decide_true,w6,vO,hc]
 refine Ok.bind (d9b g h0 h1 t) fun s hs=>Ok.bind (Ok.foldI (all:=s) (fun pre W=>W=((List.range pre.length).filter fun i:Nat=>hld a c t i).map fun i:Nat=>(i:Int)) s [] 0 _ rfl rfl rfl (fun pre x r W hw hW=>?_) fun W hW=>by rw [hW,show s.length=a.Places.toNat by omega]) fun W hW=>Ok.ret hW
 subst hW
 unfold f6t
 have hp:pre.length<s.length:=by rw [hw];simp
 have hx:=hs.2 (pre.length:Int) (by omega) (by omega)
 rw [xW,show s.getD pre.length default=x by rw [hw];simp] at hx
 have hlen:(((List.range pre.length).filter fun i:Nat=>hld a c t i).map fun i:Nat=>(i:Int)).length≤pre.length:=by
  rw [wP];exact vD (List.length_filter_le _ _) (by simp)
 refine Ok.bind (Ok.of (b52 h0 h1) rfl) fun b hb=>?_
 rw [←hb,show IntKind.wrap .u64 (1*2^c.toNat)=msk c from rfl,d9y h0 h1,hx,Bool.not_not]
 simp only [xK,zV,List.range_succ,List.filter_append,List.map_append]
 cases q:hld a c t (pre.length:Int) with
 | false=>simp only [vO];exact Ok.ret (by simp [q])
 | true =>
  simp only [vQ]
  exact Ok.chk (a3e (by simp only [wP] at hlen ⊢;omega)) (Ok.ret (by simp [q]))
def lvl (s:Int):Int:=(if 1≤s then 1 else 0)+(if 100≤s then 1 else 0)+(if 1000≤s then 1 else 0)+(if 10000≤s then 1 else 0)
theorem c1n (s:Int):f4j s=some (lvl s):=by
 have h0:a0p 1=true:=u6 (by omega) (by omega)
 have h1:a0p 2=true:=u6 (by omega) (by omega)
 have h2:a0p 3=true:=u6 (by omega) (by omega)
 have h3:a0p 4=true:=u6 (by omega) (by omega)
 unfold lvl
 simp only [f4j,a0d,g4e]
 by_cases c1:1≤s
 ·by_cases c2:100≤s
  ·by_cases c3:1000≤s
   ·by_cases c4:10000≤s
    ·simp [c1,c2,c3,c4,chk,h0,h1,h2,h3]
    ·simp [c1,c2,c3,c4,chk,h0,h1,h2,h3]
   ·have c4:¬10000≤s:=by omega
    simp [c1,c2,c3,c4,chk,h0,h1,h2,h3]
  ·have c3:¬1000≤s:=by omega
   have c4:¬10000≤s:=by omega
   simp [c1,c2,c3,c4,chk,h0,h1,h2,h3]
 ·have c2:¬100≤s:=by omega
  have c3:¬1000≤s:=by omega
  have c4:¬10000≤s:=by omega
  simp [c1,c2,c3,c4]
theorem e7q (a:Int):0≤lvl a∧lvl a≤4:=by
 unfold lvl
 repeat' split
 all_goals omega
theorem b5a (l:List p8) (hl:l.length≤100):Ok (e0d l) fun r=>r.2=decide (0<(l.length:Int))∧(0<l.length→0≤r.1∧r.1<l.length∧(∀i:Nat,i<l.length→(l.getD i default).Score≤(l.getD r.1.toNat default).Score)∧∀i:Nat,(i:Int)<r.1→(l.getD i default).Score<(l.getD r.1.toNat default).Score):=by
 unfold e0d
 refine Ok.bind (Ok.foldI (all:=l) (Q:=fun b:Int=>0<l.length→0≤b∧b<l.length∧(∀i:Nat,i<l.length→(l.getD i default).Score≤(l.getD b.toNat default).Score)∧∀i:Nat,(i:Int)<b→(l.getD i default).Score<(l.getD b.toNat default).Score)
  (fun pre (b:Int)=>0≤b∧(b<pre.length∨pre=[]∧b=0)∧(∀i:Nat,i<pre.length→(l.getD i default).Score≤(l.getD b.toNat default).Score)∧∀i:Nat,(i:Int)<b→(l.getD i default).Score<(l.getD b.toNat default).Score) l [] 0 0 rfl rfl ⟨by omega,.inr ⟨rfl,rfl⟩,by simp,fun i hi=>by omega⟩ (fun pre x r s hw hs=>?_) fun s hs hp=>?_) fun b hb=>Ok.ret ⟨rfl,hb⟩
 ·obtain ⟨h1,h2,h3,h4⟩:=hs
  have hlen:pre.length<l.length:=by have:=congrArg List.length hw;simp at this;omega
  have hx:l.getD pre.length default=x:=by rw [hw];simp
  have hsl:s<l.length:=by
   rcases h2 with h2|⟨h2,h5⟩
   ·omega
   ·omega
  unfold g2x
  refine Ok.chk (q9.2 ⟨h1,hsl⟩) (Ok.ite (fun c=>Ok.ret ?_) fun c=>Ok.ret ?_)
  ·have c:(l.getD s.toNat default).Score<x.Score:=by simpa using c
   refine ⟨by omega,.inl (by simp;omega),fun i hi=>?_,fun i hi=>?_⟩
   ·simp only [xK,zV] at hi
    simp only [xW,hx]
    by_cases e:i=pre.length
    ·rw [e,hx];exact vN _
    ·have:=h3 i (by omega);omega
   ·simp only [xW,hx]
    have:=h3 i (by omega);omega
  ·have c:¬(l.getD s.toNat default).Score<x.Score:=by simpa using c
   refine ⟨h1,.inl ?_,fun i hi=>?_,h4⟩
   ·simp only [xK,zV]
    rcases h2 with h2|⟨h2,h5⟩
    ·omega
    ·omega
   ·simp only [xK,zV] at hi
    by_cases e:i=pre.length
    ·rw [e,hx];omega
    ·exact h3 i (by omega)
 ·obtain ⟨h1,h2,h3,h4⟩:=hs
  refine ⟨h1,?_,h3,h4⟩
  rcases h2 with h2|⟨h2,h5⟩
  ·exact h2
  ·rw [h2] at hp;simp at hp
def gOK (x:l7) (g:a03):Prop:=(0≤g.Credential∧g.Credential≤x.Credentials - 1)∧(0≤g.Resource∧g.Resource≤x.Resources - 1)∧1≤g.Right∧g.Right≤3
def sOK (x:l7) (s:a08):Prop:=(0≤s.Credential∧s.Credential≤x.Credentials - 1)∧0≤s.Resource∧s.Resource≤x.Resources - 1
def mOK (x:l7) (m:a0n):Prop:=(0≤m.From∧m.From≤x.Credentials - 1)∧0≤m.To∧m.To≤x.Credentials - 1
structure a14 (x:l7):Prop where
 c0:0≤x.Credentials
 c1:x.Credentials≤24
 r0:0≤x.Resources
 r1:x.Resources≤24
 gl:x.Grants.length≤100
 sl:x.Stores.length≤100
 ml:x.Mints.length≤100
 gr:∀g∈x.Grants,gOK x g
 st:∀s∈x.Stores,sOK x s
 mi:∀m∈x.Mints,mOK x m
theorem a3n (n lo hi:Int):F_o n lo hi=some (decide (lo≤n∧n≤hi)):=by simp [F_o,grp]
theorem b3c (x:l7) (c:Int) (h1:0≤x.Credentials) (h2:x.Credentials≤24):F_y x c=some (decide (0≤c∧c≤x.Credentials - 1)):=by
 simp [F_y,a3n,o8 (u6 (n:=x.Credentials - 1) (by omega) (by omega))]
theorem d3z (x:l7) (r:Int) (h1:0≤x.Resources) (h2:x.Resources≤24):e1l x r=some (decide (0≤r∧r≤x.Resources - 1)):=by
 simp [e1l,a3n,o8 (u6 (n:=x.Resources - 1) (by omega) (by omega))]
theorem c26 {α:Type} {body:Int→α→Unit→Option (Fl Unit Int)} (p:α→Prop) [DecidablePred p] (h:∀k x,body k x ()=some (if p x then .ex k else .nx ())):∀(xs:List α) (k:Int),0≤k →
  ∃o,a10 body xs k ()=some o∧((∃x∈xs,p x)→∃r,o=.ex r∧0≤r)∧((∀x∈xs,¬p x)→o=.nx ())
 | [],k,hk=>⟨.nx (),rfl,fun ⟨x,hx,_⟩=>by simp at hx,fun _=>rfl⟩
 | x::r,k,hk=>by
  simp only [a10,h]
  by_cases c:p x
  ·simp only [if_pos c,xZ,a1p]
   exact ⟨_,rfl,fun _=>⟨k,rfl,hk⟩,fun hn=>absurd c (hn x (by simp))⟩
  ·simp only [if_neg c,xZ,a1t]
   obtain ⟨o,h1,h2,h3⟩:=c26 p h r (k+1) (by omega)
   refine ⟨o,h1,fun ⟨y,hy,hp⟩=>?_,fun hn=>h3 fun y hy=>hn y (by simp [hy])⟩
   rcases w4.1 hy with rfl|hy
   ·exact absurd hp c
   ·exact h2 ⟨y,hy,hp⟩
theorem a2a {α:Type} {body:Int→α→Unit→Option (Fl Unit Int)} (p:α→Prop) [DecidablePred p] (xs:List α) [Decidable (∃x∈xs,p x)] (h:∀k x,body k x ()=some (if p x then .ex k else .nx ())) :
  (((a10 body xs 0 ()).bind fun o=>o.elim (fun _=>some (-1)) fun r=>some r).bind fun y=>some (decide (0≤y)))=some (decide (∃x∈xs,p x)):=by
 obtain ⟨o,h1,h2,h3⟩:=c26 p h xs 0 (vN 0)
 rw [h1]
 by_cases c:∃x∈xs,p x
 ·obtain ⟨r,rfl,hr⟩:=h2 c
  simp only [xZ,a1p,wV hr,wV c]
 ·have:=h3 fun x hx hp=>c ⟨x,hx,hp⟩
  subst this
  simp only [xZ,a1t,wI c]
  rfl
open Classical in
theorem a5w (x:l7):d4x x=some (if a14 x then 0 else 32):=by
 simp only [d4x,a3n,xZ,grp]
 by_cases h1:0≤x.Credentials∧x.Credentials≤24
 ·by_cases h2:0≤x.Resources∧x.Resources≤24
  ·by_cases h3:x.Grants.length≤100∧x.Stores.length≤100∧x.Mints.length≤100
   ·have e3:(decide (100<(x.Grants.length:Int))||decide (100<(x.Stores.length:Int))||decide (100<(x.Mints.length:Int)))=false:=by
     simp only [xE,zK];omega
    have g1:f6e x.Grants x=some (decide (∃g∈x.Grants,¬gOK x g)):=by
     refine a2a (fun g=>¬gOK x g) x.Grants fun k g=>?_
     simp only [g39,f6f,b3c x _ h1.1 h1.2,d3z x _ h2.1 h2.2,a3n,xZ,jn]
     unfold gOK
     by_cases c1:0≤g.Credential∧g.Credential≤x.Credentials - 1<;>by_cases c2:0≤g.Resource∧g.Resource≤x.Resources - 1<;>by_cases c3:1≤g.Right∧g.Right≤3<;>simp only [c1,c2,c3,decide_true,decide_false,w6,wY,vQ,vO,xZ,and_self,and_true,true_and,and_false,false_and,not_true_eq_false,not_false_eq_true,if_true,if_false]
    have g2:f6c x.Stores x=some (decide (∃g∈x.Stores,¬sOK x g)):=by
     refine a2a (fun g=>¬sOK x g) x.Stores fun k g=>?_
     simp only [g38,f6d,b3c x _ h1.1 h1.2,d3z x _ h2.1 h2.2,a3n,xZ,jn]
     unfold sOK
     by_cases c1:0≤g.Credential∧g.Credential≤x.Credentials - 1<;>by_cases c2:0≤g.Resource∧g.Resource≤x.Resources - 1<;>simp only [c1,c2,decide_true,decide_false,w6,wY,vQ,vO,xZ,and_self,and_true,true_and,and_false,false_and,not_true_eq_false,not_false_eq_true,if_true,if_false]
    have g3:f6a x.Mints x=some (decide (∃g∈x.Mints,¬mOK x g)):=by
     refine a2a (fun g=>¬mOK x g) x.Mints fun k g=>?_
     simp only [g37,f6b,b3c x _ h1.1 h1.2,xZ,jn]
     unfold mOK
     by_cases c1:0≤g.From∧g.From≤x.Credentials - 1<;>by_cases c2:0≤g.To∧g.To≤x.Credentials - 1<;>simp only [c1,c2,decide_true,decide_false,w6,wY,vQ,vO,xZ,and_self,and_true,true_and,and_false,false_and,not_true_eq_false,not_false_eq_true,if_true,if_false]
    simp only [h1,h2,decide_true,w6,vO,e3,g1,g2,g3,xZ,and_self]
    by_cases q1:∃g∈x.Grants,¬gOK x g
    ·have:¬a14 x:=fun h=>by obtain ⟨g,hg,hn⟩:=q1;exact hn (h.gr g hg)
     simp only [wV q1,vQ,if_neg this]
    ·by_cases q2:∃g∈x.Stores,¬sOK x g
     ·have:¬a14 x:=fun h=>by obtain ⟨g,hg,hn⟩:=q2;exact hn (h.st g hg)
      simp only [wI q1,wV q2,vQ,vO,if_neg this]
     ·by_cases q3:∃g∈x.Mints,¬mOK x g
      ·have:¬a14 x:=fun h=>by obtain ⟨g,hg,hn⟩:=q3;exact hn (h.mi g hg)
       simp only [wI q1,wI q2,wV q3,vQ,vO,if_neg this]
      ·have:a14 x:=⟨h1.1,h1.2,h2.1,h2.2,h3.1,h3.2.1,h3.2.2,fun g hg=>Classical.byContradiction fun hn=>q1 ⟨g,hg,hn⟩,fun g hg=>Classical.byContradiction fun hn=>q2 ⟨g,hg,hn⟩,fun g hg=>Classical.byContradiction fun hn=>q3 ⟨g,hg,hn⟩⟩
       simp only [wI q1,wI q2,wI q3,vO,if_pos this]
   ·have e3:(decide (100<(x.Grants.length:Int))||decide (100<(x.Stores.length:Int))||decide (100<(x.Mints.length:Int)))=true:=by
     simp only [wT,xO];omega
    have:¬a14 x:=fun h=>h3 ⟨h.gl,h.sl,h.ml⟩
    simp only [h1,h2,decide_true,w6,vO,e3,vQ,if_neg this,and_self]
  ·have:¬a14 x:=fun h=>h2 ⟨h.r0,h.r1⟩
   simp only [h1,h2,decide_true,decide_false,w6,wY,vO,vQ,if_neg this,and_self]
 ·have:¬a14 x:=fun h=>h1 ⟨h.c0,h.c1⟩
  simp only [h1,decide_false,wY,vQ,if_neg this]
def leads (x:l7) (a b:Int):Prop:=(∃m∈x.Mints,m.From=a∧m.To=b)∨∃g∈x.Grants,∃s∈x.Stores,g.Credential=a∧s.Resource=g.Resource∧s.Credential=b
def a4x (x:l7) (c:Int) (l:a0u) (b:Int):Prop:=e0e x c l=some (b,true)∧leads x c b
theorem b9v {x:l7} (g:a14 x) {k:Nat} (hk:k<x.Mints.length) {c:Int} (hf:(x.Mints.getD k default).From=c):a4x x c (a0u.mk 2 (-1) (-1) k) (x.Mints.getD k default).To:=by
 have hm:=g.ml
 have i1:a0p ((x.Mints.length:Int) - 1)=true:=u6 (by omega) (by omega)
 have i2:inb (k:Int) x.Mints.length=true:=q9.2 ⟨by omega,by omega⟩
 have i3:decide (0≤(k:Int)∧(k:Int)≤(x.Mints.length:Int) - 1)=true:=wV (by omega)
 have e:x.Mints.getD k default=x.Mints[k]:=by rw [zE,zJ hk];rfl
 refine ⟨?_,.inl ⟨_,by rw [e];exact wD hk,hf,rfl⟩⟩
 simp only [e0e,decide_true,w8,grp,vQ,o8 i1,a3n,i3,xZ,jn,o8 i2,xW,hf]
theorem b7i {x:l7} (g:a14 x) {i k:Nat} (hi:i<x.Grants.length) (hk:k<x.Stores.length) {c:Int} (hf:(x.Grants.getD i default).Credential=c) (hr:(x.Stores.getD k default).Resource=(x.Grants.getD i default).Resource) :
  a4x x c (a0u.mk 1 i k (-1)) (x.Stores.getD k default).Credential:=by
 have hm:=g.gl
 have hm2:=g.sl
 have i1:a0p ((x.Grants.length:Int) - 1)=true:=u6 (by omega) (by omega)
 have j1:a0p ((x.Stores.length:Int) - 1)=true:=u6 (by omega) (by omega)
 have i2:inb (i:Int) x.Grants.length=true:=q9.2 ⟨by omega,by omega⟩
 have j2:inb (k:Int) x.Stores.length=true:=q9.2 ⟨by omega,by omega⟩
 have i3:decide (0≤(i:Int)∧(i:Int)≤(x.Grants.length:Int) - 1)=true:=wV (by omega)
 have j3:decide (0≤(k:Int)∧(k:Int)≤(x.Stores.length:Int) - 1)=true:=wV (by omega)
 have e1:x.Grants.getD i default=x.Grants[i]:=by rw [zE,zJ hi];rfl
 have e2:x.Stores.getD k default=x.Stores[k]:=by rw [zE,zJ hk];rfl
 refine ⟨?_,.inr ⟨_,by rw [e1];exact wD hi,_,by rw [e2];exact wD hk,hf,hr,rfl⟩⟩
 have n1:decide ((1:Int)=2)=false:=rfl
 simp only [e0e,n1,Bool.false_and,grp,jn,vO,xZ,decide_true,vQ,o8 i1,o8 j1,a3n,i3,j3,o8 i2,o8 j2,xW,hf,hr]
theorem c1m {x:l7} (g:a14 x) (c:Int):Ok (F_z x c) fun ls=>ls.length≤10100∧(∀l∈ls,∃b,a4x x c l b)∧∀b,leads x c b→∃l∈ls,a4x x c l b:=by
 have hm:=g.ml;have hg:=g.gl;have hs:=g.sl
 unfold F_z
 refine Ok.bind (Ok.foldI (all:=x.Mints) (Q:=fun ls=>ls.length≤100∧(∀l∈ls,∃b,a4x x c l b)∧∀m∈x.Mints,m.From=c→∃l∈ls,a4x x c l m.To)
  (fun pre ls=>ls.length≤pre.length∧(∀l∈ls,∃b,a4x x c l b)∧∀m∈pre,m.From=c→∃l∈ls,a4x x c l m.To) x.Mints [] 0 [] rfl rfl ⟨by simp,by simp,by simp⟩ (fun pre m r s hw hs=>?_) fun s hs=>⟨by omega,hs.2⟩) fun ls1 h1=>?_
 ·obtain ⟨s1,s2,s3⟩:=hs
  have hlen:pre.length<x.Mints.length:=by have:=congrArg List.length hw;simp at this;omega
  have hx:x.Mints.getD pre.length default=m:=by rw [hw];simp
  unfold g4f
  refine Ok.ite (fun cc=>?_) fun cc=>Ok.ret ⟨by simp;omega,s2,fun m' hm' hf=>?_⟩
  ·have cc:m.From=c:=by simpa using cc
   have hl:=b9v g hlen (c:=c) (by rw [hx];exact cc)
   rw [hx] at hl
   refine Ok.chk (a04 (by simp;omega)) (Ok.ret ⟨by simp;omega,fun l hl'=>?_,fun m' hm' hf=>?_⟩)
   ·simp only [wN,xI] at hl'
    rcases hl' with hl'|rfl
    ·exact s2 l hl'
    ·exact ⟨_,hl⟩
   ·simp only [wN,xI] at hm'
    rcases hm' with hm'|rfl
    ·obtain ⟨l,q1,q2⟩:=s3 m' hm' hf
     exact ⟨l,by simp [q1],q2⟩
    ·exact ⟨_,by simp,hl⟩
  ·simp only [wN,xI] at hm'
   rcases hm' with hm'|rfl
   ·exact s3 m' hm' hf
   ·simp [hf] at cc
 ·obtain ⟨a1,a2,a3⟩:=h1
  refine Ok.bind (Ok.foldI (all:=x.Grants) (Q:=fun ls=>ls.length≤10100∧(∀l∈ls,∃b,a4x x c l b)∧(∀l∈ls1,l∈ls)∧∀y∈x.Grants,∀z∈x.Stores,y.Credential=c→z.Resource=y.Resource→∃l∈ls,a4x x c l z.Credential)
   (fun pre ls=>ls.length≤100+pre.length*100∧(∀l∈ls,∃b,a4x x c l b)∧(∀l∈ls1,l∈ls)∧∀y∈pre,∀z∈x.Stores,y.Credential=c→z.Resource=y.Resource→∃l∈ls,a4x x c l z.Credential) x.Grants [] 0 ls1 rfl rfl ⟨by simp;omega,a2,fun _ h=>h,by simp⟩ (fun pre y r s hw hs=>?_) fun s hs=>⟨by omega,hs.2⟩) fun ls h=>Ok.ret ⟨h.1,h.2.1,fun b hb=>?_⟩
  ·obtain ⟨s1,s2,s3,s4⟩:=hs
   have hlen:pre.length<x.Grants.length:=by have:=congrArg List.length hw;simp at this;omega
   have hx:x.Grants.getD pre.length default=y:=by rw [hw];simp
   unfold g34
   refine Ok.bind (Ok.foldI (all:=x.Stores) (Q:=fun ls=>ls.length≤s.length+100∧(∀l∈ls,∃b,a4x x c l b)∧(∀l∈s,l∈ls)∧∀z∈x.Stores,y.Credential=c→z.Resource=y.Resource→∃l∈ls,a4x x c l z.Credential)
    (fun pre2 ls=>ls.length≤s.length+pre2.length∧(∀l∈ls,∃b,a4x x c l b)∧(∀l∈s,l∈ls)∧∀z∈pre2,y.Credential=c→z.Resource=y.Resource→∃l∈ls,a4x x c l z.Credential) x.Stores [] 0 s rfl rfl ⟨by simp,s2,fun _ h=>h,by simp⟩ (fun pre2 z r2 s' hw2 hs2=>?_) fun s' hs'=>⟨by omega,hs'.2⟩) fun ls2 h2=>Ok.ret ?_
   ·obtain ⟨t1,t2,t3,t4⟩:=hs2
    have hlen2:pre2.length<x.Stores.length:=by have:=congrArg List.length hw2;simp at this;omega
    have hz:x.Stores.getD pre2.length default=z:=by rw [hw2];simp
    unfold g3w
    refine Ok.grp (Ok.ite (fun cc=>?_) fun cc=>Ok.ret ⟨by simp;omega,t2,t3,fun z' hz' hf hr=>?_⟩)
    ·simp only [wG,xO] at cc
     have hl:=b7i g hlen hlen2 (c:=c) (by rw [hx];exact cc.1) (by rw [hx,hz];exact cc.2)
     rw [hz] at hl
     refine Ok.chk (a04 (by simp;omega)) (Ok.ret ⟨by simp;omega,fun l hl'=>?_,fun l hl'=>by simp [t3 l hl'],fun z' hz' hf hr=>?_⟩)
     ·simp only [wN,xI] at hl'
      rcases hl' with hl'|rfl
      ·exact t2 l hl'
      ·exact ⟨_,hl⟩
     ·simp only [wN,xI] at hz'
      rcases hz' with hz'|rfl
      ·obtain ⟨l,q1,q2⟩:=t4 z' hz' hf hr
       exact ⟨l,by simp [q1],q2⟩
      ·exact ⟨_,by simp,hl⟩
    ·simp only [wN,xI] at hz'
     rcases hz' with hz'|rfl
     ·exact t4 z' hz' hf hr
     ·simp [hf,hr] at cc
   ·obtain ⟨b1,b2,b3,b4⟩:=h2
    refine ⟨?_,b2,fun l hl=>b3 l (s3 l hl),fun y' hy' z hz hf hr=>?_⟩
    ·simp only [xK,zV];omega
    ·simp only [wN,xI] at hy'
     rcases hy' with hy'|rfl
     ·obtain ⟨l,q1,q2⟩:=s4 y' hy' z hz hf hr
      exact ⟨l,b3 l q1,q2⟩
     ·exact b4 z hz hf hr
  ·obtain ⟨h1,h2,h3,h4⟩:=h
   rcases hb with ⟨m,hm',hf,rfl⟩|⟨y,hy,z,hz,hf,hr,rfl⟩
   ·obtain ⟨l,q1,q2⟩:=a3 m hm' hf
    exact ⟨l,h3 l q1,q2⟩
   ·exact h4 y hy z hz hf hr
theorem b8f {β:Type} {q:Int}:∀{m:List (Int×β)},q∉m.map Prod.fst→a5o q m=none
 | [],h=>rfl
 | (a,b)::r,h=>by
  simp only [w5,w4,not_or] at h
  simp only [a5o,if_neg h.1,b8f h.2]
theorem b6f {β:Type} {q:Int}:∀{m:List (Int×β)},q∈m.map Prod.fst→∃v,a5o q m=some v∧(q,v)∈m
 | (a,b)::r,h=>by
  by_cases e:q=a
  ·exact ⟨b,by simp [a5o,e],by simp [e]⟩
  ·have:q∈r.map Prod.fst:=by simpa [e] using h
   obtain ⟨v,hv,hm⟩:=b6f this
   exact ⟨v,by simp [a5o,e,hv],by simp [hm]⟩
theorem a9a {β:Type} {k:Int} {v:β}:∀{m:List (Int×β)},k∉m.map Prod.fst→a7q k v m=m++[(k,v)]
 | [],h=>rfl
 | (a,b)::r,h=>by
  simp only [w5,w4,not_or] at h
  simp only [a7q,if_neg h.1,a9a h.2,wE]
def c2s (l:List Int):List Int:=l.mergeSort fun x y=>decide (x≤y)
theorem a6m (l:List Int):(c2s l).Perm l:=List.mergeSort_perm _ _
theorem a5r (l:List Int):(c2s l).Pairwise (fun x y=>x≤y):=by
 have:=List.pairwise_mergeSort (le:=fun x y:Int=>decide (x≤y)) (fun a b c h1 h2=>by simp at *;omega) (fun a b=>by simp;omega) l
 exact this.imp fun h=>by simpa using h
theorem b8x {l m:List Int} (h:l.Perm m):c2s l=c2s m :=
 ((a6m l).trans (h.trans (a6m m).symm)).eq_of_pairwise (fun a b _ _ h1 h2=>by omega) (a5r l) (a5r m)
theorem b2i:∀{l m:List Int},l.Nodup→(∀a∈l,a∈m)→l.length≤m.length
 | [],m,_,_=>by simp
 | x::r,m,hn,hs=>by
  rw [List.nodup_cons] at hn
  have hx:=hs x (by simp)
  have:r.length≤(m.erase x).length:=b2i hn.2 fun a ha=>(List.mem_erase_of_ne fun e=>hn.1 (by rw [←e];exact ha)).2 (hs a (by simp [ha]))
  rw [List.length_erase_of_mem hx] at this
  have:0<m.length:=List.length_pos_of_mem hx
  simp;omega
theorem e7x {l:List Int} (hn:l.Nodup) (h:∀a∈l,0≤a∧a≤23):l.length≤24:=by
 have:=b2i (m:=(List.range 24).map fun i:Nat=>(i:Int)) hn fun a ha=>by
  have:=h a ha
  simp only [vG,List.mem_range]
  exact ⟨a.toNat,by omega,by omega⟩
 simpa using this
theorem b2x {α β:Type} {body:Int→α→List β→Option (List β)} (g:α→β) (b:Nat) (n:Nat) (hn:n*b≤140737488355328) (h:∀k x s,body k x s=chk (room (s.length+[g x].length) b) (some (s++[g x]))) :
  ∀(xs:List α) (k:Int) (s:List β),s.length+xs.length≤n→a0d body xs k s=some (s++xs.map g)
 | [],k,s,hl=>by simp [a0d]
 | x::r,k,s,hl=>by
  have:room (s.length+[g x].length) b=true:=a6o.2 (by
   simp at hl ⊢
   exact vD (zZ b (by omega)) hn)
  simp only [a0d,h,o8 this,xZ]
  rw [b2x g b n hn h r (k+1) _ (by simp at hl ⊢;omega)]
  simp
inductive Rch (x:l7) (c:Int):Int→Prop
 | refl:Rch x c c
 | step {a b:Int} (h:Rch x c a) (hl:leads x a b):Rch x c b
theorem b2j {x:l7} (g:a14 x) {a b:Int} (h:leads x a b):0≤b∧b≤x.Credentials - 1:=by
 rcases h with ⟨m,hm,_,rfl⟩|⟨_,_,s,hs,_,_,rfl⟩
 ·exact (g.mi m hm).2
 ·exact (g.st s hs).1
theorem a5x {x:l7} (g:a14 x) {c k:Int} (hc:0≤c∧c≤x.Credentials - 1) (h:Rch x c k):0≤k∧k≤x.Credentials - 1:=by
 cases h with
 | refl=>exact hc
 | step h hl=>exact b2j g hl
theorem d2s {s:List a0u} (h:s.length≤1000):f1u s=some s:=by
 have h1:room (([]:List a0u).length+s.length) 32=true:=a04 (by simp;omega)
 unfold f1u
 rw [f0p]
 ·rw [o8 h1];rfl
 ·intro he
  rw [o8 h1]
  have:s=[]:=by simpa using he
  subst this;rfl
inductive Walk (x:l7) (c:Int):List a0u→Int→Prop
 | nil:Walk x c [] c
 | snoc {ch:List a0u} {a b:Int} {l:a0u} (h:Walk x c ch a) (hl:a4x x a l b):Walk x c (ch++[l]) b
structure Inv (x:l7) (c:Int) (q:List Int) (o:List (Int×List a0u)):Prop where
 nd:(o.map Prod.fst).Nodup
 rc:∀k∈o.map Prod.fst,Rch x c k
 st:c∈o.map Prod.fst
 qn:q.Nodup
 qs:∀k∈q,k∈o.map Prod.fst
 cl:∀a∈o.map Prod.fst,a∉q→∀b,leads x a b→b∈o.map Prod.fst
 ln:∀p∈o,p.2.length≤o.length
 wk:∀p∈o,Walk x c p.2 p.1
theorem Inv.len {x:l7} (g:a14 x) {c:Int} (hc:0≤c∧c≤x.Credentials - 1) {q:List Int} {o:List (Int×List a0u)} (h:Inv x c q o):o.length≤24:=by
 have:=e7x h.nd fun a ha=>by have:=a5x g hc (h.rc a ha);have:=g.c1;omega
 simpa using this
theorem c8d {x:l7} (g:a14 x) {c:Int} (hc:0≤c∧c≤x.Credentials - 1):Ok (f3t x c) fun o=>(o.map Prod.fst).Nodup∧o.length≤24∧(∀k,k∈o.map Prod.fst↔Rch x c k)∧∀p∈o,p.2.length≤24∧Walk x c p.2 p.1:=by
 unfold f3t
 refine Ok.bind (Ok.loop (Q:=fun o:List (Int×List a0u)=>(o.map Prod.fst).Nodup∧o.length≤24∧(∀k,k∈o.map Prod.fst↔Rch x c k)∧∀p∈o,p.2.length≤24∧Walk x c p.2 p.1) (fun s=>Inv x c s.1 s.2) (fun s=>2*(24 - s.2.length)+s.1.length) (fun s hs=>?_) _ ?_) fun r hr=>Ok.ret hr
 ·obtain ⟨q,o⟩:=s
  simp only at hs
  unfold g33
  refine Ok.ite (fun cq=>?_) fun cq=>?_
  ·have cq:0<(q.length:Int):=by simpa using cq
   obtain ⟨q0,rest,rfl⟩:∃a r,q=a::r:=by
    cases q with
    | nil=>simp at cq
    | cons a r=>exact ⟨a,r,rfl⟩
   refine Ok.chk (q9.2 ⟨by omega,cq⟩) ?_
   have e0:(q0::rest).getD 0 default=q0:=rfl
   simp only [e0]
   refine Ok.bind (c1m g q0) fun ls hls=>?_
   obtain ⟨l1,l2,l3⟩:=hls
   refine Ok.bind (Ok.foldI (all:=ls) (Q:=fun s:List Int×List (Int×List a0u)=>(∃news,s.1=q0::(rest++news))∧Inv x c s.1 s.2∧2*(24 - s.2.length)+s.1.length≤2*(24 - o.length)+(q0::rest).length∧∀l∈ls,∀b,a4x x q0 l b→b∈s.2.map Prod.fst)
    (fun pre s=>(∃news,s.1=q0::(rest++news))∧Inv x c s.1 s.2∧2*(24 - s.2.length)+s.1.length≤2*(24 - o.length)+(q0::rest).length∧∀l∈pre,∀b,a4x x q0 l b→b∈s.2.map Prod.fst) ls [] 0 _ rfl rfl ⟨⟨[],by simp⟩,hs,vL _,by simp⟩ (fun pre l r s hw hs=>?_) fun s hs=>hs) fun s hs=>?_
   ·obtain ⟨q',o'⟩:=s
    obtain ⟨⟨news,hq'⟩,hi,hm,hp⟩:=hs
    simp only at hq' hi hm hp
    subst hq'
    obtain ⟨b,hb,hlb⟩:=l2 l (by rw [hw];simp)
    have hlen:=hi.len g hc
    have hq0:=hi.qs q0 (by simp)
    unfold g3v
    have e1:(q0::(rest++news)).getD 0 default=q0:=rfl
    have i0:inb 0 (q0::(rest++news)).length=true:=q9.2 ⟨by omega,by simp;omega⟩
    simp only [e1,hb,xZ,o8 i0]
    by_cases hbk:b∈o'.map Prod.fst
    ·obtain ⟨v,hv,_⟩:=b6f hbk
     simp only [hv,Option.isSome_some,w6,vO]
     refine Ok.ret ⟨⟨news,rfl⟩,hi,hm,fun l' hl' b' hb'=>?_⟩
     simp only [wN,xI] at hl'
     rcases hl' with hl'|rfl
     ·exact hp l' hl' b' hb'
     ·rw [hb'.1] at hb;cases hb;exact hbk
    ·simp only [b8f hbk,Option.isSome_none,wY,vQ]
     obtain ⟨ch,hch,hchm⟩:=b6f hq0
     have hchl:=hi.ln _ hchm
     simp only at hchl
     simp only [hch,xY,d2s (show ch.length≤1000 by omega),xZ]
     have hql:(q0::(rest++news)).length≤o'.length:=by
      have:=b2i hi.qn hi.qs
      simpa using this
     refine Ok.chk (a04 (by simp;omega)) (Ok.chk (a04 (by simp at hql ⊢;omega)) (Ok.ret ?_))
     have hkeys:(a7q b (ch++[l]) o').map Prod.fst=o'.map Prod.fst++[b]:=by rw [a9a hbk];simp
     have hol:(a7q b (ch++[l]) o').length=o'.length+1:=by rw [a9a hbk];simp
     have hbq:b∉q0::(rest++news):=fun h=>hbk (hi.qs b h)
     have hrb:Rch x c b:=.step (hi.rc q0 hq0) hlb
     have hnew:Inv x c (q0::(rest++news)++[b]) (a7q b (ch++[l]) o'):=by
      refine ⟨?_,?_,?_,?_,?_,?_,?_,?_⟩
      ·rw [hkeys,List.nodup_append]
       exact ⟨hi.nd,by simp,fun a ha z hz e=>by simp at hz;subst hz;subst e;exact hbk ha⟩
      ·intro k hk
       rw [hkeys] at hk
       simp only [wN,xI] at hk
       rcases hk with hk|rfl
       ·exact hi.rc k hk
       ·exact hrb
      ·rw [hkeys];simp [hi.st]
      ·rw [List.nodup_append]
       exact ⟨hi.qn,by simp,fun a ha z hz e=>by simp at hz;subst hz;subst e;exact hbq ha⟩
      ·intro k hk
       rw [hkeys]
       simp only [wN,xI] at hk ⊢
       rcases hk with hk|rfl
       ·exact .inl (hi.qs k hk)
       ·exact .inr rfl
      ·intro a ha hna z hz
       rw [hkeys] at ha ⊢
       simp only [wN,xI] at ha ⊢
       simp only [wN,xI,not_or] at hna
       rcases ha with ha|rfl
       ·exact .inl (hi.cl a ha hna.1 z hz)
       ·exact absurd rfl hna.2
      ·intro p hpm
       rw [hol]
       rw [a9a hbk] at hpm
       simp only [wN,xI] at hpm
       rcases hpm with hpm|rfl
       ·have:=hi.ln p hpm;omega
       ·simp;omega
      ·intro p hpm
       rw [a9a hbk] at hpm
       simp only [wN,xI] at hpm
       rcases hpm with hpm|rfl
       ·exact hi.wk p hpm
       ·exact .snoc (hi.wk _ hchm) ⟨hb,hlb⟩
     have hlen2:=hnew.len g hc
     refine ⟨⟨news++[b],by simp⟩,hnew,?_,fun l' hl' b' hb'=>?_⟩
     ·simp only [hol,xK,wC,wO] at hm ⊢
      rw [hol] at hlen2
      omega
     ·rw [hkeys]
      simp only [wN,xI] at hl' ⊢
      rcases hl' with hl'|rfl
      ·exact .inl (hp l' hl' b' hb')
      ·rw [hb'.1] at hb;cases hb;exact .inr rfl
   ·obtain ⟨q',o'⟩:=s
    obtain ⟨⟨news,hq'⟩,hi,hm,hp⟩:=hs
    simp only at hq' hi hm hp
    subst hq'
    refine Ok.chk (a4c.2 ⟨by omega,by simp;omega,by omega⟩) (Ok.ret ?_)
    have e1:((q0::(rest++news)).drop 1).take ((q0::(rest++news)).length - 1)=rest++news:=by
     simp only [xF,wW,wC,Nat.add_sub_cancel]
     exact wA
    rw [e1]
    have hqn:=hi.qn
    rw [List.nodup_cons] at hqn
    refine ⟨⟨hi.nd,hi.rc,hi.st,hqn.2,fun k hk=>hi.qs k (by simp only [w4];exact .inr hk),fun a ha hna b hb=>?_,hi.ln,hi.wk⟩,?_⟩
    ·by_cases e:a=q0
     ·subst e
      obtain ⟨l,hl,hlk⟩:=l3 b hb
      exact hp l hl b hlk
     ·exact hi.cl a ha (by simp only [w4,not_or];exact ⟨e,hna⟩) b hb
    ·show 2*(24 - o'.length)+(rest++news).length<2*(24 - o.length)+(q0::rest).length
     simp only [wC] at hm ⊢
     omega
  ·have:q=[]:=by
    have cq:¬0<(q.length:Int):=by simpa using cq
    exact zM.1 (by omega)
   subst this
   refine Ok.ret ⟨hs.nd,hs.len g hc,fun k=>⟨hs.rc k,fun h=>?_⟩,fun p hp=>⟨vD (hs.ln p hp) (hs.len g hc),hs.wk p hp⟩⟩
   induction h with
   | refl=>exact hs.st
   | step h hl ih=>exact hs.cl _ ih (by simp) _ hl
 ·refine ⟨by simp [a7q],?_,by simp [a7q],by simp,by simp [a7q],?_,?_,?_⟩
  ·intro k hk;simp [a7q] at hk;subst hk;exact .refl
  ·intro a ha hna;simp [a7q] at ha;simp at hna;exact absurd ha hna
  ·intro p hp;simp [a7q] at hp;subst hp;simp [a7q]
  ·intro p hp;simp [a7q] at hp;subst hp;exact .nil
theorem d0e {x:l7} (g:a14 x) {c:Int} (hc:0≤c∧c≤x.Credentials - 1):Ok (f4k x c) fun r=>r.Pairwise (fun a b=>a<b)∧∀k,k∈r↔Rch x c k:=by
 classical
 obtain ⟨o,ho,h1,h2,h3,_⟩:=c8d g hc
 refine ⟨c2s (o.map Prod.fst),?_,?_,fun k=>by rw [(a6m _).mem_iff];exact h3 k⟩
 ·have hcr:F_y x c=some true:=by rw [b3c x c g.c0 g.c1];exact congrArg some (wV hc)
  simp only [f4k,a5w,if_pos g,xZ,decide_true,w6,vO,hcr,ho]
  refine b5p fun l hl=>?_
  have hlen:l.length≤24:=by rw [hl.length_eq];exact h2
  rw [b2x (body:=g3u) (g:=Prod.fst) (b:=8) (n:=24) (by omega) (fun k x s=>rfl) l 0 [] (by simpa using hlen)]
  simp only [xZ,wL,b1s]
  have:(l.map Prod.fst).length<4611686018427387904:=by simp;omega
  rw [if_pos this]
  exact congrArg some (b8x (hl.map _))
 ·have hn:(c2s (o.map Prod.fst)).Nodup:=(a6m _).nodup_iff.2 h1
  have:=(a5r (o.map Prod.fst)).and hn
  exact this.imp fun ⟨a1,a2⟩=>by omega
theorem b3d (s:List Int) (v:Int):e0g s v=some (decide (v∈s)):=by
 have h:=a2a (body:=e1q v) (fun y=>v=y) s fun k y=>by
  by_cases c:v=y<;>simp [e1q,c]
 have e:decide (∃y∈s,v=y)=decide (v∈s):=decide_eq_decide.2 ⟨fun ⟨y,hy,e⟩=>e▸hy,fun h=>⟨v,h,rfl⟩⟩
 rw [e] at h
 exact h
theorem f0m {l:List Int} (h:l.Pairwise (fun a b=>a<b)) (hl:l.length≤1000):f3h l=some true:=by
 refine Ok.eq ?_
 unfold f3h
 refine Ok.bind (Ok.loop (Q:=fun r:Sum Unit Bool=>r=.inl ()) (fun i:Int=>1≤i) (fun i:Int=>((l.length:Int) - i).toNat) (fun i hi=>?_) _ (vN 1)) fun r hr=>by subst hr;exact Ok.ret rfl
 unfold g32
 refine Ok.ite (fun c=>?_) fun c=>Ok.ret rfl
 have c:i<(l.length:Int):=by simpa using c
 refine Ok.chk (u6 (by omega) (by omega)) (Ok.chk (q9.2 ⟨by omega,by omega⟩) (Ok.chk (q9.2 ⟨by omega,by omega⟩) ?_))
 have h1:(i - 1).toNat<l.length:=by omega
 have h2:i.toNat<l.length:=by omega
 have:=List.pairwise_iff_getElem.1 h (i - 1).toNat i.toNat h1 h2 (by omega)
 rw [zE,zE,zJ h1,zJ h2,xY,xY]
 refine Ok.ite (fun c=>by have:=of_decide_eq_true c;omega) fun _=>Ok.chk (u6 (by omega) (by omega)) (Ok.ret ?_)
 exact ⟨by omega,by omega⟩
theorem c89 {x:l7} (g:a14 x) {r:List Int} (h0:r≠[]) (hp:r.Pairwise (fun a b=>a<b)) (hr:∀k∈r,0≤k∧k≤x.Credentials - 1) (hc:∀a∈r,∀b,leads x a b→b∈r):e1z x r=some true:=by
 classical
 have hl:r.length≤24:=e7x (hp.imp fun h=>by omega) fun a ha=>by have:=hr a ha;have:=g.c1;omega
 have hlp:0<r.length:=List.length_pos_iff.2 h0
 have e1:decide ((r.length:Int)=0)=false:=wI (by omega)
 have e2:f5w r x=some (decide (∃k∈r,¬(0≤k∧k≤x.Credentials - 1))):=by
  refine a2a (fun k=>¬(0≤k∧k≤x.Credentials - 1)) r fun k a=>?_
  simp only [g31,f5x,b3c x _ g.c0 g.c1,xZ]
  by_cases c:0≤a∧a≤x.Credentials - 1<;>simp [c]
 have e3:decide (∃k∈r,¬(0≤k∧k≤x.Credentials - 1))=false:=wI fun ⟨k,hk,hn⟩=>hn (hr k hk)
 rw [e3] at e2
 refine Ok.eq ?_
 unfold e1z
 simp only [a5w,if_pos g,xZ,decide_true,w6,w7,e1,grp,vO,f0m hp (by omega),e2]
 refine Ok.bind (Ok.for (Q:=fun o=>o=.nx ()) (fun _=>True) r 0 () trivial (fun k a s ha _=>?_) fun s _=>rfl) fun o ho=>by subst ho;exact Ok.ret rfl
 unfold g30
 refine Ok.bind (c1m g a) fun ls hls=>?_
 refine Ok.bind (Ok.for (Q:=fun o=>o=.nx ()) (fun _=>True) ls 0 () trivial (fun k l s hl _=>?_) fun s _=>rfl) fun o ho=>by subst ho;exact Ok.ret trivial
 obtain ⟨b,hb,hlb⟩:=hls.2.1 l hl
 unfold g3s
 have hbm:decide (b∈r)=true:=wV (hc a ha b hlb)
 simp only [hb,xZ,b3d,hbm,w6,vO]
 exact Ok.ret trivial
open Classical in
def mx (p:Int→Prop) (i:Int) (gs:List a03):Int:=gs.foldl (fun m g=>if p g.Credential∧g.Resource=i then max m g.Right else m) 0
open Classical in
theorem b5v (p:Int→Prop) (i:Int) (gs:List a03) (g:a03):mx p i (gs++[g])=if p g.Credential∧g.Resource=i then max (mx p i gs) g.Right else mx p i gs:=by simp [mx]
open Classical in
theorem d0w (p:Int→Prop) (i:Int) (gs:List a03) (h:∀g∈gs,1≤g.Right∧g.Right≤3):0≤mx p i gs∧mx p i gs≤3:=by
 unfold mx
 have:∀(l:List a03) (a:Int),(∀g∈l,1≤g.Right∧g.Right≤3)→0≤a→a≤3→0≤l.foldl (fun m g=>if p g.Credential∧g.Resource=i then max m g.Right else m) a∧l.foldl (fun m g=>if p g.Credential∧g.Resource=i then max m g.Right else m) a≤3:=by
  intro l
  induction l with
  | nil=>intro a _ h1 h2;exact ⟨h1,h2⟩
  | cons g r ih =>
   intro a hg h1 h2
   have:=hg g (by simp)
   simp only [wQ]
   refine ih _ (fun g hg'=>hg g (by simp [hg'])) ?_ ?_<;>split<;>omega
 exact this gs 0 h (by omega) (by omega)
theorem d2z {x:l7} (g:a14 x) {r:List Int} (hr:e1z x r=some true):Ok (f3g x r) fun b=>(b.length:Int)=x.Resources∧∀i:Nat,i<b.length→b.getD i default=mx (·∈r) i x.Grants:=by
 classical
 have h0:=g.r0;have h1:=g.r1
 unfold f3g
 rw [hr]
 simp only [xZ,w6,vO]
 refine Ok.chk (a2f.2 ⟨h0,vN _,by omega⟩) (Ok.bind (Ok.foldI (all:=x.Grants) (Q:=fun b:List Int=>(b.length:Int)=x.Resources∧∀i:Nat,i<b.length→b.getD i default=mx (·∈r) i x.Grants)
  (fun pre b=>(b.length:Int)=x.Resources∧∀i:Nat,i<b.length→b.getD i default=mx (·∈r) i pre) x.Grants [] 0 _ rfl rfl ⟨by simp;omega,fun i hi=>?_⟩ (fun pre y q s hw hs=>?_) fun s hs=>hs) fun b hb=>Ok.ret hb)
 ·simp only [List.length_replicate] at hi
  simp [mx,hi]
 ·obtain ⟨s1,s2⟩:=hs
  have hy:=g.gr y (by rw [hw];simp)
  unfold g2z
  rw [b3d]
  refine Ok.bind (P:=fun b=>b=decide (y.Credential∈r)) ⟨_,rfl,rfl⟩ fun b hb=>?_
  subst hb
  refine Ok.ite (fun c=>?_) fun c=>Ok.ret ⟨s1,fun i hi=>?_⟩
  ·have c:y.Credential∈r:=of_decide_eq_true c
   have hb:=hy.2.1
   have i0:inb y.Resource s.length=true:=q9.2 ⟨hb.1,by omega⟩
   refine Ok.chk i0 (Ok.chk i0 (Ok.ret ⟨by simpa using s1,fun i hi=>?_⟩))
   simp only [List.length_set] at hi
   rw [b5v,zE,xR]
   by_cases e:y.Resource.toNat=i
   ·have e2:y.Resource=(i:Int):=by omega
    rw [if_pos e,if_pos (by omega),xY,if_pos ⟨c,e2⟩,e,s2 i hi]
   ·have e2:¬y.Resource=(i:Int):=by omega
    rw [if_neg e,if_neg (fun h=>e2 h.2),←zE,s2 i hi]
  ·have c:¬y.Credential∈r:=of_decide_eq_false c
   rw [b5v,if_neg (fun h=>c h.1)]
   exact s2 i hi
theorem c1i {p p':Int→Prop} (h:∀c,p c↔p' c) (i:Int) (gs:List a03):mx p i gs=mx p' i gs:=by
 have:p=p':=funext fun c=>propext (h c)
 rw [this]
theorem c0y {x:l7} (g:a14 x) {c:Int} (hc:0≤c∧c≤x.Credentials - 1):Ok (e1k x c) fun p=>(p.length:Int)=x.Resources∧∀i:Nat,i<p.length→p.getD i default=mx (Rch x c) i x.Grants:=by
 unfold e1k
 refine Ok.bind (d0e g hc) fun r hr=>?_
 obtain ⟨h1,h2⟩:=hr
 have h0:r≠[]:=fun e=>by
  have:=(h2 c).2 .refl
  rw [e] at this;cases this
 refine Ok.bind (d2z g (c89 g h0 h1 (fun k hk=>a5x g hc ((h2 k).1 hk)) fun a ha b hb=>(h2 b).2 (.step ((h2 a).1 ha) hb))) fun b hb=>Ok.ret ⟨hb.1,fun i hi=>?_⟩
 rw [hb.2 i hi]
 exact c1i h2 i x.Grants
def b08 (w:List Int) (x:l7) (c:Int):Nat→Int
 | 0=>0
 | n+1=>b08 w x c n+w.getD n default*mx (Rch x c) n x.Grants
def wOK (w:List Int):Prop:=∀a∈w,0≤a∧a≤100
theorem g6z {w:List Int} (h:wOK w) {n:Nat} (hn:n<w.length):0≤w.getD n default∧w.getD n default≤100:=by
 rw [zE,zJ hn]
 exact h _ (wD hn)
theorem a4g {w:List Int} {x:l7} (g:a14 x) (hw:wOK w) (c:Int):∀n,n≤w.length→0≤b08 w x c n∧b08 w x c n≤300*n
 | 0,_=>⟨vN 0,vN 0⟩
 | n+1,h=>by
  have ih:=a4g g hw c n (by omega)
  have h1:=g6z hw (n:=n) (by omega)
  have h2:=d0w (Rch x c) n x.Grants fun y hy=>(g.gr y hy).2.2
  have h3:=Int.mul_nonneg h1.1 h2.1
  have h4:=Int.mul_le_mul h1.2 h2.2 h2.1 (by omega)
  simp only [b08]
  omega
theorem c9g {x:l7} (g:a14 x) {w:List Int} (hw:wOK w) (hl:(w.length:Int)=x.Resources) {c:Int} (hc:0≤c∧c≤x.Credentials - 1):Ok (e0l x w c) fun y=>y=(b08 w x c w.length,0):=by
 classical
 have h1:=g.r1
 have e1:f1v w=some (decide (∃a∈w,¬(0≤a∧a≤100))):=by
  refine a2a (fun a=>¬(0≤a∧a≤100)) w fun k a=>?_
  simp only [f7d,f1w,grp,xZ]
  by_cases q:0≤a∧a≤100
  ·have:(decide (a<0)||decide (100<a))=false:=by simp only [xE,zK];omega
   simp [this,q]
  ·have:(decide (a<0)||decide (100<a))=true:=by simp only [wT,xO];omega
   simp only [this,vQ,q,not_false_eq_true,if_true]
 have e2:decide (∃a∈w,¬(0≤a∧a≤100))=false:=wI fun ⟨a,ha,hn⟩=>hn (hw a ha)
 rw [e2] at e1
 have e3:(decide (c<0)||decide (x.Credentials≤c))=false:=by simp only [xE,zK];omega
 unfold e0l
 simp only [a5w,if_pos g,xZ,decide_true,w6,vO,hl,e1,e3,grp]
 refine Ok.bind (c0y g hc) fun p hp=>?_
 have hpl:p.length=w.length:=by have:=hp.1;omega
 refine Ok.bind (Ok.foldI (all:=p) (Q:=fun s=>s=b08 w x c w.length) (fun pre s=>s=b08 w x c pre.length) p [] 0 0 rfl rfl rfl (fun pre y q s hwh hs=>?_) fun s hs=>by rw [hs,hpl]) fun s hs=>Ok.ret (by rw [hs])
 have hlen:pre.length<p.length:=by have:=congrArg List.length hwh;simp at this;omega
 have hy:p.getD pre.length default=y:=by rw [hwh];simp
 rw [hp.2 _ hlen] at hy
 subst hs
 have r1:=a4g g hw c pre.length (by omega)
 have r2:=a4g g hw c (pre.length+1) (by omega)
 simp only [b08,hy] at r2
 have e4:b08 w x c (pre++[y]).length=b08 w x c pre.length+w.getD pre.length default*y:=by simp only [xK,zV,b08,hy]
 unfold g2y
 simp only [xW]
 refine Ok.chk (q9.2 ⟨by omega,by omega⟩) (Ok.chk (u6 (by omega) (by omega)) (Ok.chk (u6 (by omega) (by omega)) (Ok.ret e4.symm)))
def aud (n:Int) (pub:Bool):Int:=bif pub then 100 else 1+n
theorem c6a {x:l7} (g:a14 x) {w:List Int} (hw:wOK w) (hl:(w.length:Int)=x.Resources) {c:Int} (hc:0≤c∧c≤x.Credentials - 1) {n:Int} (hn:0≤n∧n≤24) (pub:Bool) :
  e0k x w c n pub=some (p8.mk (lvl (b08 w x c w.length*aud n pub)) (b08 w x c w.length) (aud n pub) (b08 w x c w.length*aud n pub),0):=by
 have h1:=g.r1
 have r:=a4g g hw c w.length (vL _)
 have ha:1≤aud n pub∧aud n pub≤100:=by unfold aud;cases pub<;>simp<;>omega
 have hp:0≤b08 w x c w.length*aud n pub∧b08 w x c w.length*aud n pub≤720000:=by
  refine ⟨Int.mul_nonneg r.1 (by omega),?_⟩
  have:=Int.mul_le_mul (show b08 w x c w.length≤7200 by omega) ha.2 (by omega) (by omega)
  omega
 obtain ⟨y,hy,rfl⟩:=c9g g hw hl hc
 have e3:(decide (n<0)||decide (24<n))=false:=by simp only [xE,zK];omega
 have i1:a0p (1+n)=true:=u6 (by omega) (by omega)
 have i2:a0p (b08 w x c w.length*aud n pub)=true:=u6 (by omega) (by omega)
 unfold e0k
 rw [hy]
 simp only [xZ,decide_true,w6,vO,e3,grp,o8 i1,jn]
 cases pub with
 | true =>
  simp only [aud,vQ] at i2 ⊢
  simp only [xZ,o8 i2,c1n]
 | false =>
  simp only [aud,vO] at i2 ⊢
  simp only [xZ,o8 i2,c1n]
theorem c38 {t:x8} (h:TOK t):Ok (e2c t) fun y=>a14 y.1∧1≤y.1.Credentials∧y.1.Credentials≤6∧1≤y.1.Resources∧y.1.Resources≤5∧y.1.Grants.length≤8∧TOK y.2∧y.1.Stores.length≤8∧y.1.Mints.length≤8:=by
 unfold e2c
 refine Ok.bind (a0b h (by omega) (by omega) (by omega)) fun C hC=>Ok.bind (a0b hC.2.2 (by omega) (by omega) (by omega)) fun R hR=>Ok.bind (a02 hR.2.2 (by omega)) fun k hk=>?_
 obtain ⟨c1,c2,_⟩:=hC
 obtain ⟨r1,r2,_⟩:=hR
 refine Ok.bind (Ok.loop (Q:=fun y:Int×Int×List a03×x8=>y.1=C.1∧y.2.1=R.1∧y.2.2.1.length≤8∧(∀g∈y.2.2.1,(0≤g.Credential∧g.Credential≤C.1 - 1)∧(0≤g.Resource∧g.Resource≤R.1 - 1)∧1≤g.Right∧g.Right≤3)∧TOK y.2.2.2)
  (fun x=>0≤x.1∧x.2.1=C.1∧x.2.2.1=R.1∧(x.2.2.2.1.length:Int)+x.1≤8∧(∀g∈x.2.2.2.1,(0≤g.Credential∧g.Credential≤C.1 - 1)∧(0≤g.Resource∧g.Resource≤R.1 - 1)∧1≤g.Right∧g.Right≤3)∧TOK x.2.2.2.2) (fun x=>x.1.toNat) (fun x hx=>?_) _ ⟨hk.1,rfl,rfl,by show ((0:Nat):Int)+k.1≤8;omega,by simp,hk.2.2⟩) fun y1 h1=>?_
 ·obtain ⟨n,a,b,out,t⟩:=x
  obtain ⟨x1,rfl,rfl,x4,x5,x6⟩:=hx
  simp only at x1 x4 x5 x6
  unfold g49
  dsimp only
  refine Ok.ite (fun c=>?_) fun c=>Ok.ret ⟨rfl,rfl,by show out.length≤8;omega,x5,x6⟩
  have c:0<n:=by simpa using c
  refine Ok.bind (a02 x6 (by omega)) fun p hp=>Ok.bind (a02 hp.2.2 (by omega)) fun q hq=>Ok.bind (a0b hq.2.2 (by omega) (by omega) (by omega)) fun w hw=>?_
  obtain ⟨p1,p2,_⟩:=hp
  obtain ⟨q1,q2,_⟩:=hq
  obtain ⟨w1,w2,w3⟩:=hw
  refine Ok.chk (a04 (by simp;omega)) (Ok.chk (u6 (by show _≤n - 1;omega) (by show n - 1≤_;omega)) (Ok.ret ?_))
  refine ⟨⟨by show 0≤n - 1;omega,rfl,rfl,by simp;omega,fun g hg=>?_,w3⟩,by show (n - 1).toNat<n.toNat;omega⟩
  simp only [wN,xI] at hg
  rcases hg with hg|rfl
  ·exact x5 g hg
  ·exact ⟨⟨p1,by show p.1≤C.1 - 1;omega⟩,⟨q1,by show q.1≤R.1 - 1;omega⟩,w1,w2⟩
 obtain ⟨a1,a2,a3,a4,a5⟩:=h1
 refine Ok.bind (a02 a5 (by omega)) fun k2 hk2=>?_
 refine Ok.bind (Ok.loop (Q:=fun y:Int×Int×List a08×x8=>y.1=C.1∧y.2.1=R.1∧y.2.2.1.length≤8∧(∀g∈y.2.2.1,(0≤g.Credential∧g.Credential≤C.1 - 1)∧0≤g.Resource∧g.Resource≤R.1 - 1)∧TOK y.2.2.2)
  (fun x=>0≤x.1∧x.2.1=C.1∧x.2.2.1=R.1∧(x.2.2.2.1.length:Int)+x.1≤8∧(∀g∈x.2.2.2.1,(0≤g.Credential∧g.Credential≤C.1 - 1)∧0≤g.Resource∧g.Resource≤R.1 - 1)∧TOK x.2.2.2.2) (fun x=>x.1.toNat) (fun x hx=>?_) _ ⟨hk2.1,a1,a2,by show ((0:Nat):Int)+k2.1≤8;omega,by simp,hk2.2.2⟩) fun y2 h2=>?_
 ·obtain ⟨n,a,b,out,t⟩:=x
  obtain ⟨x1,x2,x3,x4,x5,x6⟩:=hx
  simp only at x1 x2 x3 x4 x5 x6
  subst x2 x3
  unfold g3p
  dsimp only
  refine Ok.ite (fun c=>?_) fun c=>Ok.ret ⟨rfl,rfl,by show out.length≤8;omega,x5,x6⟩
  have c:0<n:=by simpa using c
  refine Ok.bind (a02 x6 (by omega)) fun p hp=>Ok.bind (a02 hp.2.2 (by omega)) fun q hq=>?_
  obtain ⟨p1,p2,_⟩:=hp
  obtain ⟨q1,q2,q3⟩:=hq
  refine Ok.chk (a04 (by simp;omega)) (Ok.chk (u6 (by show _≤n - 1;omega) (by show n - 1≤_;omega)) (Ok.ret ?_))
  refine ⟨⟨by show 0≤n - 1;omega,rfl,rfl,by simp;omega,fun g hg=>?_,q3⟩,by show (n - 1).toNat<n.toNat;omega⟩
  simp only [wN,xI] at hg
  rcases hg with hg|rfl
  ·exact x5 g hg
  ·exact ⟨⟨q1,by show q.1≤C.1 - 1;omega⟩,p1,by show p.1≤R.1 - 1;omega⟩
 obtain ⟨b1,b2,b3,b4,b5⟩:=h2
 refine Ok.bind (a02 b5 (by omega)) fun k3 hk3=>?_
 refine Ok.bind (Ok.loop (Q:=fun y:Int×Int×List a0n×x8=>y.1=C.1∧y.2.1=R.1∧y.2.2.1.length≤8∧(∀g∈y.2.2.1,(0≤g.From∧g.From≤C.1 - 1)∧0≤g.To∧g.To≤C.1 - 1)∧TOK y.2.2.2)
  (fun x=>0≤x.1∧x.2.1=C.1∧x.2.2.1=R.1∧(x.2.2.2.1.length:Int)+x.1≤8∧(∀g∈x.2.2.2.1,(0≤g.From∧g.From≤C.1 - 1)∧0≤g.To∧g.To≤C.1 - 1)∧TOK x.2.2.2.2) (fun x=>x.1.toNat) (fun x hx=>?_) _ ⟨hk3.1,b1,b2,by show ((0:Nat):Int)+k3.1≤8;omega,by simp,hk3.2.2⟩) fun y3 h3=>?_
 ·obtain ⟨n,a,b,out,t⟩:=x
  obtain ⟨x1,x2,x3,x4,x5,x6⟩:=hx
  simp only at x1 x2 x3 x4 x5 x6
  subst x2 x3
  unfold g2h
  dsimp only
  refine Ok.ite (fun c=>?_) fun c=>Ok.ret ⟨rfl,rfl,by show out.length≤8;omega,x5,x6⟩
  have c:0<n:=by simpa using c
  refine Ok.bind (a02 x6 (by omega)) fun p hp=>Ok.bind (a02 hp.2.2 (by omega)) fun q hq=>?_
  obtain ⟨p1,p2,_⟩:=hp
  obtain ⟨q1,q2,q3⟩:=hq
  refine Ok.chk (a04 (by simp;omega)) (Ok.chk (u6 (by show _≤n - 1;omega) (by show n - 1≤_;omega)) (Ok.ret ?_))
  refine ⟨⟨by show 0≤n - 1;omega,rfl,rfl,by simp;omega,fun g hg=>?_,q3⟩,by show (n - 1).toNat<n.toNat;omega⟩
  simp only [wN,xI] at hg
  rcases hg with hg|rfl
  ·exact x5 g hg
  ·exact ⟨⟨p1,by show p.1≤C.1 - 1;omega⟩,q1,by show q.1≤C.1 - 1;omega⟩
 obtain ⟨d1,d2,d3,d4,d5⟩:=h3
 refine Ok.ret ?_
 refine ⟨⟨?_,?_,?_,?_,?_,?_,?_,fun g hg=>?_,fun s hs=>?_,fun m hm=>?_⟩,?_,?_,?_,?_,a3,d5,b3,d3⟩<;>simp only [d1,d2]
 all_goals try omega
 ·unfold gOK;simp only [d1,d2];exact a4 g hg
 ·unfold sOK;simp only [d1,d2];exact b4 s hs
 ·unfold mOK;simp only [d1,d2];exact d4 m hm
theorem c5x {t:x8} (h:TOK t):Ok (e2c t) fun y=>a14 y.1∧1≤y.1.Credentials∧y.1.Credentials≤6∧1≤y.1.Resources∧y.1.Resources≤5∧y.1.Grants.length≤8∧TOK y.2 :=
 (c38 h).mono fun _ h=>⟨h.1,h.2.1,h.2.2.1,h.2.2.2.1,h.2.2.2.2.1,h.2.2.2.2.2.1,h.2.2.2.2.2.2.1⟩
theorem c4v {t:x8} (h:TOK t) {n:Int} (h0:0≤n) (hn:n≤30):Ok (f2v t n) fun y=>(y.1.length:Int)=n∧wOK y.1∧TOK y.2:=by
 unfold f2v
 refine Ok.bind (Ok.loop (Q:=fun y:List Int×x8=>(y.1.length:Int)=n∧wOK y.1∧TOK y.2) (fun x=>x.1=x.2.1.length∧x.1≤n∧wOK x.2.1∧TOK x.2.2) (fun x=>(n - x.1).toNat) (fun x hx=>?_) _ ⟨rfl,h0,by intro a ha;simp at ha,h⟩) fun r hr=>Ok.ret hr
 obtain ⟨i,out,t⟩:=x
 obtain ⟨x1,x2,x3,x4⟩:=hx
 simp only at x1 x2 x3 x4
 unfold g2g
 refine Ok.ite (fun c=>?_) fun c=>Ok.ret ?_
 ·have c:i<n:=by simpa using c
  refine Ok.bind (a5y x4 (by simp)) fun p hp=>Ok.chk (a04 (by simp;omega)) (Ok.chk (u6 (by show _≤i+1;omega) (by show i+1≤_;omega)) (Ok.ret ?_))
  refine ⟨⟨by simp;omega,by show i+1≤n;omega,fun a ha=>?_,hp.2⟩,by show (n - (i+1)).toNat<(n - i).toNat;omega⟩
  simp only [wN,xI] at ha
  rcases ha with ha|rfl
  ·exact x3 a ha
  ·have:=hp.1;simp at this;omega
 ·have c:¬i<n:=by simpa using c
  exact ⟨by show (out.length:Int)=n;omega,x3,x4⟩
end
end Go.Ab