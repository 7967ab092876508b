/- Console: console.Make of any commands. -/
import Derived.Test.YtnaeedamiaoipaaGreatDoorPO
import Derived.Test.YtnaeedamiaoipaaGreatDoorPX
import Derived.Test.YtnaeedamiaoipaaGreatDoorLO
import Derived.Test.YtnaeedamiaoipaaGreatDoorAbMC
set_option linter.all false
set_option maxRecDepth 20000
namespace Go.Ab
open Go.Proofs Classical
noncomputable section
def srt (d:List d9):List d9:=(F_b d).getD []
theorem e7c {d:List d9} (hl:d.length≤400) (ht:∀x∈d,tOK x):F_b d=some (srt d)∧Srt d (srt d):=by
 obtain ⟨y,e,h⟩:=d1s hl ht
 unfold srt
 rw [e]
 exact ⟨rfl,h⟩
theorem d10 {l:List d9} (hl:l.length≤1000):e4d l=some l:=by
 unfold e4d
 rw [o5 (a0z.2 (by simp only [wK];omega)),d7s]
 ·rfl
 ·intro e;rw [List.isEmpty_iff.1 e];rfl
theorem b58:∀(x:List d9) (k:Int),0≤k→∃o,forL e6f x k ()=some o∧o.elim (fun _=>x.all a1n=true) (fun j=>0≤j∧x.all a1n=false)
 | [],_,_=>⟨_,rfl,rfl⟩
 | c::r,k,h=>by
  simp only [forL,e6f,f3x,b1f,xY,List.all_cons]
  cases a1n c with
  | false=>exact ⟨.ex k,rfl,h,rfl⟩
  | true =>
   obtain ⟨o,h1,h2⟩:=b58 r (k+1) (by omega)
   exact ⟨o,h1,by simpa using h2⟩
def c0g (x:List d9):Int:=bif decide (60<(x.length:Int)) then 3 else bif x.all a1n then 0 else 45
theorem d7o (x:List d9):d6c x=some (c0g x):=by
 unfold d6c c0g
 cases decide (60<(x.length:Int)) with
 | true=>rfl
 | false =>
  unfold f3v f3w
  obtain ⟨o,h1,h2⟩:=b58 x 0 (by omega)
  rw [h1]
  cases o with
  | nx u =>
   have h2:x.all a1n=true:=h2
   rw [h2];rfl
  | ex j =>
   obtain ⟨h3,h4⟩:=(h2:0≤j∧x.all a1n=false)
   rw [h4]
   simp [Fl.elim,h3]
theorem b2c {x:List d9} (h:c0g x=0):Sc x:=by
 unfold c0g at h
 cases e:decide (60<(x.length:Int)) with
 | true=>rw [e] at h;cases h
 | false =>
  have e':=of_decide_eq_false e
  rw [e,vL] at h
  cases e2:x.all a1n with
  | false=>rw [e2] at h;cases h
  | true=>exact ⟨fun c hc=>wB.1 e2 c hc,by omega⟩
def mkD (x:List d9):l8:=⟨kds x,evD (nms x) (srt x)⟩
def mkE (x:List d9):l9:=⟨16,evA (nms x) (srt x)⟩
def bad (e:Int):l8×l9×(List Str)×Int:=(⟨[],[]⟩,⟨0,[]⟩,[],e)
def mkX (x:List d9):l8×l9×(List Str)×Int :=
 if c0g x≠0 then bad (c0g x) else if ¬(nms x).Nodup then bad 7 else if x.any (a7w (nms x))=true then bad 6 else if 24<(nms x).length then bad 3
 else if ¬a2c (mkD x) then bad 30 else if ¬Good (mkE x) then bad 34 else (mkD x,mkE x,nms x,0)
theorem Sc.tok {x:List d9} (h:Sc x):∀c∈x,tOK c:=fun c hc=>by have:=(h.vc c hc).t;exact ⟨this.1,by omega⟩
theorem Sc.srt {x:List d9} (h:Sc x):F_b x=some (srt x)∧Srt x (Go.Ab.srt x):=e7c (by have:=h.n;omega) h.tok
theorem f3g (x:List d9):F_m x=some (mkX x):=by
 unfold F_m mkX
 rw [d7o,xY]
 by_cases h0:c0g x=0
 ·rw [if_neg (fun h=>h h0),wR h0,wY,vL]
  have sc:=b2c h0
  have hn:=sc.n
  have hnl:=d9y x
  obtain ⟨es,hs⟩:=sc.srt
  have hm:∀c,c∈srt x↔c∈x:=fun c=>hs.p.mem_iff
  have hsl:(srt x).length=x.length:=hs.p.length_eq
  have ec:a4u ((nms x).mergeSort fun x y=>decide (x≤y))=some (f2a (nms x),Go.Lib.compact ((nms x).mergeSort fun x y=>decide (x≤y))++List.replicate (((nms x).mergeSort fun x y=>decide (x≤y)).length - (Go.Lib.compact ((nms x).mergeSort fun x y=>decide (x≤y))).length) []):=by
   unfold a4u
   rw [o5 (wR (by rw [List.length_mergeSort];omega))];rfl
  rw [b9m (by omega),xY]
  simp only [d2f,xY]
  rw [c7t (by omega),xY,ec,xY]
  simp only [F_f,xY]
  by_cases h1:(nms x).Nodup
  ·have e1:decide (((f2a (nms x):Nat):Int)<((nms x).length:Int))=false:=wE (by have:(nms x).length≤f2a (nms x):=(c0f _).2 h1;omega)
   rw [e1,vL,if_neg (fun h=>h h1),c5w,xY]
   cases h2:x.any (a7w (nms x)) with
   | true=>rw [if_pos rfl];rfl
   | false =>
    rw [if_neg (by simp),vL]
    by_cases h3:24<(nms x).length
    ·rw [if_pos h3,wR (by omega)];rfl
    ·rw [if_neg h3,wE (by omega),vL,d10 (by omega),xY,es,xY]
     rw [c9j (y:=(kds x,nms x)) (srt x) 0 16 [] (kds x) [] (fun c hc=>by have:=sc.vc c ((hm c).1 hc);exact ⟨this.k0,this.k1⟩) (by simp;omega) (by simp;omega)]
     simp only [xY,wH]
     rw [show d6l ⟨kds x,evD (nms x) (srt x)⟩=_ from a8c (mkD x),xY]
     by_cases h4:a2c (mkD x)
     ·rw [if_pos h4,if_neg (fun h=>h h4)]
      simp only [decide_true,wY,vL]
      rw [show F_j ⟨16,evA (nms x) (srt x)⟩=_ from a3u (mkE x),xY]
      by_cases h5:Good (mkE x)
      ·rw [if_pos h5,if_neg (fun h=>h h5)]
       simp only [decide_true,wY,vL];rfl
      ·rw [if_neg h5,if_pos h5];rfl
     ·rw [if_neg h4,if_pos h4];rfl
  ·have e1:decide (((f2a (nms x):Nat):Int)<((nms x).length:Int))=true:=wR (by have:¬(nms x).length≤f2a (nms x):=fun h=>h1 ((c0f _).1 h);omega)
   rw [e1,vN,if_pos h1];rfl
 ·rw [if_pos h0,wE h0];rfl
end
end Go.Ab
set_option maxRecDepth 20000
namespace Go.Ab
open Go.Proofs
theorem d7c (s:Str) (b:UInt8) (hs:s.length≤1000000):∀(r pre:Str),s=pre++r→loop (f4i s b) (pre.length:Int)=some (bif decide (b∈r) then .inr true else .inl ())
 | [],pre,e=>by
  rw [a1t];unfold f4i
  rw [wE (by subst e;simp)]
  rfl
 | a::r,pre,e=>by
  have hl:pre.length<s.length:=by subst e;simp
  have hg:s.getD ((pre.length:Int)).toNat 0=a:=by subst e;simp [zE]
  have ih:=d7c s b hs r (pre++[a]) (by simp [e])
  rw [a1t];unfold f4i
  rw [wR (by omega),vN,o5 (p8.2 (by omega)),hg]
  by_cases q:a=b
  ·subst q
   rw [wR rfl,wR (xH)];rfl
  ·have q1:¬((a.toNat:Int)=(b.toNat:Int)):=fun h=>q (UInt8.toNat_inj.1 (by omega))
   have q2:decide (b∈a::r)=decide (b∈r):=by simp [show ¬b=a from fun h=>q h.symm]
   rw [wE q1,vL,o5 (x8.2 (by omega)),q2]
   simp only [xY,Fl.elim]
   have e2:((pre.length:Int)+1)=((pre++[a]).length:Int):=by simp
   rw [e2];exact ih
theorem has_eq {s:Str} {b:UInt8} (hs:s.length≤1000000):F_4 s b=some (decide (b∈s)):=by
 unfold F_4
 have:=d7c s b hs s [] rfl
 simp only [wK,Int.natCast_zero] at this
 rw [this]
 cases decide (b∈s)<;>rfl
theorem c94 (s:Str) (hs:s.length≤1000000):∀(r pre:Str),s=pre++r→loop (f4h s) (pre.length:Int)=some (bif letters r then .inl () else .inr false)
 | [],pre,e=>by
  rw [a1t];unfold f4h
  rw [wE (by subst e;simp)]
  rfl
 | a::r,pre,e=>by
  have hl:pre.length<s.length:=by subst e;simp
  have hg:s.getD ((pre.length:Int)).toNat 0=a:=by subst e;simp [zE]
  have ih:=c94 s hs r (pre++[a]) (by simp [e])
  have hb:inb (pre.length:Int) s.length=true:=p8.2 (by omega)
  have hc:letters (a::r)=((decide (97≤a.toNat)&&decide (a.toNat≤122))&&letters r):=by simp [letters]
  rw [a1t];unfold f4h
  rw [wR (by omega),vN,o5 hb,hg,hc]
  by_cases q:97≤a.toNat
  ·rw [wE (by omega:¬(a.toNat:Int)<97),vL,o5 hb,wR q,Bool.true_and]
   by_cases q2:a.toNat≤122
   ·rw [wE (by omega:¬(122:Int)<(a.toNat:Int)),vL,o5 (x8.2 (by omega)),wR q2,Bool.true_and]
    simp only [xY,Fl.elim]
    have e2:((pre.length:Int)+1)=((pre++[a]).length:Int):=by simp
    rw [e2];exact ih
   ·rw [wR (by omega:(122:Int)<(a.toNat:Int)),wE q2];rfl
  ·rw [wR (by omega:(a.toNat:Int)<97),wE q];rfl
theorem d36 (s:Str):e4k s=some (a2x s 12):=by
 unfold e4k a2x
 by_cases h:1≤s.length∧s.length≤12
 ·have e:(decide ((s.length:Int)<1)||decide (12<(s.length:Int)))=false:=by simp;omega
  have:=c94 s (by omega) s [] rfl
  simp only [wK,Int.natCast_zero] at this
  rw [e,this]
  have e2:(decide (1≤(s.length:Int))&&decide ((s.length:Int)≤12))=true:=by simp;omega
  rw [e2]
  cases letters s<;>rfl
 ·have e:(decide ((s.length:Int)<1)||decide (12<(s.length:Int)))=true:=by simp;omega
  have e2:(decide (1≤(s.length:Int))&&decide ((s.length:Int)≤12))=false:=by simp;omega
  rw [e,e2];simp [grp]
theorem rin (x a b:Int):d2a x a b=some (decide (a≤x)&&decide (x≤b)):=by simp [d2a,grp]
def b3r (k:Int):Str:=([[],[110],[110],[116,110,111],[116,110,111],[116,110,112],[116,110,112],[116,112,117],[116,99,113],[116,112,113],[116,112],[99,110]]:List Str).getD k.toNat default
theorem a6k {k:Int} (h0:0≤k) (h1:k≤11):d87 k=some (b3r k):=by
 unfold d87
 rw [o5 (p8.2 (by omega))];rfl
theorem rlt {x m n:Int} (h:n=m+1):decide (x≤m)=decide (x<n):=by
 rw [decide_eq_decide];omega
theorem rv1 (hn n nz ho o oz:Bool):(bif (!(hn==n)) then some (Fl.ex false) else bif (!hn) then bif (!nz) then some (Fl.ex false) else bif (!(ho==o)) then some (Fl.ex false) else bif (!ho) then bif (!oz) then some (Fl.ex false) else some (Fl.nx ()) else some (Fl.nx ()) else bif (!(ho==o)) then some (Fl.ex false) else bif (!ho) then bif (!oz) then some (Fl.ex false) else some (Fl.nx ()) else some (Fl.nx ()):Option (Fl Unit Bool))
  = some (bif ((hn==n)&&(hn||nz))&&((ho==o)&&(ho||oz)) then .nx () else .ex false):=by
 cases hn<;>cases n<;>cases nz<;>cases ho<;>cases o<;>cases oz<;>rfl
theorem rv2 (t ht tz:Bool):(bif (!t) then some (Fl.ex false) else bif (!ht) then bif (!tz) then some (Fl.ex false) else some (Fl.nx ()) else some (Fl.nx ()):Option (Fl Unit Bool))=some (bif t&&(ht||tz) then .nx () else .ex false):=by
 cases t<;>cases ht<;>cases tz<;>rfl
theorem rv3 (hp a1 hc a2 az:Bool):(bif hp then bif (!a1) then some (Fl.ex false) else some (Fl.nx ()) else bif hc then bif (!a2) then some (Fl.ex false) else some (Fl.nx ()) else bif (!az) then some (Fl.ex false) else some (Fl.nx ()):Option (Fl Unit Bool))=some (bif (bif hp then a1 else bif hc then a2 else az) then .nx () else .ex false):=by
 cases hp<;>cases a1<;>cases hc<;>cases a2<;>cases az<;>rfl
def nmk (h:Bool) (s:Str):Bool:=(h==a2x s 12)&&(h||decide (s=[]))
def tmk (h:Bool) (t:Int):Bool:=(decide (0≤t)&&decide (t≤999999))&&(h||decide (t=0))
def amk (p c:Bool) (a:Int):Bool:=bif p then (decide (0≤a)&&decide (a≤15)) else bif c then (decide (0≤a)&&decide (a≤63)) else decide (a=0)
def bmk (q u:Bool) (b:Int):Bool:=bif q then (decide (0≤b)&&decide (b≤15)) else bif u then (decide (0≤b)&&decide (b≤999999)) else decide (b=0)
def hs (f:Str) (b:UInt8):Bool:=decide (b∈f)
def fmk (f:Str) (c:d9):Bool:=(nmk (hs f 110) c.Name&&nmk (hs f 111) c.Other)&&(tmk (hs f 116) c.Time&&(amk (hs f 112) (hs f 99) c.A&&bmk (hs f 113) (hs f 117) c.B))
theorem d9h (c:d9) (h0:1≤c.Kind) (h1:c.Kind≤11) (hf:(b3r c.Kind).length≤1000000):F_g c=some (fmk (b3r c.Kind) c):=by
 unfold F_g
 rw [rin,xY,wR h0,wR h1,w5,wY,vL,a6k (by omega) h1,xY]
 generalize b3r c.Kind=f at hf
 simp only [has_eq hf,d36,rin,xY]
 rw [rv1,rv2,rv3]
 simp only [jn,xY,fmk,nmk,tmk,amk,bmk,hs]
 generalize (((decide (110∈f)==a2x c.Name 12)&&(decide (110∈f)||decide (c.Name=[])))&&((decide (111∈f)==a2x c.Other 12)&&(decide (111∈f)||decide (c.Other=[]))))=x1
 generalize ((decide (0≤c.Time)&&decide (c.Time≤999999))&&(decide (116∈f)||decide (c.Time=0)))=x2
 generalize (bif decide (112∈f) then (decide (0≤c.A)&&decide (c.A≤15)) else bif decide (99∈f) then (decide (0≤c.A)&&decide (c.A≤63)) else decide (c.A=0))=x3
 cases x1<;>cases x2<;>cases x3<;>simp [Fl.elim]<;>cases decide (113∈f)<;>cases decide (117∈f)<;>rfl
theorem g06 (s:Str):nmk true s=a2x s 12:=by unfold nmk;cases a2x s 12<;>rfl
theorem g07 (s:Str):nmk false s=decide (s=[]):=by
 unfold nmk
 by_cases h:s=[]
 ·subst h;rfl
 ·rw [wE h];simp
theorem f8l (t:Int):tmk true t=rgb t 1000000:=by unfold tmk rgb;rw [rlt (m:=999999) rfl];simp
theorem f8m (t:Int):tmk false t=decide (t=0):=by
 unfold tmk
 by_cases h:t=0
 ·subst h;rfl
 ·rw [wE h];simp
theorem g0u (c:Bool) (a:Int):amk true c a=rgb a 16:=by unfold amk rgb;rw [rlt (m:=15) rfl];rfl
theorem g0w (a:Int):amk false true a=rgb a 64:=by unfold amk rgb;rw [rlt (m:=63) rfl];rfl
theorem g0v (a:Int):amk false false a=decide (a=0):=rfl
theorem g0m (c:Bool) (a:Int):bmk true c a=rgb a 16:=by unfold bmk rgb;rw [rlt (m:=15) rfl];rfl
theorem g0l (a:Int):bmk false true a=rgb a 1000000:=by unfold bmk rgb;rw [rlt (m:=999999) rfl];rfl
theorem g0n (a:Int):bmk false false a=decide (a=0):=rfl
theorem b81 (k:Int) (h0:1≤k) (h1:k≤11):(b3r k).length≤3:=by
 rcases kinds h0 h1 with h|h|h|h|h|h|h|h|h|h|h<;>subst h<;>decide
theorem b05 (c:d9):F_g c=some (a1n c):=by
 by_cases h0:1≤c.Kind
 ·by_cases h1:c.Kind≤11
  ·rw [d9h c h0 h1 (by have:=b81 _ h0 h1;omega)]
   obtain ⟨K,N,O,T,A,B⟩:=c
   simp only at h0 h1 ⊢
   rcases kinds h0 h1 with h|h|h|h|h|h|h|h|h|h|h<;>subst h <;>
    simp [fmk,b3r,hs,g06,g07,f8l,f8m,g0u,g0w,g0v,g0m,g0l,g0n,a1n,kindOf,a4z,c6s,Fd.ok,Fd.zero,b73,List.getD_cons_succ,List.getD_cons_zero] <;>
    ac_rfl
  ·have e2:decide (c.Kind≤11)=false:=wE h1
   unfold F_g
   rw [rin,xY,e2];simp [a1n,e2]
 ·have e1:decide (1≤c.Kind)=false:=wE h0
  unfold F_g
  rw [rin,xY,e1];simp [a1n,e1]
set_option maxRecDepth 20000
theorem b45:∀(x:List d9) (k:Int),forL f6v x k ()=some (bif x.all a1n then .nx () else .ex 45)
 | [],_=>rfl
 | c::r,k=>by
  simp only [forL,f6v,b05,xY,List.all_cons]
  cases a1n c with
  | false=>rfl
  | true=>exact b45 r (k+1)
theorem c8q (x:List d9):e5x x=some (c0g x):=by
 unfold e5x c0g
 cases decide (60<(x.length:Int)) with
 | true=>rfl
 | false =>
  rw [b45]
  cases x.all a1n<;>rfl
theorem b1y {α β:Type} {v:α} {f:α→Option β}:jn (some v) f=f v:=rfl
def sg (c:d9) (b:UInt8):Str:=if b=116 then Lib.itoa c.Time else if b=110 then c.Name else if b=111 then c.Other else if b=112∨b=99 then Lib.itoa c.A else Lib.itoa c.B
theorem e7g {c:d9} (h:VC c) (b:UInt8):(sg c b).length≤21:=by
 have h1:=Lib.itoa_length_le c.Time (by have:=h.t;omega) (by have:=h.t;omega)
 have h2:=Lib.itoa_length_le c.A (by have:=h.a;omega) (by have:=h.a;omega)
 have h3:=Lib.itoa_length_le c.B (by have:=h.b;omega) (by have:=h.b;omega)
 have h4:=h.n
 have h5:=h.o
 unfold sg
 split
 ·omega
 ·split
  ·omega
  ·split
   ·omega
   ·split<;>omega
theorem d13 (a b:UInt8):decide ((a.toNat:Int)=(b.toNat:Int))=decide (a=b):=by
 rw [decide_eq_decide]
 constructor
 ·intro h;exact UInt8.toNat_inj.1 (by omega)
 ·intro h;rw [h]
theorem e1f {c:d9} {a:UInt8} {s:Str} (hs:(sg c a).length≤21) (k1:∀z:Str,z.length≤21→chk (a4m ([32].length+z.length)) (chk (a4m (s.length+(([32]:Str)++z).length)) (some (s++(([32]:Str)++z))))=some (s++(32::z))):(bif decide (a=116) then chk (a4m ([32].length+(Lib.itoa c.Time).length)) (chk (a4m (s.length+(([32]:Str)++Lib.itoa c.Time).length)) (some (s++(([32]:Str)++Lib.itoa c.Time)))) else bif decide (a=110) then chk (a4m ([32].length+c.Name.length)) (chk (a4m (s.length+(([32]:Str)++c.Name).length)) (some (s++(([32]:Str)++c.Name)))) else bif decide (a=111) then chk (a4m ([32].length+c.Other.length)) (chk (a4m (s.length+(([32]:Str)++c.Other).length)) (some (s++(([32]:Str)++c.Other)))) else jn (α:=Bool) (bif decide (a=112) then some true else some (decide (a=99))) fun j48=>bif j48 then chk (a4m ([32].length+(Lib.itoa c.A).length)) (chk (a4m (s.length+(([32]:Str)++Lib.itoa c.A).length)) (some (s++(([32]:Str)++Lib.itoa c.A)))) else chk (a4m ([32].length+(Lib.itoa c.B).length)) (chk (a4m (s.length+(([32]:Str)++Lib.itoa c.B).length)) (some (s++(([32]:Str)++Lib.itoa c.B)))))=some (s++(32::sg c a)):=by
 unfold sg at hs ⊢
 by_cases q1:a=116
 ·rw [if_pos q1] at hs ⊢;rw [wR q1,vN,k1 _ hs]
 ·rw [if_neg q1] at hs ⊢;rw [wE q1,vL]
  by_cases q2:a=110
  ·rw [if_pos q2] at hs ⊢;rw [wR q2,vN,k1 _ hs]
  ·rw [if_neg q2] at hs ⊢;rw [wE q2,vL]
   by_cases q3:a=111
   ·rw [if_pos q3] at hs ⊢;rw [wR q3,vN,k1 _ hs]
   ·rw [if_neg q3] at hs ⊢;rw [wE q3,vL]
    by_cases q4:a=112
    ·rw [if_pos (.inl q4)] at hs ⊢;rw [wR q4,vN];simp only [jn,xY,vN];rw [k1 _ hs]
    ·by_cases q5:a=99
     ·rw [if_pos (.inr q5)] at hs ⊢;rw [wE q4,vL,wR q5];simp only [jn,xY,vN];rw [k1 _ hs]
     ·rw [if_neg (by simp [q4,q5])] at hs ⊢;rw [wE q4,vL,wE q5];simp only [jn,xY,vL];rw [k1 _ hs]
theorem c9o {c:d9} (h:VC c) (f:Str) (hf:f.length≤1000):∀(r pre s:Str),f=pre++r→s.length+22*r.length≤100000→loop (e4j c f) (s,(pre.length:Int))=some (s++r.flatMap fun b=>32::sg c b)
 | [],pre,s,e,_=>by
  have st:e4j c f (s,(pre.length:Int))=some (.ex s):=by
   unfold e4j
   simp only
   rw [wE (by subst e;simp)];rfl
  rw [a1t,st]
  simp [Fl.elim]
 | a::r,pre,s,e,hl=>by
  have hpl:pre.length<f.length:=by subst e;simp
  have hg:f.getD ((pre.length:Int)).toNat 0=a:=by subst e;simp [zE]
  have hb:inb (pre.length:Int) f.length=true:=p8.2 (by omega)
  simp only [x5] at hl
  have hs:=e7g h a
  have ih:=c9o h f hf r (pre++[a]) (s++(32::sg c a)) (by simp [e]) (by simp only [xI,x5];omega)
  obtain ⟨n1,n2,n3⟩:=h.num
  have i1:a5l c.Time=some (Lib.itoa c.Time):=o5 n1
  have i2:a5l c.A=some (Lib.itoa c.A):=o5 n2
  have i3:a5l c.B=some (Lib.itoa c.B):=o5 n3
  have k1:∀z:Str,z.length≤21→chk (a4m ([32].length+z.length)) (chk (a4m (s.length+(([32]:Str)++z).length)) (some (s++(([32]:Str)++z))))=some (s++(32::z)):=fun z hz=>by
   rw [o5 (a1c.2 (by simp only [x5,wK];omega)),o5 (a1c.2 (by simp only [xI,x5,wK];omega))];rfl
  have st:e4j c f (s,(pre.length:Int))=some (.nx (s++(32::sg c a),(pre.length:Int)+1)):=by
   unfold e4j
   simp only
   rw [wR (by omega),vN,hg,o5 hb]
   have c1:decide ((a.toNat:Int)=116)=decide (a=116):=d13 a 116
   have c2:decide ((a.toNat:Int)=110)=decide (a=110):=d13 a 110
   have c3:decide ((a.toNat:Int)=111)=decide (a=111):=d13 a 111
   have c4:decide ((a.toNat:Int)=112)=decide (a=112):=d13 a 112
   have c5:decide ((a.toNat:Int)=99)=decide (a=99):=d13 a 99
   rw [c1,c2,c3,c4,c5,i1,i2,i3]
   simp only [xY]
   have hm:=e1f hs k1
   rw [hm,b1y]
   exact o5 (x8.2 (by omega))
  rw [a1t,st]
  simp only [xY,Fl.elim]
  have e2:((pre.length:Int)+1)=((pre++[a]).length:Int):=by simp
  rw [e2,ih];simp
theorem b7t (l:List Str):Lib.joinTail [32] l=l.flatMap fun w=>32::w:=by
 unfold Lib.joinTail;rw [List.flatMap_def];rfl
theorem d4c {c:d9} (h:VC c):lnC c=((kindOf c.Kind).1++(b3r c.Kind).flatMap fun b=>32::sg c b)++[10]:=by
 have hj:bdC c=(kindOf c.Kind).1++Lib.joinTail [32] ((kindOf c.Kind).2.map (Fd.get c)):=Lib.join_cons _ _ _
 rw [a7y,hj,b7t]
 congr 2
 rcases kinds h.k0 h.k1 with e|e|e|e|e|e|e|e|e|e|e<;>rw [e]<;>rfl
theorem c79 {k:Int} (h0:1≤k) (h1:k≤11):([[112,101,114,115,111,110],[103,114,111,117,112],[106,111,105,110],[108,101,97,118,101],[97,108,108,111,119],[102,111,114,98,105,100],[111,112,101,110],[112,117,116],[99,111,112,121],[119,104,111],[115,105,110,99,101]]:List Str).getD (k - 1).toNat default=(kindOf k).1:=by
 rcases kinds h0 h1 with h|h|h|h|h|h|h|h|h|h|h<;>subst h<;>rfl
theorem b7j {c:d9} (h:VC c):F_o c=some (lnC c):=by
 have h0:=h.k0
 have h1:=h.k1
 have h3:=b81 c.Kind h0 h1
 have hw:=b4p c.Kind
 have hl:=a8e h
 have e:=d4c h
 have el:=congrArg List.length e
 rw [a7y] at el
 simp only [xI,x5,wK] at el
 unfold F_o e3x
 simp only [xY]
 rw [o5 (x8.2 (by omega)),o5 (p8.2 (by omega)),a6k (by omega) h1,xY,c79 h0 h1]
 have:=c9o h (b3r c.Kind) (by omega) (b3r c.Kind) [] (kindOf c.Kind).1 rfl (by omega)
 simp only [wK,Int.natCast_zero] at this
 rw [this,xY,o5 (a1c.2 (by simp only [xI,x5,wK];omega)),←e]
def d7h (x:List d9):Str×Int:=if c0g x=0 then (txC x,0) else ([],c0g x)
theorem e3v (x:List d9):e4z x=some (d7h x):=by
 unfold d7h
 by_cases h:c0g x=0
 ·rw [if_pos h];exact d1x (b2c h)
 ·rw [if_neg h];unfold e4z;rw [d7o,xY,wE h];rfl
theorem c8j:∀(x:List d9) (k:Int) (s:Str),(∀c∈x,VC c)→s.length+89*x.length≤100000→foldL f6u x k s=some (s++txC x)
 | [],_,s,_,_=>by simp [foldL,txC]
 | c::r,k,s,h,hl=>by
  simp only [x5] at hl
  have hb:=a8e (h c (by simp))
  have hn:(lnC c).length≤89:=by rw [a7y];simp;omega
  simp only [foldL,f6u,b7j (h c (by simp)),xY]
  rw [o5 (a1c.2 (by omega)),xY,c8j r _ _ (fun c hc=>h c (xB _ hc)) (by rw [xI];omega)]
  simp [txC]
theorem d3b (x:List d9):f3n x=some (d7h x):=by
 unfold d7h f3n
 rw [c8q,xY]
 by_cases h:c0g x=0
 ·rw [if_pos h,wR h,wY,vL]
  have sc:=b2c h
  have hn:=sc.n
  rw [c8j x 0 [] sc.vc (by simp;omega)];rfl
 ·rw [if_neg h,wE h];rfl
theorem d55 (x:List d9):(d7h x).1.length≤89*60:=by
 unfold d7h
 by_cases h:c0g x=0
 ·rw [if_pos h]
  have sc:=b2c h
  have:=d6n x sc.vc
  have hn:=sc.n
  simp only;omega
 ·rw [if_neg h];simp
end Go.Ab
set_option maxRecDepth 20000
namespace Go.Ab
open Go.Proofs Classical
theorem c3r (v:Str):∀(s:List Str) (k:Int),forL (f6t v) s k ()=some (match c66 v s k with|some j=>.ex j|none=>.nx ())
 | [],_=>rfl
 | a::r,k=>by
  simp only [forL,f6t,c66]
  by_cases h:v=a
  ·rw [wR h,wR h.symm];rfl
  ·rw [wE h,wE (fun e=>h e.symm)]
   exact c3r v r (k+1)
theorem a8l (s:List Str) (v:Str):F_x s v=some (b8m s v):=by
 unfold F_x b8m
 rw [c3r]
 cases c66 v s 0<;>rfl
theorem b7v {s:List Str} {v:Str}:0≤b8m s v↔v∈s:=by
 constructor
 ·intro h
  exact Classical.byContradiction fun hn=>by rw [c4d hn] at h;omega
 ·intro h
  obtain ⟨i,e,_⟩:=d05 h
  omega
theorem d9x {k:Int} (h:k=1∨k=2):(([0,1,2]:List Int).getD k.toNat default)=k:=by
 rcases h with rfl|rfl<;>rfl
theorem d3j (c:d9) (r:List d9):nms (c::r)=(if isN c=true then [c.Name] else [])++nms r:=by
 unfold nms;by_cases h:isN c=true
 ·simp [h]
 ·simp [h]
theorem d4e (c:d9) (r:List d9):kds (c::r)=(if isN c=true then [c.Kind] else [])++kds r:=by
 unfold kds;by_cases h:isN c=true
 ·simp [h]
 ·simp [h]
theorem rm1:∀(l:List d9) (k:Int) (ks:List Int) (ns:List Str),(∀c∈l,VC c)→ns.Nodup→ks.length+l.length≤1000→ns.length+l.length≤1000 →
  forL f7r l k (ks,ns)=some (if (ns++nms l).Nodup then .nx (ks++kds l,ns++nms l) else .ex (bad 7))
 | [],k,ks,ns,_,hn,_,_=>by simp [forL,nms,kds,hn]
 | c :: r,k,ks,ns,hv,hn,h1,h2=>by
  simp only [x5] at h1 h2
  have hc:=hv c (by simp)
  have h0:=hc.k0
  have hr:=fun d hd=>hv d (xB c hd)
  simp only [forL,f7r]
  rw [d3j,d4e]
  by_cases h:c.Kind≤2
  ·have hN:isN c=true:=by simp [isN];omega
   rw [wE (by omega),vL,a8l,xY,if_pos hN,if_pos hN]
   by_cases hm:c.Name∈ns
   ·rw [wR (b7v.2 hm),vN,if_neg]
    ·rfl
    ·intro hh
     have:=(List.nodup_append.1 hh).2.2 c.Name hm c.Name (by simp)
     exact this rfl
   ·rw [wE (fun e=>hm (b7v.1 e)),vL,d9x (by omega),o5 (a0z.2 (by simp only [x5,wK];omega)),o5 (p8.2 (by omega)),o5 (a0z.2 (by simp only [x5,wK];omega))]
    simp only [xY,Fl.elim]
    rw [rm1 r (k+1) (ks++[c.Kind]) (ns++[c.Name]) hr (by
     rw [List.nodup_append]
     exact ⟨hn,by simp,fun a ha b hb e=>by simp at hb;subst hb;subst e;exact hm ha⟩) (by simp;omega) (by simp;omega)]
    simp only [List.append_assoc]
  ·have hN:isN c=false:=by simp [isN];omega
   have q:¬isN c=true:=by simp [hN]
   rw [wR (by omega),vN]
   simp only [if_neg q,xY,Fl.elim,wH]
   exact rm1 r (k+1) ks ns hr hn (by omega) (by omega)
theorem e7x {s:List Str} {v:Str}:decide (b8m s v<0)=!decide (v∈s):=by
 by_cases h:v∈s
 ·rw [wR h,wE (by have:=b7v.2 h;omega)];rfl
 ·rw [wE h,wR (by have:¬0≤b8m s v:=fun e=>h (b7v.1 e);omega)];rfl
theorem rm2 (y:List Int×List Str):∀(l:List d9) (k:Int),forL (f5e y) l k ()=some (bif l.any (a7w y.2) then .ex (bad 6) else .nx ())
 | [],_=>rfl
 | c::r,k=>by
  have st:f5e y k c ()=some (bif a7w y.2 c then .ex (bad 6) else .nx ()):=by
   unfold f5e a7w
   rw [a8l,a8l]
   simp only [xY,e7x]
   cases decide (c.Name=[])<;>cases decide (c.Other=[])<;>cases decide (c.Name∈y.2)<;>cases decide (c.Other∈y.2)<;>rfl
  simp only [forL,st,xY,List.any_cons]
  cases a7w y.2 c with
  | true=>rfl
  | false=>exact rm2 y r (k+1)
theorem d72 {ks:List Int} {A B:List a01} {x:a01} (hA:∀a∈A,a.Time≤x.Time) (hB:∀b∈B,x.Time<b.Time) (hl:A.length+B.length≤1000) :
  ∀n:Nat,n≤B.length→loop (e4f ⟨ks,A++B⟩ x) ((A.length+n:Nat):Int)=some (A.length:Int)
 | 0,_=>by
  have st:e4f ⟨ks,A++B⟩ x ((A.length+0:Nat):Int)=some (.ex (A.length:Int)):=by
   unfold e4f
   by_cases q:0<A.length
   ·have hg:(A++B).getD (((A.length+0:Nat):Int) - 1).toNat default=A[A.length - 1]:=by
     rw [show (((A.length+0:Nat):Int) - 1).toNat=A.length - 1 by omega,zE,zH (by omega),zJ (by omega)];rfl
    have ht:=hA _ (x6 (show A.length - 1<A.length by omega))
    rw [wR (by omega),vN,o5 (x8.2 (by omega)),o5 (p8.2 (by simp only [xI];omega)),hg,wE (by omega),vL];rfl
   ·rw [wE (by omega),vL];rfl
  rw [a1t,st];rfl
 | n+1,hn=>by
  have st:e4f ⟨ks,A++B⟩ x ((A.length+(n+1):Nat):Int)=some (.nx ((A.length+n:Nat):Int)):=by
   unfold e4f
   have hg:(A++B).getD (((A.length+(n+1):Nat):Int) - 1).toNat default=B[n]:=by
    rw [show (((A.length+(n+1):Nat):Int) - 1).toNat=A.length+n by omega,zE,zD (by omega),Nat.add_sub_cancel_left,zJ (by omega)];rfl
   have ht:=hB _ (x6 (show n<B.length by omega))
   rw [wR (by omega),vN,o5 (x8.2 (by omega)),o5 (p8.2 (by simp only [xI];omega)),hg,wR ht,vN,o5 (x8.2 (by omega))]
   congr 3;omega
  rw [a1t,st]
  exact d72 hA hB hl n (by omega)
theorem c5x {ks:List Int} {A B:List a01} {x:a01} (hA:∀a∈A,a.Time≤x.Time) (hB:∀b∈B,x.Time<b.Time) (hl:A.length+B.length≤1000) :
  e4w ⟨ks,A++B⟩ x=some ⟨ks,A++x::B⟩:=by
 have h:=d72 (ks:=ks) hA hB hl B.length (vI _)
 unfold e4w
 simp only
 rw [show ((A++B).length:Int)=((A.length+B.length:Nat):Int) by simp,h,xY]
 have hn:((A.length:Int)).toNat=A.length:=by omega
 have e1:(A++B).drop A.length=B:=List.drop_left
 have e2:(A++B).take A.length=A:=List.take_left
 have e3:B.take ((A++B).length - A.length)=B:=by rw [zP];simp
 rw [hn,e1,e2,e3,o5 (a1u.2 ⟨by omega,by omega,by simp only [xI];omega⟩),o5 (a1u.2 ⟨by omega,by omega,by simp only [xI];omega⟩),
  o5 (a0z.2 (by simp only [x5,wK];omega)),o5 (b03.2 ⟨by simp only [xI];omega,by simp only [xI,x5,wK];omega⟩)]
 rfl
theorem d7j {p:Int} {A B:List o6} {x:o6} (hA:∀a∈A,a.Time≤x.Time) (hB:∀b∈B,x.Time<b.Time) (hl:A.length+B.length≤1000) :
  ∀n:Nat,n≤B.length→loop (e4e ⟨p,A++B⟩ x) ((A.length+n:Nat):Int)=some (A.length:Int)
 | 0,_=>by
  have st:e4e ⟨p,A++B⟩ x ((A.length+0:Nat):Int)=some (.ex (A.length:Int)):=by
   unfold e4e
   by_cases q:0<A.length
   ·have hg:(A++B).getD (((A.length+0:Nat):Int) - 1).toNat default=A[A.length - 1]:=by
     rw [show (((A.length+0:Nat):Int) - 1).toNat=A.length - 1 by omega,zE,zH (by omega),zJ (by omega)];rfl
    have ht:=hA _ (x6 (show A.length - 1<A.length by omega))
    rw [wR (by omega),vN,o5 (x8.2 (by omega)),o5 (p8.2 (by simp only [xI];omega)),hg,wE (by omega),vL];rfl
   ·rw [wE (by omega),vL];rfl
  rw [a1t,st];rfl
 | n+1,hn=>by
  have st:e4e ⟨p,A++B⟩ x ((A.length+(n+1):Nat):Int)=some (.nx ((A.length+n:Nat):Int)):=by
   unfold e4e
   have hg:(A++B).getD (((A.length+(n+1):Nat):Int) - 1).toNat default=B[n]:=by
    rw [show (((A.length+(n+1):Nat):Int) - 1).toNat=A.length+n by omega,zE,zD (by omega),Nat.add_sub_cancel_left,zJ (by omega)];rfl
   have ht:=hB _ (x6 (show n<B.length by omega))
   rw [wR (by omega),vN,o5 (x8.2 (by omega)),o5 (p8.2 (by simp only [xI];omega)),hg,wR ht,vN,o5 (x8.2 (by omega))]
   congr 3;omega
  rw [a1t,st]
  exact d7j hA hB hl n (by omega)
theorem d0k {p:Int} {A B:List o6} {x:o6} (hA:∀a∈A,a.Time≤x.Time) (hB:∀b∈B,x.Time<b.Time) (hl:A.length+B.length≤1000) :
  e6q ⟨p,A++B⟩ x=some ⟨p,A++x::B⟩:=by
 have h:=d7j (p:=p) hA hB hl B.length (vI _)
 unfold e6q
 simp only
 rw [show ((A++B).length:Int)=((A.length+B.length:Nat):Int) by simp,h,xY]
 have hn:((A.length:Int)).toNat=A.length:=by omega
 have e1:(A++B).drop A.length=B:=List.drop_left
 have e2:(A++B).take A.length=A:=List.take_left
 have e3:B.take ((A++B).length - A.length)=B:=by rw [zP];simp
 rw [hn,e1,e2,e3,o5 (a1u.2 ⟨by omega,by omega,by simp only [xI];omega⟩),o5 (a1u.2 ⟨by omega,by omega,by simp only [xI];omega⟩),
  o5 (a0z.2 (by simp only [x5,wK];omega)),o5 (b03.2 ⟨by simp only [xI];omega,by simp only [xI,x5,wK];omega⟩)]
 rfl
theorem c7r:∀(p:List d9) (t:Int),byT p→∃p1 p2,p1++p2=p∧(∀x∈p1,x.Time≤t)∧∀x∈p2,t<x.Time
 | [],_,_=>⟨[],[],rfl,by simp,by simp⟩
 | a::r,t,h=>by
  have h':=List.pairwise_cons.1 h
  by_cases q:a.Time≤t
  ·obtain ⟨p1,p2,e,h1,h2⟩:=c7r r t h'.2
   exact ⟨a::p1,p2,by rw [←e];rfl,fun x hx=>by
    rcases wV.1 hx with rfl|hx
    ·exact q
    ·exact h1 x hx,h2⟩
  ·exact ⟨[],a::r,rfl,by simp,fun x hx=>by
    rcases wV.1 hx with rfl|hx
    ·omega
    ·have:=h'.1 x hx;omega⟩
theorem c2g (ns:List Str) (a b:List d9):evD ns (a++b)=evD ns a++evD ns b:=by unfold evD;rw [List.filter_append,List.map_append]
theorem c2h (ns:List Str) (a b:List d9):evA ns (a++b)=evA ns a++evA ns b:=by unfold evA;rw [List.filter_append,List.map_append]
theorem d0n (ns:List Str) (a:List d9):(evD ns a).length≤a.length:=by unfold evD;rw [wL];exact List.length_filter_le _ _
theorem d0p (ns:List Str) (a:List d9):(evA ns a).length≤a.length:=by unfold evA;rw [wL];exact List.length_filter_le _ _
theorem d0m {ns:List Str} {a:List d9} {e:a01} (h:e∈evD ns a):∃c∈a,e.Time=c.Time:=by
 obtain ⟨c,hc,rfl⟩:=vD.1 h
 exact ⟨c,(wI.1 hc).1,rfl⟩
theorem d0o {ns:List Str} {a:List d9} {e:o6} (h:e∈evA ns a):∃c∈a,e.Time=c.Time:=by
 obtain ⟨c,hc,rfl⟩:=vD.1 h
 exact ⟨c,(wI.1 hc).1,d1n ns c⟩
theorem d5c (ns:List Str) (c:d9) (r:List d9):evD ns (c::r)=if isD c=true then e84 ns c::evD ns r else evD ns r:=by
 unfold evD;by_cases h:isD c=true<;>simp [h]
theorem d5d (ns:List Str) (c:d9) (r:List d9):evA ns (c::r)=if isA c=true then e3q ns c::evA ns r else evA ns r:=by
 unfold evA;by_cases h:isA c=true<;>simp [h]
theorem d37 {y:List Int×List Str} {c:d9} {p1 p2:List d9} (k:Int) (hc:VC c) (h1:∀x∈p1,x.Time≤c.Time) (h2:∀x∈p2,c.Time<x.Time) (hl:p1.length+p2.length≤900) (p:Int) (ks:List Int) :
  e6p y k c (p,evA y.2 (p1++p2),ks,evD y.2 (p1++p2))=some (p,evA y.2 (p1++c::p2),ks,evD y.2 (p1++c::p2)):=by
 have lA1:=d0p y.2 p1
 have lA2:=d0p y.2 p2
 have lD1:=d0n y.2 p1
 have lD2:=d0n y.2 p2
 have mD:∀x:a01,x.Time=c.Time→e4w ⟨ks,evD y.2 (p1++p2)⟩ x=some ⟨ks,evD y.2 p1++x::evD y.2 p2⟩:=fun x hx=>by
  rw [c2g]
  exact c5x (fun a ha=>by obtain ⟨d,hd,e⟩:=d0m ha;have:=h1 d hd;omega) (fun a ha=>by obtain ⟨d,hd,e⟩:=d0m ha;have:=h2 d hd;omega) (by omega)
 have mA:∀x:o6,x.Time=c.Time→e6q ⟨p,evA y.2 (p1++p2)⟩ x=some ⟨p,evA y.2 p1++x::evA y.2 p2⟩:=fun x hx=>by
  rw [c2h]
  exact d0k (fun a ha=>by obtain ⟨d,hd,e⟩:=d0o ha;have:=h1 d hd;omega) (fun a ha=>by obtain ⟨d,hd,e⟩:=d0o ha;have:=h2 d hd;omega) (by omega)
 have eD:evD y.2 (p1++c::p2)=evD y.2 p1++(if isD c=true then e84 y.2 c::evD y.2 p2 else evD y.2 p2):=by rw [c2g,d5c]
 have eA:evA y.2 (p1++c::p2)=evA y.2 p1++(if isA c=true then e3q y.2 c::evA y.2 p2 else evA y.2 p2):=by rw [c2h,d5d]
 have eD0:=c2g y.2 p1 p2
 have eA0:=c2h y.2 p1 p2
 unfold e6p
 rw [a8l,a8l,xY]
 simp only [xY]
 rw [eD,eA]
 rw [eD0] at mD
 rw [eA0] at mA
 rcases kinds hc.k0 hc.k1 with h|h|h|h|h|h|h|h|h|h|h <;>
  simp [jn,h,isD,isA,mD,mA,e84,e3q,Fl.elim,eD0,eA0]
theorem rm3 {y:List Int×List Str} (p:Int) (ks:List Int):∀(l q r:List d9) (k:Int),(∀c∈l,VC c)→Srt q r→r.length+l.length≤900 →
  ∃r',foldL (e6p y) l k (p,evA y.2 r,ks,evD y.2 r)=some (p,evA y.2 r',ks,evD y.2 r')∧Srt (q++l) r'
 | [],q,r,k,_,hs,_=>⟨r,rfl,by rw [wO];exact hs⟩
 | c::l,q,r,k,hv,hs,hl=>by
  simp only [x5] at hl
  obtain ⟨p1,p2,e,h1,h2⟩:=c7r r c.Time hs.s
  subst e
  simp only [xI] at hl
  have hs':=hs.ins rfl h1 h2
  obtain ⟨r',e',h'⟩:=rm3 p ks l (q++[c]) (p1++c::p2) (k+1) (fun d hd=>hv d (xB _ hd)) hs' (by simp only [xI,x5];omega)
  refine ⟨r',?_,by rw [List.append_assoc] at h';exact h'⟩
  simp only [foldL]
  rw [d37 k (hv c (by simp)) h1 h2 (by omega),xY]
  exact e'
theorem d6z (x:List d9):F_h x=some (mkX x):=by
 unfold F_h mkX
 rw [c8q,xY]
 by_cases h0:c0g x=0
 ·rw [if_neg (fun h=>h h0),wR h0,wY,vL]
  have sc:=b2c h0
  have hn:=sc.n
  obtain ⟨es,hs⟩:=sc.srt
  rw [rm1 x 0 [] [] sc.vc List.nodup_nil (by simp;omega) (by simp;omega)]
  simp only [wH,xY]
  by_cases h1:(nms x).Nodup
  ·rw [if_pos h1,if_neg (fun h=>h h1)]
   simp only [Fl.elim]
   rw [rm2]
   cases h2:x.any (a7w (nms x)) with
   | true=>rw [if_pos rfl];rfl
   | false =>
    rw [if_neg (by simp)]
    simp only [vL,xY]
    by_cases h3:24<(nms x).length
    ·rw [if_pos h3,wR (by omega)];rfl
    ·rw [if_neg h3,wE (by omega),vL]
     obtain ⟨r',e',h'⟩:=rm3 (y:=(kds x,nms x)) 16 (kds x) x [] [] 0 sc.vc ⟨List.Pairwise.nil,fun t=>rfl,List.Perm.refl _⟩ (by simp;omega)
     rw [wH] at h'
     have er:r'=srt x:=h'.uniq hs fun t=>rfl
     subst er
     have e0:foldL (e6p (kds x,nms x)) x 0 (16,[],kds x,[])=_:=e'
     rw [e0,xY]
     simp only
     rw [show F_d ⟨kds x,evD (nms x) (srt x)⟩=_ from d0t (mkD x),xY]
     by_cases h4:a2c (mkD x)
     ·rw [wR h4,if_neg (fun h=>h h4)]
      simp only [wY,vL]
      rw [show F_n ⟨16,evA (nms x) (srt x)⟩=_ from valid_eq (mkE x),xY]
      by_cases h5:Good (mkE x)
      ·rw [wR h5,if_neg (fun h=>h h5)];rfl
      ·rw [wE h5,if_pos h5];rfl
     ·rw [wE h4,if_pos h4];rfl
  ·rw [if_neg h1,if_pos h1];rfl
 ·rw [if_pos h0,wE h0];rfl
end Go.Ab
set_option maxRecDepth 20000
namespace Go.Ab
open Go.Proofs
noncomputable section
structure GX (x:List d9):Prop where
 sc:Sc x
 few:(nms x).length≤24
 miss:x.any (a7w (nms x))=false
 gd:a2c (mkD x)
 ga:Good (mkE x)
theorem d7b (x:List d9):(kds x).length=(nms x).length:=by simp [kds,nms]
def e5b (x:List d9) (c:d9):Str :=
 (bif (lkf c.A c.Time (mkE x).Events 0 (0,false)).2 then [112,117,98,108,105,99] else [105,110,115,105,100,101])++(c42 (mkD x) (mkE x) c.A c.Time).flatMap fun p=>32::(nms x).getD p.toNat default
def e7e (x:List d9) (c:d9):Str:=match sin (mkD x) (mkE x) c.A (b8m (nms x) c.Name) with
 | some t=>Lib.itoa t
 | none=>[110,101,118,101,114]
def ans (x:List d9) (c:d9):Str :=
 bif decide (c.Kind=10) then e5b x c++[10] else bif decide (c.Kind=11) then e7e x c++[10] else []
theorem a7u {x:List d9} (h:GX x) (i:Nat):((nms x).getD i default).length≤12:=by
 by_cases hi:i<(nms x).length
 ·rw [zE,zJ hi]
  have hm:(nms x)[i]∈nms x:=x6 hi
  obtain ⟨c,hc,e⟩:=vD.1 hm
  have:=(h.sc.vc c (wI.1 hc).1).n
  simp only [xX]
  rw [←e];exact this
 ·rw [zE,List.getElem?_eq_none (by omega)]
  exact vG _
theorem c7b (ns:List Str) (hn:∀i:Nat,(ns.getD i default).length≤12):∀(ps:List Int) (k:Int) (s:Str),(∀p∈ps,0≤p∧p<ns.length)→s.length+13*ps.length≤100000 →
  foldL (e6h ns) ps k s=some (s++ps.flatMap fun p=>32::ns.getD p.toNat default)
 | [],_,s,_,_=>by simp [foldL]
 | p::r,k,s,h,hl=>by
  simp only [x5] at hl
  have hp:=h p (by simp)
  have h1:=hn p.toNat
  simp only [foldL,e6h]
  rw [o5 (p8.2 ⟨hp.1,by omega⟩),o5 (a1c.2 (by simp only [x5,wK];omega)),o5 (a1c.2 (by simp only [xI,x5,wK];omega)),xY]
  rw [c7b ns hn r _ _ (fun q hq=>h q (xB _ hq)) (by simp only [xI,x5,wK];omega)]
  simp
theorem c9h {d:l8} {a:l9} {pl t:Int}:(∀p∈c42 d a pl t,0≤p∧p<d.Kinds.length)∧(c42 d a pl t).length≤d.Kinds.length:=by
 refine ⟨fun p hp=>?_,?_⟩
 ·have:=(d3n.1 hp).1.1
  exact ⟨this.1,this.2.1⟩
 ·unfold c42
  rw [wL]
  exact vA (List.length_filter_le _ _) (by simp)
theorem d0e (ns:List Str) (hn:∀i:Nat,(ns.getD i default).length≤12):∀ps:List Int,(ps.flatMap fun p=>32::ns.getD p.toNat default).length≤13*ps.length
 | []=>by simp
 | p::r=>by
  have h1:=hn p.toNat
  have ih:=d0e ns hn r
  simp only [xS,xI,x5]
  omega
theorem b74 {x:List d9} (h:GX x) {c:d9} (hA:0≤c.A∧c.A≤15):e3w c (mkD x) (mkE x) (nms x)=some (e5b x c)∧(e5b x c).length≤400:=by
 have hm:=c9h (d:=mkD x) (a:=mkE x) (pl:=c.A) (t:=c.Time)
 have hk:(mkD x).Kinds.length=(nms x).length:=d7b x
 have hf:=h.few
 have hfl:=d0e (nms x) (a7u h) (c42 (mkD x) (mkE x) c.A c.Time)
 constructor
 ·unfold e3w e5b
  rw [e70 h.gd h.ga c.Time hA.1 (by show c.A≤(16:Int) - 1;omega),xY]
  simp only
  cases (lkf c.A c.Time (mkE x).Events 0 (0,false)).2 with
  | true =>
   simp only [vN,jn,xY]
   rw [c7b (nms x) (a7u h) _ _ _ (fun p hp=>by have:=hm.1 p hp;omega) (by simp only [x5,wK];omega)];rfl
  | false =>
   simp only [vL,jn,xY]
   rw [c7b (nms x) (a7u h) _ _ _ (fun p hp=>by have:=hm.1 p hp;omega) (by simp only [x5,wK];omega)];rfl
 ·unfold e5b
  cases (lkf c.A c.Time (mkE x).Events 0 (0,false)).2<;>simp only [vN,vL,xI,x5,wK]<;>omega
theorem b7f {x:List d9} (h:GX x) {c:d9} (hA:0≤c.A∧c.A≤63) :
  ((d2c (nms x) c.Name).bind fun y183=>(d80 (mkD x) (mkE x) c.A y183).bind fun y184=>bif y184.2 then (a5l y184.1).bind fun y185=>some y185 else some [110,101,118,101,114])=some (e7e x c)∧(e7e x c).length≤30:=by
 rw [b3w,xY,d67 h.gd h.ga hA.1 hA.2,xY]
 unfold e7e
 cases hs:sin (mkD x) (mkE x) c.A (b8m (nms x) c.Name) with
 | none=>simp [c69]
 | some t =>
  have hm:t∈tms (mkD x) (mkE x):=List.mem_of_find?_eq_some hs
  have hb:0≤t∧t≤1099511627776:=by
   rcases b7p.1 hm with ⟨e,he,rfl⟩|⟨e,he,rfl⟩
   ·have:=h.ga.ev e he;exact ⟨this.1,this.2.1⟩
   ·have:=h.gd.ev e he;exact ⟨this.2.1,this.2.2.1⟩
  have hi:a0j t=true:=x8.2 (by omega)
  have hl:=Lib.itoa_length_le t (by omega) (by omega)
  have ei:a5l t=some (Lib.itoa t):=o5 hi
  simp only [c69,vN,ei,xY]
  exact ⟨trivial,by omega⟩
set_option maxRecDepth 20000
theorem c2t {c:d9} (h:VC c) (hk:c.Kind=10):0≤c.A∧c.A≤15:=by
 have:=h.ok (.fa 16) (by rw [hk];simp [kindOf,a4z])
 have:=(a99▸this:0≤c.A∧c.A<16)
 omega
theorem c2u {c:d9} (h:VC c) (hk:c.Kind=11):0≤c.A∧c.A≤63:=by
 have:=h.ok (.fa 64) (by rw [hk];simp [kindOf,a4z])
 have:=(a99▸this:0≤c.A∧c.A<64)
 omega
theorem c2v {x:List d9} (h:GX x) {c:d9} (hc:VC c):(ans x c).length≤401:=by
 unfold ans
 by_cases e1:c.Kind=10
 ·have:=(b74 h (c2t hc e1)).2
  rw [wR e1,vN];simp;omega
 ·by_cases e2:c.Kind=11
  ·have:=(b7f h (c2u hc e2)).2
   rw [wE e1,vL,wR e2,vN];simp;omega
  ·rw [wE e1,vL,wE e2];simp
theorem d6u {x:List d9} (h:GX x):∀(l:List d9) (k:Int) (s:Str),(∀c∈l,VC c)→s.length+401*l.length≤1000000 →
  foldL (e4u (mkD x,mkE x,nms x,0)) l k s=some (s++l.flatMap (ans x))
 | [],_,s,_,_=>by simp [foldL]
 | c :: r,k,s,hv,hl=>by
  simp only [x5] at hl
  have hc:=hv c (by simp)
  have ha:=c2v h hc
  have hb:e4u (mkD x,mkE x,nms x,0) k c s=some (s++ans x c):=by
   have bw:∀t:Str,t.length≤401→bws s t=some (s++t):=fun t ht=>by unfold bws;exact o5 (a0z.2 (by omega))
   unfold e4u
   unfold ans at ha ⊢
   by_cases e1:c.Kind=10
   ·obtain ⟨w1,w2⟩:=b74 h (c2t hc e1)
    rw [wR e1] at ha ⊢
    simp only [vN,w1,xY] at ha ⊢
    rw [o5 (a1c.2 (by simp only [x5,wK];omega)),bw _ ha];rfl
   ·by_cases e2:c.Kind=11
    ·obtain ⟨w1,w2⟩:=b7f h (c2u hc e2)
     rw [wE e1,wR e2] at ha ⊢
     simp only [vL,vN] at ha ⊢
     refine (congrArg (fun o=>jn o _) w1).trans ?_
     simp only [jn,xY]
     rw [o5 (a1c.2 (by simp only [x5,wK];omega)),bw _ ha];rfl
    ·rw [wE e1,wE e2];simp
  simp only [foldL,hb,xY]
  rw [d6u h r (k+1) _ (fun c hc=>hv c (xB _ hc)) (by rw [xI];omega)]
  simp
end
end Go.Ab
set_option maxRecDepth 20000
namespace Go.Ab
open Go.Proofs Classical
theorem b9b (x:List d9):(∃e,e≠0∧mkX x=bad e)∨(mkX x=(mkD x,mkE x,nms x,0)∧GX x):=by
 unfold mkX
 by_cases h0:c0g x=0
 ·rw [if_neg (fun h=>h h0)]
  by_cases h1:(nms x).Nodup
  ·rw [if_neg (fun h=>h h1)]
   by_cases h2:x.any (a7w (nms x))=true
   ·exact .inl ⟨6,by omega,by rw [if_pos h2]⟩
   ·rw [if_neg h2]
    by_cases h3:24<(nms x).length
    ·exact .inl ⟨3,by omega,by rw [if_pos h3]⟩
    ·rw [if_neg h3]
     by_cases h4:a2c (mkD x)
     ·rw [if_neg (fun h=>h h4)]
      by_cases h5:Good (mkE x)
      ·rw [if_neg (fun h=>h h5)]
       exact .inr ⟨rfl,b2c h0,by omega,by simpa using h2,h4,h5⟩
      ·exact .inl ⟨34,by omega,by rw [if_pos h5]⟩
     ·exact .inl ⟨30,by omega,by rw [if_pos h4]⟩
  ·exact .inl ⟨7,by omega,by rw [if_pos h1]⟩
 ·exact .inl ⟨c0g x,h0,by rw [if_pos h0]⟩
theorem c83 (ns:List Str) (y:l8×l9×List Str×Int) (hy:y.2.2.1=ns) (hn:∀i:Nat,(ns.getD i default).length≤12):∀(ps:List Int) (k:Int) (s:Str),(∀p∈ps,0≤p∧p<ns.length)→s.length+13*ps.length≤10000000 →
  foldL (e6o y) ps k s=some (s++ps.flatMap fun p=>32::ns.getD p.toNat default)
 | [],_,s,_,_=>by simp [foldL]
 | p::r,k,s,h,hl=>by
  simp only [x5] at hl
  have hp:=h p (by simp)
  have h1:=hn p.toNat
  have st:e6o y k p s=some (s++(([32]:Str)++(ns.getD p.toNat default))):=by
   unfold e6o
   rw [hy,o5 (p8.2 ⟨hp.1,by omega⟩),o5 (a1c.2 (by simp only [x5,wK];omega))]
   exact o5 (a1c.2 (by simp only [xI,x5,wK];omega))
  simp only [foldL,st,xY]
  rw [c83 ns y hy hn r _ _ (fun q hq=>h q (xB _ hq)) (by simp only [xI,x5,wK];omega)]
  simp
theorem d9k {x:List d9} (h:GX x) {c:d9} (hc:VC c) (k:Int) (s:Str) (hs:s.length≤1000000):f4g (mkD x,mkE x,nms x,0) k c s=some (s++ans x c):=by
 have ha:=c2v h hc
 unfold f4g
 unfold ans at ha ⊢
 by_cases e1:c.Kind=10
 ·have hA:=c2t hc e1
  have hm:=c9h (d:=mkD x) (a:=mkE x) (pl:=c.A) (t:=c.Time)
  have hk:(mkD x).Kinds.length=(nms x).length:=d7b x
  have hf:=h.few
  have hw:=(b74 h hA).2
  have hfl:=d0e (nms x) (a7u h) (c42 (mkD x) (mkE x) c.A c.Time)
  rw [wR e1]
  simp only [vN]
  rw [show (e6k (mkD x) (mkE x) c.A c.Time)=_ from d9g h.gd h.ga c.Time hA.1 (by show c.A≤(16:Int) - 1;omega),xY]
  unfold e5b
  have fin:∀w:Str,w.length≤6→((foldL (e6o (mkD x,mkE x,nms x,0)) (c42 (mkD x) (mkE x) c.A c.Time) 0 (s++w)).bind fun x482=>chk (a4m (x482.length+[10].length)) (some (x482++[10])))=some (s++((w++(c42 (mkD x) (mkE x) c.A c.Time).flatMap fun p=>32::(nms x).getD p.toNat default)++[10])):=fun w hw=>by
   rw [c83 (nms x) _ rfl (a7u h) _ _ _ (fun p hp=>by have:=hm.1 p hp;omega) (by simp only [xI];omega),xY]
   refine (o5 (a1c.2 ?_)).trans ?_
   ·simp only [xI,x5,wK];omega
   ·simp
  cases (lkf c.A c.Time (mkE x).Events 0 (0,false)).2 with
  | true =>
   simp only [vN]
   rw [o5 (a1c.2 (by simp only [x5,wK];omega)),b1y]
   exact fin _ (by simp)
  | false =>
   simp only [vL]
   rw [o5 (a1c.2 (by simp only [x5,wK];omega)),b1y]
   exact fin _ (by simp)
 ·rw [wE e1]
  simp only [vL]
  by_cases e2:c.Kind=11
  ·have hA:=c2u hc e2
   have hl:=(b7f h hA).2
   rw [wR e2]
   simp only [vN]
   rw [a8l,xY,show (e6j (mkD x) (mkE x) c.A (b8m (nms x) c.Name))=_ from c8a h.gd h.ga hA.1 hA.2,xY]
   unfold e7e at hl ⊢
   cases hs2:sin (mkD x) (mkE x) c.A (b8m (nms x) c.Name) with
   | none =>
    simp only [c69,vL]
    rw [o5 (a1c.2 (by simp only [x5,wK];omega))];rfl
   | some t =>
    rw [hs2] at hl
    have hm:t∈tms (mkD x) (mkE x):=List.mem_of_find?_eq_some hs2
    have hb:0≤t∧t≤1099511627776:=by
     rcases b7p.1 hm with ⟨e,he,rfl⟩|⟨e,he,rfl⟩
     ·have:=h.ga.ev e he;exact ⟨this.1,this.2.1⟩
     ·have:=h.gd.ev e he;exact ⟨this.2.1,this.2.2.1⟩
    have ei:a5l t=some (Lib.itoa t):=o5 (x8.2 (by omega))
    simp only at hl
    simp only [c69,vN,ei,xY]
    rw [o5 (a1c.2 (by simp only [x5,wK];omega))]
    exact o5 (a1c.2 (by simp only [xI,x5,wK];omega))
  ·rw [wE e2];simp
theorem c8b {x:List d9} (h:GX x):∀(l:List d9) (k:Int) (s:Str),(∀c∈l,VC c)→s.length+401*l.length≤1000000 →
  foldL (f4g (mkD x,mkE x,nms x,0)) l k s=some (s++l.flatMap (ans x))
 | [],_,s,_,_=>by simp [foldL]
 | c::r,k,s,hv,hl=>by
  simp only [x5] at hl
  have ha:=c2v h (hv c (by simp))
  simp only [foldL,d9k h (hv c (by simp)) k s (by omega),xY]
  rw [c8b h r (k+1) _ (fun c hc=>hv c (xB _ hc)) (by rw [xI];omega)]
  simp
noncomputable def f5k (x:List d9):Str×Int:=if (mkX x).2.2.2≠0 then ([],(mkX x).2.2.2) else (x.flatMap (ans x),0)
theorem g8z (x:List d9):F_i x=some (f5k x):=by
 unfold F_i f5k
 rw [f3g,xY]
 rcases b9b x with ⟨e,h0,h⟩|⟨h,hg⟩
 ·rw [h]
  have:(bad e).2.2.2≠0:=h0
  rw [if_pos this,wE this];rfl
 ·rw [h]
  simp only
  rw [if_neg (fun h=>h rfl)]
  simp only [decide_true,wY,vL]
  rw [d6u hg x 0 [] hg.sc.vc (by have:=hg.sc.n;simp;omega)]
  simp [e5u]
theorem g02 (x:List d9):f5c x=some (f5k x):=by
 unfold f5c f5k
 rw [d6z,xY]
 rcases b9b x with ⟨e,h0,h⟩|⟨h,hg⟩
 ·rw [h]
  have:(bad e).2.2.2≠0:=h0
  rw [if_pos this,wE this];rfl
 ·rw [h]
  simp only
  rw [if_neg (fun h=>h rfl)]
  simp only [decide_true,wY,vL]
  rw [c8b hg x 0 [] hg.sc.vc (by have:=hg.sc.n;simp;omega)]
  simp
end Go.Ab
set_option maxRecDepth 20000
namespace Go.Ab
open Go.Proofs
theorem c4b:∀(ks:List (Str×List Fd)) (i j:Int) (w:Str),d4h ks i w=some j→i≤j∧j<i+ks.length
 | [],_,_,_,h=>by cases h
 | k::r,i,j,w,h=>by
  simp only [d4h] at h
  simp only [x5]
  cases hd:decide (k.1=w) with
  | true =>
   rw [hd] at h;simp only [vN] at h
   cases h
   omega
  | false =>
   rw [hd] at h
   simp only [vL] at h
   have:=c4b r (i+1) j w h
   omega
theorem g03 (ws:List Str) (f:Fd) (k:Int) (d:d9) (h0:0≤k) (hl:k+1<ws.length) (hw:∀w∈ws,w.length≤281474976710656):∃o,d2e ws k f.g d=some o∧∀r,o=.ex r→r.2=false:=by
 have hb:inb (k+1) ws.length=true:=p8.2 (by omega)
 have hm:ws.getD (k+1).toNat default∈ws:=by
  rw [zE,zJ (by omega)];exact x6 _
 have ha:c0k (ws.getD (k+1).toNat default)=some (a4c (ws.getD (k+1).toNat default),b0y (ws.getD (k+1).toNat default)):=o5 (wR (hw _ hm))
 generalize ws.getD (k+1).toNat default=w at ha
 unfold d2e
 cases f
 case nm=>exact ⟨.nx ⟨d.Kind,ws.getD (k+1).toNat default,d.Other,d.Time,d.A,d.B⟩,by simp [Fd.g,d6g,o5 hb],fun r h=>by cases h⟩
 case ot=>exact ⟨.nx ⟨d.Kind,d.Name,ws.getD (k+1).toNat default,d.Time,d.A,d.B⟩,by simp [Fd.g,d6h,o5 hb],fun r h=>by cases h⟩
 all_goals
  have ha':c0k (ws.getD (k+1).toNat default)=some (a4c (ws.getD (k+1).toNat default),b0y (ws.getD (k+1).toNat default)):=o5 (wR (hw _ hm))
  simp only [Fd.g,Option.isSome_none,vL]
  rw [o5 hb,ha',xY]
  cases b0y (ws.getD (k+1).toNat default) with
  | false=>exact ⟨_,rfl,fun r h=>by cases h;rfl⟩
  | true=>exact ⟨_,by simp [d6d,d6e,d6f];rfl,fun r h=>by cases h⟩
theorem e7s (ws:List Str) (hw:∀w∈ws,w.length≤281474976710656):∀(fs:List Fd) (k:Int) (d:d9),0≤k→k+fs.length<ws.length→∃o,forL (d2e ws) (fs.map Fd.g) k d=some o∧∀r,o=.ex r→r.2=false
 | [],k,d,_,_=>⟨.nx d,rfl,fun r h=>by cases h⟩
 | f::r,k,d,h0,hl=>by
  simp only [x5] at hl
  obtain ⟨o,e,ho⟩:=g03 ws f k d h0 (by omega) hw
  simp only [wW,forL,e,xY]
  cases o with
  | nx d'=>exact e7s ws hw r (k+1) d' (by omega) (by omega)
  | ex q=>exact ⟨.ex q,rfl,ho⟩
theorem b93 {s:Str} (h:s.length≤1000000):∃c b,F_p s=some (c,b)∧(b=true→a1n c=true∧lnC c=s):=by
 unfold F_p
 have ht:=d2j s
 rw [c7g (by omega),xY]
 have es:d2o (b1k s) [32]=some (spl 32 (b1k s)):=by
  unfold d2o
  simp only [wR (show (b1k s).length<4294967281 by omega),vN]
 have hw:∀w∈spl 32 (b1k s),w.length≤281474976710656:=fun w hw=>by have:=b7c 32 (b1k s) w hw;omega
 rw [es,xY]
 cases hs:spl 32 (b1k s) with
 | nil=>exact absurd hs (b3z 32 _)
 | cons w q =>
  rw [hs] at hw
  have hbad:∃c b,some ((⟨0,[],[],0,0,0⟩:d9),false)=some (c,b)∧(b=true→a1n c=true∧lnC c=s):=⟨_,_,rfl,fun h=>by cases h⟩
  simp only [b3p,xY]
  rw [c47,xY]
  cases hi:d4h a4z 0 w with
  | none=>exact hbad
  | some j =>
   have hj:=c4b _ _ _ _ hi
   have hj2:j<11:=by have:=hj.2;rw [show a4z.length=11 from rfl] at this;omega
   have eg:b2u.getD j.toNat default=⟨(kindOf (j+1)).1,(kindOf (j+1)).2.map Fd.g⟩:=by
    have:=b0j (k:=j+1) (by omega) (by omega)
    rw [show j+1 - 1=j by omega] at this;exact this
   have hk3:=b0c (j+1)
   simp only [xX]
   rw [wE (by omega),vL,a8u,o5 (p8.2 (by omega))]
   simp only [eg,wL]
   rw [o5 (x8.2 (by omega))]
   by_cases hq:((w::q).length:Int)=1+((kindOf (j+1)).2.length:Int)
   ·rw [wR hq,wY,vL,o5 (x8.2 (by omega)),o5 (p8.2 (by omega))]
    obtain ⟨o,eo,ho⟩:=e7s (w::q) hw (kindOf (j+1)).2 0 ⟨j+1,[],[],0,0,0⟩ (by omega) (by omega)
    rw [eo]
    simp only [xY]
    cases o with
    | ex r=>exact ⟨r.1,r.2,rfl,fun h=>by rw [ho r rfl] at h;cases h⟩
    | nx x =>
     simp only [Fl.elim,b1f,xY]
     cases hv:a1n x with
     | false=>exact ⟨x,false,rfl,fun h=>by cases h⟩
     | true =>
      simp only [vN,c36 (a7o hv),xY]
      exact ⟨x,_,rfl,fun h=>⟨hv,of_decide_eq_true h⟩⟩
   ·rw [wE hq];exact hbad
theorem c1j {s:Str} (b:UInt8) (h:s.length≤100000):e6r s b=some (spl b s):=by
 refine Ok.eq ?_
 unfold e6r
 refine Ok.bind (Ok.loop (Q:=fun r:Int×List Str=>0≤r.1∧r.1≤s.length∧r.2.length≤s.length∧r.2++[s.drop r.1.toNat]=spl b s)
  (fun x:Int×Int×List Str=>∃a i:Nat,x.1=(a:Int)∧x.2.1=(i:Int)∧a≤i∧i≤s.length∧x.2.2.length≤i∧x.2.2++glue ((s.take i).drop a) (spl b (s.drop i))=spl b s)
  (fun x=>((s.length:Int) - x.2.1).toNat) (fun x hx=>?_) _ ⟨0,0,rfl,rfl,vI _,vG _,vG _,?_⟩) fun r hr=>?_
 ·obtain ⟨x1,x2,out⟩:=x
  obtain ⟨a,i,rfl,rfl,ha,hi,hlen,he⟩:=hx
  simp only at hlen he
  unfold g27
  refine Ok.ite (fun hc=>?_) fun hc=>?_
  ·have hlt:i<s.length:=by have:=of_decide_eq_true hc;simp only at this;omega
   have hd:s.drop i=s[i]::s.drop (i+1):=List.drop_eq_getElem_cons hlt
   have hg:s.getD i 0=s[i]:=by rw [zE,zJ hlt];rfl
   have htk:(s.take (i+1)).drop a=(s.take i).drop a++[s[i]]:=by
    rw [List.take_succ_eq_append_getElem hlt,List.drop_append_of_le_length (by simp;omega)]
   have i1:a0j ((i:Int)+1)=true:=x8.2 ⟨by omega,by omega⟩
   refine Ok.jn (P:=fun j:Int×List Str=>∃a':Nat,j.1=a'∧a'≤i+1∧j.2.length≤i+1∧j.2++glue ((s.take (i+1)).drop a') (spl b (s.drop (i+1)))=spl b s) ?_ fun j hj=>?_
   ·refine Ok.chk (p8.2 ⟨by simp,by simpa using hlt⟩) (Ok.ite (fun hb=>?_) fun hb=>?_)
    ·have hb':s[i]=b:=by
      have:=of_decide_eq_true hb
      simp only [xV,hg] at this
      exact UInt8.toNat_inj.1 (by omega)
     refine Ok.chk (a1u.2 ⟨by simp,by simp;omega,by simp;omega⟩) (Ok.chk (a0z.2 (by simp;omega)) (Ok.chk i1 (Ok.ret ⟨i+1,by simp,vI _,by simp;omega,?_⟩)))
     simp only [xV]
     rw [hd,hb',spl,if_pos rfl] at he
     rw [←he,show (s.take (i+1)).drop (i+1)=[] from List.drop_eq_nil_of_le (by simp;omega),c4f (b3z b _)]
     simp [glue]
    ·have hb':s[i]≠b:=fun e=>by
      have:=of_decide_eq_false hb
      simp only [xV,hg,e] at this
      simp at this
     refine Ok.ret ⟨a,rfl,by omega,by simp;omega,?_⟩
     rw [hd,spl,if_neg hb',d09] at he
     rw [htk,he]
   ·obtain ⟨a',e1,h1,h2,h3⟩:=hj
    refine Ok.chk i1 (Ok.ret ⟨⟨a',i+1,e1,by simp,h1,hlt,h2,h3⟩,?_⟩)
    simp only;omega
  ·have hge:i=s.length:=by have:=of_decide_eq_false hc;simp only at this;omega
   subst hge
   refine Ok.ret ⟨by simp,by simp;omega,by simpa using hlen,?_⟩
   rw [List.drop_length,xZ] at he
   simpa [spl,glue] using he
 ·simp only [List.take_zero,List.drop_nil,wS,wH]
  exact c4f (b3z b s)
 ·obtain ⟨h0,h1,h2,h3⟩:=hr
  exact Ok.chk (a1u.2 ⟨h0,h1,by omega⟩) (Ok.chk (a0z.2 (by simp;omega)) (Ok.ret h3))
set_option maxRecDepth 20000
def dig (n:Int) (c:UInt8):Int:=10*n+((c.toNat:Int) - 48)
theorem c90 (s:Str) (h6:s.length≤6):∀(r pre:Str) (v:Int),s=pre++r→0≤v→v<10^pre.length →
  ∃o,loop (F_y s) (v,(pre.length:Int))=some o∧((∀c∈r,48≤c.toNat∧c.toNat≤57)→o=.inl (r.foldl dig v))
 | [],pre,v,e,h0,h1=>by
  have st:F_y s (v,(pre.length:Int))=some (.ex (.inl v)):=by
   unfold F_y
   simp only
   rw [wE (by subst e;simp),vL]
  exact ⟨.inl v,by rw [a1t,st];rfl,fun _=>rfl⟩
 | a :: r,pre,v,e,h0,h1=>by
  have hpl:pre.length<s.length:=by subst e;simp
  have hg:s.getD ((pre.length:Int)).toNat 0=a:=by subst e;simp [zE]
  have hb:inb (pre.length:Int) s.length=true:=p8.2 (by omega)
  have hp:(10:Int)^pre.length≤10^5:=by
   have:pre.length≤5:=by omega
   exact_mod_cast Nat.pow_le_pow_right (by omega:1≤10) this
  by_cases q1:48≤a.toNat
  ·by_cases q2:a.toNat≤57
   ·have hu:((u8 (((a.toNat:Int)) - 48)).toNat:Int)=(a.toNat:Int) - 48:=by
     have:=UInt8.toNat_lt a
     unfold u8
     simp only [UInt8.toNat_ofNat']
     omega
    have st:F_y s (v,(pre.length:Int))=some (.nx (dig v a,(pre.length:Int)+1)):=by
     unfold F_y
     simp only
     rw [wR (by omega),vN,hg,o5 hb,wE (by omega:¬(a.toNat:Int)<48),vL,o5 hb,wE (by omega:¬(57:Int)<(a.toNat:Int)),vL,hu]
     exact (o5 (x8.2 (by omega))).trans ((o5 hb).trans ((o5 (x8.2 (by omega))).trans (o5 (x8.2 (by omega)))))
    have hpow:(10:Int)^(pre++[a]).length=10*10^pre.length:=by rw [xI,zU,Int.pow_succ];omega
    obtain ⟨o,e1,e2⟩:=c90 s h6 r (pre++[a]) (dig v a) (by simp [e]) (by unfold dig;omega) (by rw [hpow];unfold dig;omega)
    refine ⟨o,?_,fun h=>?_⟩
    ·rw [a1t,st]
     simp only [xY,Fl.elim]
     have e3:((pre.length:Int)+1)=((pre++[a]).length:Int):=by simp
     rw [e3];exact e1
    ·rw [e2 fun c hc=>h c (xB _ hc)];rfl
   ·have st:F_y s (v,(pre.length:Int))=some (.ex (.inr (-1))):=by
     unfold F_y
     simp only
     rw [wR (by omega),vN,hg,o5 hb,wE (by omega:¬(a.toNat:Int)<48),vL,o5 hb,wR (by omega:(57:Int)<(a.toNat:Int)),vN]
    exact ⟨_,by rw [a1t,st];rfl,fun h=>absurd (h a (by simp)).2 q2⟩
  ·have st:F_y s (v,(pre.length:Int))=some (.ex (.inr (-1))):=by
    unfold F_y
    simp only
    rw [wR (by omega),vN,hg,o5 hb,wR (by omega:(a.toNat:Int)<48),vN]
   exact ⟨_,by rw [a1t,st];rfl,fun h=>absurd (h a (by simp)).1 q1⟩
theorem b6d (s:Str):∃n,F_6 s=some n:=by
 unfold F_6
 by_cases h:1≤s.length∧s.length≤6
 ·obtain ⟨o,e,_⟩:=c90 s h.2 s [] 0 rfl (by omega) (by simp)
  have e0:(decide ((s.length:Int)<1)||decide (6<(s.length:Int)))=false:=by simp;omega
  simp only [wK,Int.natCast_zero] at e
  rw [e0,e]
  cases o with
  | inl v=>exact ⟨v,rfl⟩
  | inr v=>exact ⟨v,rfl⟩
 ·have e0:(decide ((s.length:Int)<1)||decide (6<(s.length:Int)))=true:=by simp;omega
  rw [e0];exact ⟨_,rfl⟩
theorem e2k (u:Nat) (l:Str):(Lib.decDigits u++l).foldl dig 0=l.foldl dig (u:Int):=by
 induction u using Nat.strongRecOn generalizing l with
 | _ u ih =>
  rw [Lib.decDigits]
  split
  ·rename_i hu
   have e:(UInt8.ofNat (48+u)).toNat=48+u:=by simp;omega
   simp only [wA,wH,wM,dig,e]
   congr 1;omega
  ·rename_i hu
   have e:(UInt8.ofNat (48+u % 10)).toNat=48+u % 10:=by simp;omega
   rw [List.append_assoc,ih (u / 10) (by omega)]
   simp only [wA,wH,wM,dig,e]
   congr 1;omega
theorem d7n:∀(k u:Nat),u<10^(k+1)→(Lib.decDigits u).length≤k+1
 | 0,u,h=>by
  rw [Lib.decDigits]
  split
  ·simp
  ·omega
 | k+1,u,h=>by
  rw [Lib.decDigits]
  split
  ·simp
  ·rw [Nat.pow_succ] at h
   have:=d7n k (u / 10) (by omega)
   simp only [xI,zU];omega
theorem g5b {u:Nat} (h:u<1000000):(Lib.decDigits u).length≤6:=d7n 5 u h
theorem a9d {n:Int} (h0:0≤n) (h1:n<1000000):F_6 (Lib.itoa n)=some n:=by
 obtain ⟨u,rfl⟩:=Int.eq_ofNat_of_zero_le h0
 rw [show ((u:Nat):Int)=(u:Int) from rfl,Lib.itoa_nonneg]
 have h6:=g5b (u:=u) (by omega)
 have hne:=List.length_pos_iff.2 (d0y u)
 obtain ⟨o,e,eo⟩:=c90 (Lib.decDigits u) h6 (Lib.decDigits u) [] 0 rfl (by omega) (by simp)
 have e0:(decide (((Lib.decDigits u).length:Int)<1)||decide (6<((Lib.decDigits u).length:Int)))=false:=by simp;omega
 have ed:=e2k u []
 rw [wO,List.foldl_nil] at ed
 rw [eo (b2a u),ed] at e
 simp only [wK,Int.natCast_zero] at e
 unfold F_6
 rw [e0,e];rfl
abbrev b5w:List Str:=[[112,101,114,115,111,110],[103,114,111,117,112],[106,111,105,110],[108,101,97,118,101],[97,108,108,111,119],[102,111,114,98,105,100],[111,112,101,110],[112,117,116],[99,111,112,121],[119,104,111],[115,105,110,99,101]]
def kf (w:Str):List Str→Int→Int→Int
 | [],_,K=>K
 | a::r,k,K=>kf w r (k+1) (if w=a then k+1 else K)
theorem c9t (w:Str):∀(l:List Str) (k K:Int),0≤k→0≤K→K≤k→0≤kf w l k K∧kf w l k K≤k+l.length
 | [],k,K,h0,h1,h2=>by simp [kf];omega
 | a::r,k,K,h0,h1,h2=>by
  simp only [kf,x5]
  by_cases q:w=a
  ·rw [if_pos q];have:=c9t w r (k+1) (k+1) (by omega) (by omega) (by omega);omega
  ·rw [if_neg q];have:=c9t w r (k+1) K (by omega) h1 (by omega);omega
theorem c27 (w:Str) (q:List Str):∀(l:List Str) (k:Int) (x:d9),foldL (F_z (w::q)) l k x=some ⟨kf w l k x.Kind,x.Name,x.Other,x.Time,x.A,x.B⟩
 | [],_,_=>rfl
 | a::r,k,x=>by
  have st:F_z (w::q) k a x=some ⟨if w=a then k+1 else x.Kind,x.Name,x.Other,x.Time,x.A,x.B⟩:=by
   unfold F_z
   rw [o5 (p8.2 (by simp only [x5];omega))]
   have e:(w::q).getD 0 default=w:=rfl
   rw [e]
   by_cases h:w=a
   ·rw [wR h,if_pos h];rfl
   ·rw [wE h,if_neg h];rfl
  simp only [foldL,st,xY]
  rw [c27 w q r (k+1)];rfl
theorem e1h {k:Int} (h0:1≤k) (h1:k≤11):kf (kindOf k).1 b5w 0 0=k:=by
 rcases kinds h0 h1 with h|h|h|h|h|h|h|h|h|h|h<;>subst h<;>rfl
theorem c89 (K:Int) (h0:1≤K) (h1:K≤11) (k:Int) (w:Str) (x:d9) (hx:x.Kind=K) (k0:0≤k) (k1:k<(b3r K).length):∃x',d6m k w x=some x'∧x'.Kind=K:=by
 obtain ⟨n,en⟩:=b6d w
 unfold d6m
 rw [hx,a6k (by omega) h1,xY,o5 (p8.2 (by omega)),en]
 simp only [xY]
 cases decide ((((b3r K).getD k.toNat 0).toNat:Int)=116) with
 | true=>exact ⟨_,rfl,rfl⟩
 | false =>
  cases decide ((((b3r K).getD k.toNat 0).toNat:Int)=110) with
  | true=>exact ⟨_,rfl,rfl⟩
  | false =>
   cases decide ((((b3r K).getD k.toNat 0).toNat:Int)=111) with
   | true=>exact ⟨_,rfl,rfl⟩
   | false =>
    cases decide ((((b3r K).getD k.toNat 0).toNat:Int)=112) with
    | true=>exact ⟨_,rfl,rfl⟩
    | false=>cases decide ((((b3r K).getD k.toNat 0).toNat:Int)=99)<;>exact ⟨_,rfl,rfl⟩
theorem b90 (K:Int) (h0:1≤K) (h1:K≤11):∀(l:List Str) (k:Int) (x:d9),x.Kind=K→0≤k→k+l.length≤(b3r K).length→∃x',foldL d6m l k x=some x'
 | [],_,x,_,_,_=>⟨x,rfl⟩
 | w::r,k,x,hx,k0,hl=>by
  simp only [x5] at hl
  obtain ⟨x',e,h'⟩:=c89 K h0 h1 k w x hx k0 (by omega)
  simp only [foldL,e,xY]
  exact b90 K h0 h1 r (k+1) x' h' (by omega) (by omega)
theorem d39 {s:Str} (h:s.length≤90000):∃c b,F_7 s=some (c,b)∧(b=true→a1n c=true∧lnC c=s++[10]):=by
 have hbad:∃c b,some ((⟨0,[],[],0,0,0⟩:d9),false)=some (c,b)∧(b=true→a1n c=true∧lnC c=s++[10]):=⟨_,_,rfl,fun h=>by cases h⟩
 unfold F_7 e3x
 rw [c1j 32 (by omega),xY]
 cases hs:spl 32 s with
 | nil=>exact absurd hs (b3z 32 _)
 | cons w q =>
  simp only [xY]
  rw [show foldL (F_z (w::q)) _ 0 _=_ from c27 w q b5w 0 ⟨0,[],[],0,0,0⟩,xY]
  have hr:=c9t w b5w 0 0 (by omega) (by omega) (by omega)
  rw [show (b5w.length:Int)=11 from rfl] at hr
  simp only
  generalize kf w b5w 0 0=K at hr
  by_cases hK:K=0
  ·rw [wR hK];exact hbad
  ·rw [wE hK,vL,a6k hr.1 (by omega),xY]
   have hf:=b81 K (by omega) (by omega)
   rw [o5 (x8.2 (by omega))]
   by_cases hq:((w::q).length:Int)=1+((b3r K).length:Int)
   ·rw [wR hq,wY,vL,o5 (a1u.2 ⟨by omega,by simp only [x5];omega,by omega⟩)]
    have hq2:q.length=(b3r K).length:=by simp only [x5] at hq;omega
    obtain ⟨x,ex⟩:=b90 K (by omega) (by omega) q 0 ⟨K,[],[],0,0,0⟩ rfl (by omega) (by omega)
    rw [show (w::q).drop 1=q from rfl,ex,xY,b05,xY]
    cases hv:a1n x with
    | false=>exact ⟨x,false,rfl,fun h=>by cases h⟩
    | true =>
     rw [vN,b7j (a7o hv),xY,o5 (a1c.2 (by simp only [x5,wK];omega))]
     exact ⟨x,_,rfl,fun h=>⟨hv,of_decide_eq_true h⟩⟩
   ·rw [wE hq];exact hbad
def Fd.sgn:Fd→UInt8
 | .nm=>110
 | .ot=>111
 | .tm=>116
 | .fa m=>if m=64 then 99 else 112
 | .fb m=>if m=16 then 113 else 117
theorem e2e {k:Int} (h0:1≤k) (h1:k≤11):b3r k=(kindOf k).2.map Fd.sgn:=by
 rcases kinds h0 h1 with h|h|h|h|h|h|h|h|h|h|h<;>subst h<;>rfl
theorem c2j (c d:d9) (f:Fd):(f.cp c d).Kind=d.Kind:=by cases f<;>rfl
theorem c5g {c:d9} (hc:VC c) (f:Fd) (k:Int) (d:d9) (h0:1≤d.Kind) (h1:d.Kind≤11) (k0:0≤k) (k1:k<(b3r d.Kind).length) (hf:(b3r d.Kind).getD k.toNat 0=f.sgn):d6m k (f.get c) d=some (f.cp c d):=by
 have n1:=a9d hc.t.1 hc.t.2
 have n2:=a9d hc.a.1 hc.a.2
 have n3:=a9d hc.b.1 hc.b.2
 obtain ⟨n,en⟩:=b6d (f.get c)
 unfold d6m
 rw [a6k (by omega) h1,xY,o5 (p8.2 (by omega)),hf]
 cases f with
 | nm=>rfl
 | ot=>rfl
 | tm=>show (F_6 (Lib.itoa c.Time)).bind _=_;rw [n1];rfl
 | fa m =>
  by_cases hm:m=64
  ·subst hm;show (F_6 (Lib.itoa c.A)).bind _=_;rw [n2];rfl
  ·have e:(Fd.fa m).sgn=112:=if_neg hm
   rw [e];show (F_6 (Lib.itoa c.A)).bind _=_;rw [n2];rfl
 | fb m =>
  by_cases hm:m=16
  ·subst hm;show (F_6 (Lib.itoa c.B)).bind _=_;rw [n3];rfl
  ·have e:(Fd.fb m).sgn=117:=if_neg hm
   rw [e];show (F_6 (Lib.itoa c.B)).bind _=_;rw [n3];rfl
theorem b66 {c:d9} (hc:VC c):∀(fs pre:List Fd) (d:d9),1≤d.Kind→d.Kind≤11→b3r d.Kind=(pre++fs).map Fd.sgn→foldL d6m (fs.map (Fd.get c)) (pre.length:Int) d=some (fs.foldl (Fd.cp c) d)
 | [],_,_,_,_,_=>rfl
 | f::r,pre,d,h0,h1,hf=>by
  have hlen:pre.length<(b3r d.Kind).length:=by rw [hf];simp
  have st:=c5g hc f (pre.length:Int) d h0 h1 (by omega) (by omega) (by
   rw [hf,show ((pre.length:Int)).toNat=pre.length by omega,zE,xR,zD (vI _),Nat.sub_self];rfl)
  simp only [wW,foldL,st,xY,wM]
  have ih:=b66 hc r (pre++[f]) (f.cp c d) (by rw [c2j];exact h0) (by rw [c2j];exact h1) (by rw [c2j,hf];simp)
  rw [show ((pre++[f]).length:Int)=(pre.length:Int)+1 by simp] at ih
  exact ih
theorem d9m {c:d9} (hv:a1n c=true):F_7 (bdC c)=some (c,true):=by
 have h:=a7o hv
 have h0:=h.k0
 have h1:=h.k1
 have hl:=a8e h
 have hws:spl 32 (bdC c)=wdC c:=b7d _ _ fun w hw x hx=>((c7c h w hw).2 x hx).1
 have h3:=b0c c.Kind
 have hsg:=e2e h0 h1
 have hsl:(b3r c.Kind).length=(kindOf c.Kind).2.length:=by rw [hsg];simp
 unfold F_7 e3x
 rw [c1j 32 (by omega),xY,hws]
 unfold wdC
 simp only [xY]
 rw [show foldL (F_z ((kindOf c.Kind).1::(kindOf c.Kind).2.map (Fd.get c))) _ 0 _=_ from c27 _ _ b5w 0 ⟨0,[],[],0,0,0⟩,xY]
 simp only
 rw [e1h h0 h1,wE (by omega),vL,a6k (by omega) h1,xY,o5 (x8.2 (by omega))]
 rw [wR (by simp only [x5,wL];omega),wY,vL,o5 (a1u.2 ⟨by omega,by simp only [x5];omega,by omega⟩)]
 have hb:=b66 h (kindOf c.Kind).2 [] (b73 c.Kind) h0 h1 (by rw [wH];exact hsg)
 rw [h.cp] at hb
 simp only [wK,Int.natCast_zero] at hb
 rw [show (((kindOf c.Kind).1::(kindOf c.Kind).2.map (Fd.get c)).drop 1)=(kindOf c.Kind).2.map (Fd.get c) from rfl,show foldL d6m _ 0 ⟨c.Kind,[],[],0,0,0⟩=_ from hb,xY,b05,xY,hv,vN,b7j h,xY,o5 (a1c.2 (by simp only [x5,wK];omega)),a7y,wR rfl]
def LL (L:List Str):List Str:=(L.take (L.length - 1)).map (fun l=>l++[10])++(if L.getD (L.length - 1) default=[] then [] else [L.getD (L.length - 1) default])
theorem d7v (h:Str):LL [h]=if h=[] then [] else [h]:=rfl
theorem d1v (h x:Str) (L:List Str):LL (h::x::L)=(h++[10])::LL (x::L):=by
 unfold LL
 simp only [x5,Nat.add_sub_cancel,List.take_succ_cons,wW,wA,List.getD_cons_succ]
theorem b9f:∀t:Str,a1g t=LL (spl 10 t)
 | []=>rfl
 | c :: r=>by
  have ih:=b9f r
  have hne:=b3z 10 r
  cases hs:spl 10 r with
  | nil=>exact absurd hs hne
  | cons h tl =>
   rw [hs] at ih
   by_cases hc:c=10
   ·have e1:(c==10)=true:=by rw [hc];rfl
    rw [a1g,e1,vN,spl,if_pos hc,hs,d1v,ih,hc];rfl
   ·have e1:(c==10)=false:=by simpa using hc
    rw [a1g,e1,vL,spl,if_neg hc,hs]
    show _=LL ((c::h)::tl)
    cases tl with
    | nil =>
     rw [d7v] at ih
     rw [d7v,if_neg (by simp)]
     by_cases hh:h=[]
     ·rw [if_pos hh] at ih;rw [ih,hh]
     ·rw [if_neg hh] at ih;rw [ih]
    | cons x t' =>
     rw [d1v] at ih ⊢
     rw [ih];rfl
theorem d6o (b:UInt8):∀(s:Str),∀z∈spl b s,∀c∈z,c≠b
 | [],z,hz,c,hc=>by simp [spl] at hz;subst hz;cases hc
 | a :: r,z,hz,c,hc=>by
  have ih:=d6o b r
  simp only [spl] at hz
  split at hz
  ·rcases wV.1 hz with rfl|hz
   ·cases hc
   ·exact ih z hz c hc
  ·rename_i hab
   cases hs:spl b r with
   | nil=>exact absurd hs (b3z b r)
   | cons h tl =>
    rw [hs] at hz ih
    rcases wV.1 hz with rfl|hz
    ·rcases wJ.1 hc with hc|hc
     ·simp at hc;rw [hc];exact hab
     ·exact ih h (by simp) c hc
    ·exact ih z (xB _ hz) c hc
theorem c9p (l:Str) (h:l.length≤90000):(∃c,F_p (l++[10])=some (c,true)∧F_7 l=some (c,true))∨∃c d,F_p (l++[10])=some (c,false)∧F_7 l=some (d,false):=by
 obtain ⟨c,b,e,hb⟩:=b93 (s:=l++[10]) (by simp;omega)
 obtain ⟨d,b',e',hb'⟩:=d39 h
 cases b with
 | true =>
  obtain ⟨hv,hl⟩:=hb rfl
  rw [a7y] at hl
  have:=List.append_cancel_right hl
  exact .inl ⟨c,e,by rw [←this];exact d9m hv⟩
 | false =>
  cases b' with
  | true =>
   obtain ⟨hv,hl⟩:=hb' rfl
   have:=d3g hv
   rw [hl,e] at this
   simp at this
  | false=>exact .inr ⟨c,d,e,e'⟩
theorem d2l (T:Str) (h:T.length≤90000) (hn:∀c∈T,c≠10):∃c,F_p T=some (c,false):=by
 obtain ⟨c,b,e,hb⟩:=b93 (s:=T) (by omega)
 cases b with
 | true =>
  obtain ⟨_,hl⟩:=hb rfl
  exact absurd rfl (hn 10 (by rw [←hl,a7y];simp))
 | false=>exact ⟨c,e⟩
theorem loops (tl:List Str):∀(L:List Str) (k:Int) (acc:List d9),(∀l∈L,l.length≤90000)→acc.length+L.length≤100 →
  ∃o,forL e4i L k acc=some o∧forL F_q (L.map (fun l=>l++[10])++tl) k acc=match o with|.nx a=>forL F_q tl (k+L.length) a|.ex r=>some (.ex r)
 | [],k,acc,_,_=>⟨.nx acc,rfl,by simp⟩
 | l::L,k,acc,hb,hl=>by
  simp only [x5] at hl
  rcases c9p l (hb l (by simp)) with ⟨c,e1,e2⟩|⟨c,d,e1,e2⟩
  ·obtain ⟨o,h1,h2⟩:=loops tl L (k+1) (acc++[c]) (fun x hx=>hb x (xB _ hx)) (by simp;omega)
   have hr:room (acc.length+[c].length) 64=true:=a0z.2 (by simp only [x5,wK];omega)
   have s1:e4i k l acc=some (.nx (acc++[c])):=by
    unfold e4i;rw [e2];exact o5 hr
   have s2:F_q k (l++[10]) acc=some (.nx (acc++[c])):=by
    unfold F_q;rw [e1];exact o5 hr
   refine ⟨o,?_,?_⟩
   ·simp only [forL,s1,xY];exact h1
   ·simp only [wW,wA,forL,s2,xY,Fl.elim]
    rw [h2]
    rw [show k+1+(L.length:Int)=k+((l::L).length:Int) by simp only [x5];omega]
  ·have s1:e4i k l acc=some (.ex ([],k,45)):=by
    unfold e4i;rw [e2];rfl
   have s2:F_q k (l++[10]) acc=some (.ex ([],k,45)):=by
    unfold F_q;rw [e1];rfl
   refine ⟨.ex ([],k,45),?_,?_⟩
   ·simp only [forL,s1,xY];rfl
   ·simp only [wW,wA,forL,s2,xY];rfl
theorem c7s (b:UInt8):∀(s:Str),(spl b s).length≤s.length+1
 | []=>by simp [spl]
 | a::r=>by
  have ih:=c7s b r
  simp only [spl]
  split
  ·simp;omega
  ·cases hs:spl b r with
   | nil=>simp [glue]
   | cons h tl=>rw [hs] at ih;simp [glue] at ih ⊢;omega
theorem c6y (t:Str) (h:t.length≤80000):∃r,e4y t=some r∧f4y t=some r:=by
 have hl:=b9f t
 have hb:∀l∈spl 10 t,l.length≤90000:=fun l hl=>by have:=b7c 10 t l hl;omega
 have hno:=d6o 10 t
 have hcnt:=c7s 10 t
 unfold e4y f4y
 rw [c1j 10 (by omega),show g0a t=some () from rfl,xY,xY]
 have hS:=b3z 10 t
 generalize spl 10 t=S at hl hb hno hcnt hS
 ·have hp:0<S.length:=List.length_pos_iff.2 hS
  have en:((S.length:Int) - 1).toNat=S.length - 1:=by omega
  have hT:S.getD (S.length - 1) default∈S:=by rw [zE,zJ (by omega)];exact x6 _
  have hLL:=hl
  unfold LL at hLL
  have hTb:=hb _ hT
  have hTn:=hno _ hT
  have hLb:∀l∈S.take (S.length - 1),l.length≤90000:=fun l hl=>hb l (List.mem_of_mem_take hl)
  have hLl:(S.take (S.length - 1)).length=S.length - 1:=by rw [x4];omega
  rw [o5 (x8.2 (by omega)),o5 (p8.2 (by omega)),o5 (x8.2 (by omega)),o5 (a1u.2 ⟨by omega,by omega,by omega⟩),en]
  generalize S.getD (S.length - 1) default=T at hLL hTb hTn
  generalize S.take (S.length - 1)=L at hLL hLb hLl
  by_cases hTe:T=[]
  ·rw [if_pos hTe,wO] at hLL
   have hlen:(a1g t).length=L.length:=by rw [hLL];simp
   rw [b6r (by omega),xY,wR hTe,wY,vL,b1y,hlen]
   by_cases h60:60<L.length
   ·rw [wR (by omega)];exact ⟨_,rfl,rfl⟩
   ·rw [wE (by omega),vL,vL]
    obtain ⟨o,e1,e2⟩:=loops [] L 0 [] hLb (by simp;omega)
    rw [wO] at e2
    rw [hLL,e1,e2]
    cases o with
    | nx a=>exact ⟨_,rfl,rfl⟩
    | ex r=>exact ⟨_,rfl,rfl⟩
  ·rw [if_neg hTe] at hLL
   have hlen:(a1g t).length=L.length+1:=by rw [hLL];simp
   rw [b6r (by omega),xY,wE hTe,wT,vN,o5 (x8.2 (by omega)),b1y,hlen]
   by_cases h60:60<L.length+1
   ·rw [wR (by omega),wR (by omega)];exact ⟨_,rfl,rfl⟩
   ·rw [wE (by omega),wE (by omega),vL,vL]
    obtain ⟨o,e1,e2⟩:=loops [T] L 0 [] hLb (by simp;omega)
    obtain ⟨c,ec⟩:=d2l T hTb hTn
    rw [hLL,e1,e2]
    cases o with
    | nx a =>
     have st:F_q (0+(L.length:Int)) T a=some (.ex ([],(L.length:Int),45)):=by
      unfold F_q;rw [ec,Int.zero_add];rfl
     refine ⟨([],(L.length:Int),45),?_,rfl⟩
     simp only [forL,st,xY,Fl.elim]
    | ex r=>exact ⟨_,rfl,rfl⟩
theorem b3n {α:Type} [Inhabited α] {pre r:List α} {x:α}:(pre++x::r).getD ((pre.length:Int)).toNat default=x:=by
 rw [show ((pre.length:Int)).toNat=pre.length by omega,zE,zD (vI _),Nat.sub_self];rfl
theorem c4a {α:Type} {pre r:List α} {x:α}:inb (pre.length:Int) (pre++x::r).length=true:=p8.2 ⟨by omega,by simp only [xI,x5];omega⟩
theorem d01 (b:List Int):∀(r pre:List Int),b=pre++r→forL (f4e b) r (pre.length:Int) ()=some (.nx ())
 | [],_,_=>rfl
 | x::r,pre,h=>by
  have st:f4e b (pre.length:Int) x ()=some (.nx ()):=by
   unfold f4e
   rw [h,o5 c4a,b3n,wR rfl];rfl
  simp only [forL,st,xY,Fl.elim]
  have:=d01 b r (pre++[x]) (by simp [h])
  rw [show ((pre++[x]).length:Int)=(pre.length:Int)+1 by simp] at this
  exact this
theorem d00 (b:List Int):f3i b b=some true:=by
 have:=d01 b b [] rfl
 simp only [wK,Int.natCast_zero] at this
 unfold f3i
 rw [wR rfl,wY,vL,this];rfl
theorem c3i (d:l8):∀(r pre:List a01),d.Events=pre++r→forL (f4d d) r (pre.length:Int) ()=some (.nx ())
 | [],_,_=>rfl
 | x::r,pre,h=>by
  have st:f4d d (pre.length:Int) x ()=some (.nx ()):=by
   unfold f4d
   rw [h,o5 c4a,b3n]
   simp
  simp only [forL,st,xY,Fl.elim]
  have:=c3i d r (pre++[x]) (by simp [h])
  rw [show ((pre++[x]).length:Int)=(pre.length:Int)+1 by simp] at this
  exact this
theorem c7z (d:l8):f4n d d=some true:=by
 have:=c3i d d.Events [] rfl
 simp only [wK,Int.natCast_zero] at this
 unfold f4n
 rw [d00,xY]
 simp only [grp,decide_true,wY,Bool.or_self,vL]
 rw [this];rfl
theorem d7k (d:l9):∀(r pre:List o6),d.Events=pre++r→forL (f4c d) r (pre.length:Int) ()=some (.nx ())
 | [],_,_=>rfl
 | x::r,pre,h=>by
  have st:f4c d (pre.length:Int) x ()=some (.nx ()):=by
   unfold f4c
   rw [h,o5 c4a,b3n]
   simp
  simp only [forL,st,xY,Fl.elim]
  have:=d7k d r (pre++[x]) (by simp [h])
  rw [show ((pre++[x]).length:Int)=(pre.length:Int)+1 by simp] at this
  exact this
theorem d5e (d:l9):f4m d d=some true:=by
 have:=d7k d d.Events [] rfl
 simp only [wK,Int.natCast_zero] at this
 unfold f4m
 simp only [grp,decide_true,wY,Bool.or_self,vL]
 rw [this];rfl
theorem d79:∀(x:List d9) (k:Int),forL F_r x k ()=some (.nx ())
 | [],_=>rfl
 | c::r,k=>by
  have st:F_r k c ()=some (.nx ()):=by
   unfold F_r
   rw [b1f,b05]
   simp only [xY]
   cases a1n c<;>rfl
  simp only [forL,st,xY,Fl.elim]
  exact d79 r (k+1)
theorem d78 (y:l8×l9×(List Str)×Int):∀(r pre:List Str),y.2.2.1=pre++r→forL (f5g y) r (pre.length:Int) ()=some (.nx ())
 | [],_,_=>rfl
 | x::r,pre,h=>by
  have st:f5g y (pre.length:Int) x ()=some (.nx ()):=by
   unfold f5g
   rw [h,o5 c4a,b3n,wR rfl];rfl
  simp only [forL,st,xY,Fl.elim]
  have:=d78 y r (pre++[x]) (by simp [h])
  rw [show ((pre++[x]).length:Int)=(pre.length:Int)+1 by simp] at this
  exact this
theorem d77:∀(ts:List Str) (k:Int),(∀t∈ts,t.length≤80000)→forL f5f ts k ()=some (.nx ())
 | [],_,_=>rfl
 | t::r,k,h=>by
  obtain ⟨o,e1,e2⟩:=c6y t (h t (by simp))
  have st:f5f k t ()=some (.nx ()):=by
   unfold f5f
   rw [e1,e2]
   simp only [xY,grp,decide_true,wY,Bool.or_self,vL,e3t]
  simp only [forL,st,xY,Fl.elim]
  exact d77 r (k+1) fun t ht=>h t (xB _ ht)
theorem g0b {text:Str} (ht:text.length≤300) (k:Int) (x:List d9) {t:a2i} (hT:TO t):Ok (f7m text k x t) (Fl.elim TO fun _=>False):=by
 have hlen:=d55 x
 have hl3:=d78 (mkX x) (mkX x).2.2.1 [] rfl
 simp only [wK,Int.natCast_zero] at hl3
 unfold f7m
 rw [e3v,d3b,f3g,d6z,g8z,g02,d79]
 simp only [xY,grp,decide_true,wY,Bool.or_self,vL,a5m,c7z,d5e,b1y,hl3]
 refine Ok.jn (P:=fun y:(List UInt8)×a2i=>y.1.length≤89*60∧TO y.2) ?_ fun y hy=>?_
 ·by_cases q:0<(d7h x).1.length
  ·rw [wR (by omega),vN]
   refine Ok.bind (a7j hT (by omega)) fun a ha=>Ok.bind (a7j ha.2.2 (by omega)) fun b hb=>?_
   refine Ok.chk (p8.2 ⟨hb.1,by have:=hb.2.1;simp only [x5,wK];omega⟩) (Ok.chk (p8.2 ⟨ha.1,by omega⟩) (Ok.ret ⟨?_,hb.2.2⟩))
   show ((d7h x).1.set _ _).length≤_
   rw [List.length_set];exact hlen
  ·rw [wE (by omega),vL]
   exact Ok.ret ⟨hlen,hT⟩
 ·refine Ok.chk (a1c.2 (by omega)) ?_
  rw [d77 _ 0 fun t ht=>by
   simp only [wV,List.not_mem_nil,or_false] at ht
   rcases ht with rfl|rfl|rfl|rfl
   ·omega
   ·have:=hy.1;omega
   ·omega
   ·rw [xI];omega]
  exact Ok.ret hy.2
theorem d7a:∀(raw:List d9) (k:Int),∃o,forL F_8 raw k ()=some o∧∀r,o=.ex r→r=true
 | [],_=>⟨.nx (),rfl,fun r h=>by cases h⟩
 | c::r,k=>by
  by_cases q:(decide (40<(c.Name.length:Int))||decide (40<(c.Other.length:Int)))=true
  ·have st:F_8 k c ()=some (.ex true):=by
    unfold F_8
    rw [q,c2s];rfl
   exact ⟨.ex true,by simp only [forL,st,xY];rfl,fun r h=>by cases h;rfl⟩
  ·have st:F_8 k c ()=some (.nx ()):=by
    unfold F_8
    rw [Bool.not_eq_true] at q
    rw [q];rfl
   simp only [forL,st,xY,Fl.elim]
   exact d7a r (k+1)
theorem e2h {tape:List Int} {raw:List d9} {text:Str} (ht:(V.sl (tape.map (V.int .i64))).fact):F_9 tape raw text=some true:=by
 have h0:TO (a2i.mk tape 0):=⟨vK 0,Int.ofNat_le.2 (e2g ht)⟩
 refine Ok.eq ?_
 unfold F_9
 simp only [grp]
 refine Ok.ite (fun _=>by rw [c2s];exact Ok.ret rfl) fun hb=>?_
 have htx:text.length≤300:=by simp only [xC,zK] at hb;omega
 obtain ⟨o,e1,e2⟩:=d7a raw 0
 rw [e1,xY]
 cases o with
 | ex r=>rw [e2 r rfl];exact Ok.ret rfl
 | nx u =>
  rw [a5m]
  refine Ok.bind (c7y h0) fun y84 h84=>?_
  obtain ⟨⟨r,er,hr,_⟩,hT⟩:=h84
  have hl:y84.1.length≤30:=by rw [er,xI];show 4+r.length≤30;omega
  refine Ok.chk (a0z.2 (by omega)) (Ok.bind (b6q hT (by simp) (by simp)) fun y86 h86=>Ok.chk (a0z.2 (by simp only [x5,wK];omega)) ?_)
  refine Ok.bind (P:=fun o:Fl a2i Bool=>Fl.elim TO (fun _=>False) o) (Ok.forI (all:=[y84.1,(y84.1++[y86.1]),raw]) (fun _ t=>TO t) _ [] 0 _ rfl rfl h86.2 (fun pre x r' s hw hs=>?_) fun s hs=>hs) fun o ho=>?_
  ·exact (g0b htx _ x hs).mono fun o ho=>by
    cases o with
    | nx t=>exact ho
    | ex b=>exact ho.elim
  ·cases o with
   | nx t=>rw [a5m,c2s];exact Ok.ret rfl
   | ex b=>exact ho.elim
theorem c35 {P:Program} {f:FuncId} {ys:List V} {H:Heap} {Q:V→Heap→Prop} (hc:callable P f=true) (h:(∀y∈ys,y.fact)→a0o P f ys H Q):a0o P f ys H Q :=
 ⟨hc,fun g w vals hH hs hr=>(h fun y hy=>by
  obtain ⟨i,hi⟩:=List.getElem?_of_mem hy
  exact (hr i y hi).fact).2 g w vals hH hs hr⟩
theorem e2v {tape:List Int} {raw:List d9} {text:Str}:a0o Tryz.prog 6 [.sl (tape.map (V.int .i64)),.sl (raw.map d9.v),.str text] [] (fun r H=>r=.bool true∧H=[]) :=
 c35 (by kernel_rfl) fun h=>g5o.c.w (e2h (h _ (by simp)))
end Go.Ab