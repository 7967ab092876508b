/- The abstract layer, part 13a: maps. -/
import Derived.Test.YtoojdaakeiadjaaGreatDoorAbBase
import Derived.MapKept
import Derived.WideKeyRuns
import Derived.Lib.SliceRun
import Derived.Laws.IdiomRangeMap
set_option linter.all false
namespace Go.Ab
open Go.RowKit
def KD.desc:KD→TypeDesc
 | .int k=>.int k
 | .str=>.string
 | .bool=>.bool
 | .arr _ _=>.bool
def KD.wide:KD→Bool
 | .arr _ _=>true
 | _=>false
theorem KD.isI_inv {k:IntKind} {x:V} (h:KD.isI k x=true):∃n,x=.int k n:=by
 cases k<;>cases x<;>(try (simp [KD.isI] at h;done))<;>rename_i j n<;>cases j<;>(try (simp [KD.isI] at h;done))<;>exact ⟨_,rfl⟩
theorem KD.is_inv {kd:KD} {k:V} (h:kd.is k=true):(∃i n,kd=.int i∧k=.int i n)∨(∃s,kd=.str∧k=.str s)∨(∃b,kd=.bool∧k=.bool b)∨∃n i cs,kd=.arr n i∧k=.agg cs∧0<n∧cs.length=n∧∀c∈cs,∃m,c=.int i m:=by
 cases kd with
 | int i=>cases i<;>cases k<;>(try (simp [KD.is] at h;done))<;>rename_i j n<;>cases j<;>(try (simp [KD.is] at h;done))<;>exact .inl ⟨_,_,rfl,rfl⟩
 | str=>cases k<;>simp [KD.is] at h;exact .inr (.inl ⟨_,rfl,rfl⟩)
 | bool=>cases k<;>simp [KD.is] at h;exact .inr (.inr (.inl ⟨_,rfl,rfl⟩))
 | arr n i =>
  cases k<;>try (simp [KD.is] at h;done)
  rename_i cs
  simp only [KD.is,xY] at h
  obtain ⟨h1,h2,h3⟩:=h
  exact .inr (.inr (.inr ⟨n,i,cs,rfl,rfl,by rw [Nat.blt_eq] at h1;exact h1,zR h2,fun c hc=>KD.isI_inv (xX.1 h3 c hc)⟩))
theorem KD.same {a b:KD} {k:V} (h:a.is k=true) (h':b.is k=true):a=b:=by
 rcases KD.is_inv h with ⟨i,n,rfl,rfl⟩|⟨s,rfl,rfl⟩|⟨x,rfl,rfl⟩|⟨n,i,cs,rfl,rfl,h0,h1,h2⟩<;>rcases KD.is_inv h' with ⟨j,m,rfl,e⟩|⟨t,rfl,e⟩|⟨y,rfl,e⟩|⟨m,j,ds,rfl,e,g0,g1,g2⟩<;>cases e<;>try rfl
 cases cs with
 | nil=>simp at h1;omega
 | cons c r =>
  obtain ⟨x,rfl⟩:=h2 c (by simp)
  obtain ⟨y,e⟩:=g2 (.int i x) (by simp)
  cases e
  rw [←h1,←g1]
theorem KD.rd {S:Nat→Prop} {w:World} {kd:KD} {k:V} {v:Value} (hw:kd.wide=false) (h:kd.is k=true) (hr:Rd S w v k):MapKept.IsKey kd.desc v:=by
 rcases KD.is_inv h with ⟨i,n,rfl,rfl⟩|⟨s,rfl,rfl⟩|⟨x,rfl,rfl⟩|⟨n,i,cs,rfl,_⟩<;>try (cases hw;done)
 all_goals cases hr<;>simp [KD.desc,MapKept.IsKey]
theorem KD.rdA {S:Nat→Prop} {w:World} {n:Nat} {i:IntKind} {k:V} {v:Value} (h:(KD.arr n i).is k=true) (hr:Rd S w v k):∃(cs:List V) (vs:Array Value),k=.agg cs∧v=.agg vs∧cs.length=n∧vs.size=n∧∀j,j<n→∃m,inR i m∧cs[j]?=some (.int i m)∧vs[j]?=some (.int i m):=by
 rcases KD.is_inv h with ⟨_,_,e,_⟩|⟨_,e,_⟩|⟨_,e,_⟩|⟨n',i',cs,e,rfl,h0,h1,h2⟩<;>cases e
 obtain ⟨vs,rfl,hl,hv⟩:=hr.agg_inv
 refine ⟨cs,vs,rfl,rfl,h1,hl.trans h1,fun j hj=>?_⟩
 have hj':j<cs.length:=by omega
 obtain ⟨m,hm⟩:=h2 cs[j] (xV hj')
 have hc:cs[j]?=some (.int i m):=by rw [zJ hj',hm]
 have:=hv j _ hc
 have hj2:j<vs.size:=by omega
 have e:vs.getD j undef=vs[j]:=by simp [Array.getD,hj2]
 rw [e] at this
 generalize hx:vs[j]=x at this
 cases this
 rename_i hin
 exact ⟨m,hin,hc,by rw [zI hj2,hx]⟩
theorem KD.vrd {g:Gh} {w:World} {kd:KD} {k:V} {v:Value} (h:kd.is k=true) (hv:VR g w v k):Rd g.S w v k:=by
 rcases KD.is_inv h with ⟨i,n,rfl,rfl⟩|⟨s,rfl,rfl⟩|⟨x,rfl,rfl⟩|⟨n,i,cs,rfl,rfl,h0,h1,h2⟩
 ·exact hv.sc_rd rfl
 ·exact hv.sc_rd rfl
 ·exact hv.sc_rd rfl
 ·cases hv with
  | rd h=>exact h
  | agg vs _ hl hr =>
   refine .agg vs cs hl fun j c hc=>?_
   obtain ⟨m,rfl⟩:=h2 c (zZ hc)
   exact (hr j _ hc).sc_rd rfl
theorem c2g {i:IntKind}:∀{as bs:List V},(∀c∈as,∃m,c=.int i m)→(∀c∈bs,∃m,c=.int i m)→(c7a as bs=true↔as=bs)
 | [],[],_,_=>by simp [c7a]
 | [],b::r,_,h=>by
  obtain ⟨m,rfl⟩:=h b (by simp)
  simp [c7a]
 | a::r,[],h,_=>by
  obtain ⟨m,rfl⟩:=h a (by simp)
  simp [c7a]
 | a::r,b::s,h,h'=>by
  obtain ⟨m,rfl⟩:=h a (by simp)
  obtain ⟨q,rfl⟩:=h' b (by simp)
  simp only [c7a,xY,xG,wG,V.int.injEq,true_and]
  rw [c2g (fun c hc=>h c (z3 _ hc)) (fun c hc=>h' c (z3 _ hc))]
theorem KD.eq {S S':Nat→Prop} {w w':World} {kd:KD} {k k':V} {v v':Value} (h:kd.is k=true) (h':kd.is k'=true) (hr:Rd S w v k) (hr':Rd S' w' v' k'):v'=v↔keq k k'=true:=by
 rcases KD.is_inv h with ⟨i,n,rfl,rfl⟩|⟨s,rfl,rfl⟩|⟨x,rfl,rfl⟩|⟨n,i,cs,rfl,rfl,h0,h1,h2⟩<;>rcases KD.is_inv h' with ⟨j,m,e1,rfl⟩|⟨t,e1,rfl⟩|⟨y,e1,rfl⟩|⟨n',j,ds,e1,rfl,g0,g1,g2⟩<;>cases e1
 ·cases hr;cases hr'
  simp only [keq,xG,Value.int.injEq]
  exact ⟨fun h=>h.2.symm,fun h=>⟨trivial,h.symm⟩⟩
 ·cases hr;cases hr'
  rename_i a _ b _
  simp only [keq,xG,Value.string.injEq]
  constructor
  ·rintro rfl;rfl
  ·intro e
   have e1:a.data=b.data:=xZ.1 e
   obtain ⟨a⟩:=a;obtain ⟨b⟩:=b
   simp only at e1;subst e1;rfl
 ·cases hr;cases hr'
  simp only [keq,beq_iff_eq,Value.bool.injEq]
  exact ⟨fun h=>h.symm,fun h=>h.symm⟩
 ·obtain ⟨cs',vs,e1,rfl,l1,s1,q1⟩:=KD.rdA h hr
  obtain ⟨ds',us,e2,rfl,l2,s2,q2⟩:=KD.rdA h' hr'
  cases e1;cases e2
  simp only [keq,c2g h2 g2,Value.agg.injEq]
  constructor
  ·rintro rfl
   refine xM fun j=>?_
   by_cases hj:j<n
   ·obtain ⟨m,_,a1,a2⟩:=q1 j hj
    obtain ⟨m',_,b1,b2⟩:=q2 j hj
    rw [a2] at b2;cases b2
    rw [a1,b1]
   ·rw [List.getElem?_eq_none (by omega),List.getElem?_eq_none (by omega)]
  ·rintro rfl
   refine Array.ext_getElem? fun j=>?_
   by_cases hj:j<n
   ·obtain ⟨m,_,a1,a2⟩:=q1 j hj
    obtain ⟨m',_,b1,b2⟩:=q2 j hj
    rw [a1] at b1;cases b1
    rw [a2,b2]
   ·rw [Array.getElem?_eq_none (by omega),Array.getElem?_eq_none (by omega)]
inductive KOK (P:Program) (kt:TypeId):KD→Prop
 | plain {kd:KD} (hw:kd.wide=false) (h:P.underlying kt=some kd.desc):KOK P kt kd
 | arr {n:Nat} {i:IntKind} {e:TypeId} (h:P.underlying kt=some (.array n e)) (he:P.underlying e=some (.int i)) (hc:P.cellsOf e=1):KOK P kt (.arr n i)
section
variable {P:Program} {kt e:TypeId} {n:Nat} {i:IntKind}
theorem b7h (he:P.underlying e=some (.int i)):P.plainKey e=true:=by simp [Program.plainKey,he]
theorem b2p (w:World) (he:P.underlying e=some (.int i)) (hc:P.cellsOf e=1) (d:Nat) (xs ys:Array Value):∀is:List Nat,(∀j∈is,∃a b,xs[j]?=some (.int i a)∧ys[j]?=some (.int i b)) →
  ∃r:Bool,(Op.eqItems (d+1) e (P.cellsOf e) xs ys is).run P w=.ok r w∧(r=true↔∀j∈is,xs[j]?=ys[j]?)
 | [],_=>⟨true,by simp [Op.eqItems],by simp⟩
 | j::is,h=>by
  obtain ⟨a,b,ha,hb⟩:=h j (by simp)
  obtain ⟨r',hr',hiff⟩:=b2p w he hc d xs ys is fun q hq=>h q (z3 _ hq)
  have p1:=run_part_plain (P:=P) w (b7h he) (xs:=xs) (off:=j*P.cellsOf e) (by rw [hc,Nat.mul_one];exact ha)
  have p2:=run_part_plain (P:=P) w (b7h he) (xs:=ys) (off:=j*P.cellsOf e) (by rw [hc,Nat.mul_one];exact hb)
  have p3:(Op.equalIn (d+1) e (.int i a) (.int i b)).run P w=.ok (a==b) w:=by simp [Op.equalIn,run_underlying he]
  by_cases hab:a=b
  ·subst hab
   refine ⟨r',by simp [Op.eqItems,p1,p2,p3,hr'],?_⟩
   rw [hiff]
   constructor
   ·intro hh q hq
    rcases wO.1 hq with rfl|hq
    ·rw [ha,hb]
    ·exact hh q hq
   ·intro hh q hq
    exact hh q (z3 _ hq)
  ·refine ⟨false,by simp [Op.eqItems,p1,p2,p3,hab],?_⟩
   constructor
   ·intro hh;cases hh
   ·intro hh
    have:=hh j (by simp)
    rw [ha,hb] at this
    cases this
    exact absurd rfl hab
theorem c3v (w:World) (hu:P.underlying kt=some (.array n e)) (he:P.underlying e=some (.int i)) (hc:P.cellsOf e=1) {xs ys:Array Value} (hx:∀j,j<n→∃m,xs[j]?=some (.int i m)) (hy:∀j,j<n→∃m,ys[j]?=some (.int i m)) (sx:xs.size=n) (sy:ys.size=n) :
  ∃r:Bool,(Op.equal kt (.agg xs) (.agg ys)).run P w=.ok r w∧(r=true↔Value.agg xs=.agg ys):=by
 obtain ⟨inf,hi⟩:∃inf,P.info? e=some inf:=info_of_underlying he
 obtain ⟨r,hr,hiff⟩:=b2p w he hc 9998 xs ys (List.range n) fun j hj=>by
  obtain ⟨a,ha⟩:=hx j (List.mem_range.1 hj)
  obtain ⟨b,hb⟩:=hy j (List.mem_range.1 hj)
  exact ⟨a,b,ha,hb⟩
 refine ⟨r,?_,?_⟩
 ·show (Op.equalIn (9999+1) kt (.agg xs) (.agg ys)).run P w=_
  rw [run_equalIn_array w 9999 xs ys hu hi];exact hr
 ·rw [hiff,Value.agg.injEq]
  constructor
  ·intro hh
   refine Array.ext_getElem? fun j=>?_
   by_cases hj:j<n
   ·exact hh j (List.mem_range.2 hj)
   ·rw [Array.getElem?_eq_none (by omega),Array.getElem?_eq_none (by omega)]
  ·rintro rfl j _;rfl
theorem c3w (w:World) (he:P.underlying e=some (.int i)) (em:Bool) (q:Nat) (m:Int):(Instr.checkKey em (q+1) e (.int i m)).run P w=.ok () w:=by
 simp [Instr.checkKey,run_underlying he]
theorem c3x (w:World) (hu:P.underlying kt=some (.array n e)) (he:P.underlying e=some (.int i)) (hc:P.cellsOf e=1) {xs:Array Value} (hx:∀j,j<n→∃m,xs[j]?=some (.int i m)) (em:Bool):(Instr.checkKey em 10000 kt (.agg xs)).run P w=.ok () w:=by
 obtain ⟨inf,hi⟩:∃inf,P.info? e=some inf:=info_of_underlying he
 show (Instr.checkKey em (9999+1) kt (.agg xs)).run P w=_
 rw [Instr.checkKey]
 simp only [wT,run_underlying hu,xH]
 simp only [Std.Legacy.Range.forIn_eq_forIn_range',Std.Legacy.Range.size,Nat.sub_zero,Nat.add_one_sub_one,Nat.div_one]
 have each:∀j∈List.range' 0 n,∃m,xs[j]?=some (.int i m):=fun j hj=>hx j (by have:=List.mem_range'_1.1 hj;omega)
 generalize List.range' 0 n=is at each
 induction is with
 | nil=>simp
 | cons j is ih =>
  obtain ⟨m,hm⟩:=each j (by simp)
  have p1:=run_part_plain (P:=P) w (b7h he) (xs:=xs) (off:=j*P.cellsOf e) (by rw [hc,Nat.mul_one];exact hm)
  have p2:(Instr.checkKey em 9999 e (.int i m)).run P w=.ok () w:=c3w w he em 9998 m
  simp only [List.forIn_cons,wT,run_sizeOf w hi,xH,p1,p2,wS]
  exact ih fun q hq=>each q (z3 _ hq)
theorem b8e (q:Nat) (i:IntKind) (m:Int):Instr.sameBits q (.int i m) (.int i m)=true:=by cases q<;>simp [Instr.sameBits]
theorem b8f (q:Nat) (xs:Array Value) (h:∀p∈xs.toList.zip xs.toList,Instr.sameBits q p.1 p.2=true):Instr.sameBits (q+1) (.agg xs) (.agg xs)=true:=by
 simp only [Instr.sameBits,beq_self_eq_true,Bool.true_and,xX]
 exact h
theorem c62 {xs:Array Value} (hx:∀j,j<n→∃m,xs[j]?=some (.int i m)) (sx:xs.size=n):Instr.sameBits 10000 (.agg xs) (.agg xs)=true:=by
 refine b8f 9999 xs fun p hp=>?_
 generalize 9999=q
 obtain ⟨j,hj,ej⟩:=List.getElem_of_mem hp
 rw [List.getElem_zip] at ej
 have hj2:j<n:=by simp at hj;omega
 obtain ⟨m,hm⟩:=hx j hj2
 have:xs.toList[j]?=some (.int i m):=by simpa using hm
 have hj3:j<xs.toList.length:=by simp;omega
 have e2:xs.toList[j]=.int i m:=by
  rw [zJ hj3] at this
  exact x5 this
 rw [e2] at ej
 rw [←ej]
 exact b8e q i m
end
section
variable {S:Nat→Prop} {w:World} {kd:KD} {k:V} {v:Value}
theorem b3s.cons {S:Nat→Prop} {w:World} {kd:KD} {e:MapEntry} {l:List MapEntry} {kv:V×V} {es:List (V×V)} (h:b3s S w kd (e::l) (kv::es)):b3s S w kd l es :=
 ⟨by simpa using h.len,fun x hx=>h.key x (z3 _ hx),fun i ent kv hi hj=>h.rd (i+1) ent kv (by simpa using hi) (by simpa using hj)⟩
theorem c2t (hw:kd.wide=false) (hk:kd.is k=true) (hv:Rd S w v k):∀{l:List MapEntry} {es:List (V×V)} (i:Nat),b3s S w kd l es →
  (Instr.findNow kd.desc v l i=some none∧b5w k es=none∧(∀u,b2v k u es=es++[(k,u)])∧b6l k es=es∧∀x∈l,x.key≠v) ∨
  ∃j e kv,Instr.findNow kd.desc v l i=some (some (i+j,e.val))∧l[j]?=some e∧es[j]?=some kv∧e.key=v∧b5w k es=some kv.2∧(∀u,b2v k u es=es.set j (kv.1,u))∧b6l k es=es.eraseIdx j
 | [],[],i,_=>.inl ⟨rfl,rfl,fun _=>rfl,rfl,fun x hx=>by cases hx⟩
 | [],_::_,_,h=>by have:=h.len;simp at this
 | _::_,[],_,h=>by have:=h.len;simp at this
 | e::l,(a,b)::es,i,h=>by
  have hka:kd.is a=true:=h.key (a,b) (by simp)
  obtain ⟨ha,hb⟩:=h.rd 0 e (a,b) rfl rfl
  obtain ⟨r,hr,hiff⟩:=MapKept.sameNow_of_keys (KD.rd hw hk hv) (KD.rd hw hka ha)
  have heq:=KD.eq hk hka hv ha
  cases hq:keq k a with
  | true =>
   have e1:e.key=v:=heq.2 hq
   have:r=true:=hiff.2 e1.symm
   subst this
   exact .inr ⟨0,e,(a,b),by simp [Instr.findNow,hr],rfl,rfl,e1,by simp [b5w,hq],fun u=>by simp [b2v,hq],by simp [b6l,hq]⟩
  | false =>
   have hne:e.key≠v:=fun e1=>by rw [heq.1 e1] at hq;cases hq
   have:r=false:=by
    cases r with
    | false=>rfl
    | true=>exact absurd (hiff.1 rfl).symm hne
   subst this
   rcases c2t hw hk hv (i+1) h.cons with ⟨h1,h2,h3,h4,h5⟩|⟨j,e',kv,h1,h2,h3,h4,h5,h6,h7⟩
   ·refine .inl ⟨by simp [Instr.findNow,hr,h1],by simp [b5w,hq,h2],fun u=>by simp [b2v,hq,h3],by simp [b6l,hq,h4],fun x hx=>?_⟩
    rcases wO.1 hx with rfl|hx
    ·exact hne
    ·exact h5 x hx
   ·exact .inr ⟨j+1,e',kv,by simp [Instr.findNow,hr,h1];omega,by simpa using h2,by simpa using h3,h4,by simp [b5w,hq,h5],fun u=>by simp [b2v,hq,h6],by simp [b6l,hq,h7]⟩
theorem c2v {P:Program} {kt e0:TypeId} {n:Nat} {ik:IntKind} (hu:P.underlying kt=some (.array n e0)) (he:P.underlying e0=some (.int ik)) (hc:P.cellsOf e0=1) (hk:(KD.arr n ik).is k=true) (hv:Rd S w v k):∀{l:List MapEntry} {es:List (V×V)} (i:Nat),b3s S w (.arr n ik) l es →
  ((Instr.findAsking kt v l i).run P w=.ok none w∧b5w k es=none∧(∀u,b2v k u es=es++[(k,u)])∧b6l k es=es∧∀x∈l,x.key≠v) ∨
  ∃j e kv,(Instr.findAsking kt v l i).run P w=.ok (some (i+j,e.val)) w∧l[j]?=some e∧es[j]?=some kv∧e.key=v∧b5w k es=some kv.2∧(∀u,b2v k u es=es.set j (kv.1,u))∧b6l k es=es.eraseIdx j
 | [],[],i,_=>.inl ⟨by simp [Instr.findAsking],rfl,fun _=>rfl,rfl,fun x hx=>by cases hx⟩
 | [],_::_,_,h=>by have:=h.len;simp at this
 | _::_,[],_,h=>by have:=h.len;simp at this
 | e::l,(a,b)::es,i,h=>by
  have hka:(KD.arr n ik).is a=true:=h.key (a,b) (by simp)
  obtain ⟨ha,hb⟩:=h.rd 0 e (a,b) rfl rfl
  have hk1:e.key=e.key:=rfl
  obtain ⟨cs,vs,e1,e2,l1,s1,q1⟩:=KD.rdA hk hv
  obtain ⟨ds,us,e3,e4,l2,s2,q2⟩:=KD.rdA hka ha
  have heq:=KD.eq hk hka hv ha
  obtain ⟨r,hr,hiff⟩:=c3v w hu he hc (xs:=vs) (ys:=us) (fun j hj=>by obtain ⟨m,_,_,hm⟩:=q1 j hj;exact ⟨m,hm⟩) (fun j hj=>by obtain ⟨m,_,_,hm⟩:=q2 j hj;exact ⟨m,hm⟩) s1 s2
  rw [←e2,←e4] at hr hiff
  cases hq:keq k a with
  | true =>
   have e1:e.key=v:=heq.2 hq
   have:r=true:=hiff.2 e1.symm
   subst this
   exact .inr ⟨0,e,(a,b),by simp [Instr.findAsking,hr],rfl,rfl,e1,by simp [b5w,hq],fun u=>by simp [b2v,hq],by simp [b6l,hq]⟩
  | false =>
   have hne:e.key≠v:=fun e1=>by rw [heq.1 e1] at hq;cases hq
   have:r=false:=by
    cases r with
    | false=>rfl
    | true=>exact absurd (hiff.1 rfl).symm hne
   subst this
   rcases c2v hu he hc hk hv (i+1) h.cons with ⟨h1,h2,h3,h4,h5⟩|⟨j,e',kv,h1,h2,h3,h4,h5,h6,h7⟩
   ·refine .inl ⟨by simp [Instr.findAsking,hr,h1],by simp [b5w,hq,h2],fun u=>by simp [b2v,hq,h3],by simp [b6l,hq,h4],fun x hx=>?_⟩
    rcases wO.1 hx with rfl|hx
    ·exact hne
    ·exact h5 x hx
   ·exact .inr ⟨j+1,e',kv,by simp [Instr.findAsking,hr,h1];omega,by simpa using h2,by simpa using h3,h4,by simp [b5w,hq,h5],fun u=>by simp [b2v,hq,h6],by simp [b6l,hq,h7]⟩
theorem b0e {P:Program} {kt:TypeId} (hd:KOK P kt kd) (hk:kd.is k=true) (hv:Rd S w v k) {l:List MapEntry} {es:List (V×V)} (he:b3s S w kd l es) :
  ((Instr.findKey kt v l).run P w=.ok none w∧b5w k es=none∧(∀u,b2v k u es=es++[(k,u)])∧b6l k es=es∧∀x∈l,x.key≠v) ∨
  ∃j e kv,(Instr.findKey kt v l).run P w=.ok (some (0+j,e.val)) w∧l[j]?=some e∧es[j]?=some kv∧e.key=v∧b5w k es=some kv.2∧(∀u,b2v k u es=es.set j (kv.1,u))∧b6l k es=es.eraseIdx j:=by
 cases hd with
 | plain hw h =>
  rcases c2t hw hk hv 0 he with ⟨h1,h2⟩|⟨j,e,kv,h1,h2⟩
  ·exact .inl ⟨MapKept.run_findKey h h1,h2⟩
  ·exact .inr ⟨j,e,kv,MapKept.run_findKey h h1,h2⟩
 | arr h h1 h2 =>
  rw [run_findKey_eq w (by rw [h])]
  exact c2v h h1 h2 hk hv 0 he
theorem c0d {P:Program} {kt:TypeId} (hd:KOK P kt kd):(Instr.findKey kt v []).run P w=.ok none w:=by
 cases hd with
 | plain hw h=>exact MapKept.run_findKey h rfl
 | arr h h1 h2=>rw [run_findKey_eq w (by rw [h])];simp [Instr.findAsking]
theorem d07 {P:Program} {kt:TypeId} (hd:KOK P kt kd) (hk:kd.is k=true) (hv:Rd S w v k):(Instr.keyThatStays v v).run P w=.ok v w:=by
 cases hd with
 | plain hw h=>exact MapKept.run_keyThatStays (KD.rd hw hk hv)
 | arr h h1 h2 =>
  obtain ⟨cs,vs,rfl,rfl,l1,s1,q1⟩:=KD.rdA hk hv
  have:=c62 (xs:=vs) (fun j hj=>by obtain ⟨m,_,_,hm⟩:=q1 j hj;exact ⟨m,hm⟩) s1
  simp [Instr.keyThatStays,this]
theorem b3s.push {l:List MapEntry} {es:List (V×V)} (h:b3s S w kd l es) (hk:kd.is k=true) (hv:Rd S w v k) {u:V} {x:Value} (hu:Rd S w x u) (clock:Nat) :
  b3s S w kd (l++[{ key:=v,val:=x,born:=clock }]) (es++[(k,u)]):=by
 refine ⟨by simp [h.len],fun kv hm=>?_,fun i ent kv hi hj=>?_⟩
 ·rcases wC.1 hm with hm|hm
  ·exact h.key kv hm
  ·simp at hm;subst hm;exact hk
 ·by_cases hlt:i<l.length
  ·rw [zH hlt] at hi
   rw [zH (by rw [←h.len];exact hlt)] at hj
   exact h.rd i ent kv hi hj
  ·rw [zD (by omega)] at hi
   rw [zD (by have:=h.len;omega),←h.len] at hj
   cases hd:i - l.length with
   | zero=>rw [hd] at hi hj;simp at hi hj;subst hi hj;exact ⟨hv,hu⟩
   | succ m=>rw [hd] at hi;simp at hi
theorem b3s.modify {l l':List MapEntry} {es:List (V×V)} (h:b3s S w kd l es) {j:Nat} {e:MapEntry} {kv:V×V} (he:l[j]?=some e) (hj:es[j]?=some kv) {u:V} {x:Value} (hu:Rd S w x u)
  (hl:l'.length=l.length) (h1:∀e',l'[j]?=some e'→e'.key=e.key∧e'.val=x) (h2:∀i,i≠j→l'[i]?=l[i]?):b3s S w kd l' (es.set j (kv.1,u)):=by
 refine ⟨by simp [hl,h.len],fun q hm=>?_,fun i ent q hi hq=>?_⟩
 ·rcases List.mem_or_eq_of_mem_set hm with hm|hm
  ·exact h.key q hm
  ·subst hm;exact h.key kv (zZ hj)
 ·by_cases hij:i=j
  ·subst hij
   have hlt:i<es.length:=(zG.1 hj).1
   rw [List.getElem?_set_self hlt] at hq
   cases hq
   obtain ⟨e1,e2⟩:=h1 ent hi
   exact ⟨by rw [e1];exact (h.rd i e kv he hj).1,by rw [e2];exact hu⟩
  ·rw [h2 i hij] at hi
   rw [List.getElem?_set_ne (fun e=>hij e.symm)] at hq
   exact h.rd i ent q hi hq
theorem b3s.erase {l:List MapEntry} {es:List (V×V)} (h:b3s S w kd l es) (j:Nat):b3s S w kd (l.eraseIdx j) (es.eraseIdx j):=by
 refine ⟨by simp [List.length_eraseIdx,h.len],fun kv hm=>h.key kv (List.mem_of_mem_eraseIdx hm),fun i ent kv hi hj=>?_⟩
 rw [List.getElem?_eraseIdx] at hi hj
 split at hi
 ·rename_i hlt;rw [if_pos hlt] at hj;exact h.rd i ent kv hi hj
 ·rename_i hlt;rw [if_neg hlt] at hj;exact h.rd (i+1) ent kv hi hj
end
section
variable {P:Program} {w:World}
theorem d0i {r m clock:Nat} {ty:TypeId} {seen:Array Nat} {es:Array MapEntry} (hr:w.heap[r]?=some (.mapIter (some m) clock seen clock)) (hb:w.heap[m]?=some (.map es clock)) (hold:∀x∈es.toList,x.born<clock) :
  ((es.toList.filter fun e=>!seen.contains e.born)=[]∧(Instr.next (.pointer (some ⟨r,0,none⟩)) false ty).run P w=.ok (.tuple #[.bool false]) w) ∨
  ∃(i:Nat) (e:MapEntry) (w1:World),(es.toList.filter fun e=>!seen.contains e.born)[i]?=some e∧w1.heap=w.heap∧w1.os=w.os∧w1.output=w.output∧w1.tape=w.tape ∧
   (Instr.next (.pointer (some ⟨r,0,none⟩)) false ty).run P w=.ok (.tuple #[.bool true,e.key,e.val]) { w1 with heap:=w1.heap.setIfInBounds r (.mapIter (some m) clock (seen.push e.born) clock) }:=by
 simp only [Instr.next,getObj,wT,Sem.run,hr,hb,Result.andThen,next_test_false seen es clock clock hold (w8 _),xF,if_false]
 have hlist:(es.toList.filter fun e=>!seen.contains e.born)=(es.filter fun e=>!seen.contains e.born).toList:=by simp
 rw [hlist]
 have hmem:∀x∈(Array.filter (fun e=>!seen.contains e.born) es).toList,x.born<clock:=fun x hx=>hold x (by simp at hx ⊢;exact hx.1)
 generalize Array.filter (fun e=>!seen.contains e.born) es=L at hmem ⊢
 have e1:L.filter (fun x=>decide (x.born<clock))=L:=Array.filter_eq_self.2 (fun x hx=>by simpa using hmem x (by simpa using hx))
 have e2:L.filter (fun x=>decide (x.born≥clock))=#[]:=by
  rw [Array.filter_eq_empty_iff]
  intro x hx
  have:=hmem x (by simpa using hx)
  simp
  omega
 simp only [e1,e2,Array.append_empty]
 by_cases h0:L.size=0
 ·left
  have:L=#[]:=Array.eq_empty_of_size_eq_zero h0
  subst this
  refine ⟨rfl,?_⟩
  simp [choose,Sem.run,Question.forced]
 ·right
  have hne:L.isEmpty=false:=by simp [Array.isEmpty,h0]
  simp only [hne,xF,if_false,Array.empty_append,Array.size_map]
  have hch:∃(j:Nat) (w1:World),j<L.size∧w1.heap=w.heap∧w1.os=w.os∧w1.output=w.output∧w1.tape=w.tape∧(choose (Question.mapNext L.size)).run P w=.ok j w1:=by
   by_cases hf:L.size≤1
   ·exact ⟨0,w,by omega,rfl,rfl,rfl,rfl,by simp [choose,Sem.run,Question.forced,hf]⟩
   ·exact ⟨_,w.drew,Nat.mod_lt _ (by omega),rfl,rfl,rfl,rfl,by
     simp only [choose,Sem.run,Question.forced,xG,hf,if_false,Question.cut]
     rfl⟩
  obtain ⟨j,w1,hj,q1,q2,q3,q4,hrun⟩:=hch
  refine ⟨j,L[j],w1,by simp [hj],q1,q2,q3,q4,?_⟩
  have hset:∀(o':Obj),(setObj r o').run P w1=.ok () { w1 with heap:=w1.heap.setIfInBounds r o' }:=fun o'=>by
   simp only [setObj,Sem.run,q1,hr]
  simp only [hrun,Array.getElem?_map,zI hj,x6,wT,hset,Result.andThen]
  rfl
theorem b8g {r:Nat} {ty:TypeId} {x:Nat} {y:Array Nat} {z:Nat} (hr:w.heap[r]?=some (.mapIter none x y z)):(Instr.next (.pointer (some ⟨r,0,none⟩)) false ty).run P w=.ok (.tuple #[.bool false]) w:=by
 simp only [Instr.next,getObj,wT,Sem.run,hr,Result.andThen]
 rfl
theorem b8t {seen:Array Nat} {e:MapEntry}:∀{l:List MapEntry} {i:Nat},(l.map (·.born)).Nodup→(l.filter fun e=>!seen.contains e.born)[i]?=some e →
  (l.filter fun x=>!(seen.push e.born).contains x.born)=(l.filter fun e=>!seen.contains e.born).eraseIdx i:=by
 have hc:∀x:MapEntry,(!(seen.push e.born).contains x.born)=(!seen.contains x.born&&!(x.born==e.born)):=fun x=>by
  rw [wJ];simp [Array.mem_push,not_or]
 have hother:∀l:List MapEntry,(∀x∈l,x.born≠e.born)→(l.filter fun x=>!(seen.push e.born).contains x.born)=l.filter fun e=>!seen.contains e.born:=fun l h=>by
  refine List.filter_congr fun x hx=>?_
  rw [hc]
  simp [h x hx]
 intro l
 induction l with
 | nil=>intro i _ h;simp at h
 | cons x l ih =>
  intro i hn h
  simp only [wP,List.nodup_cons] at hn
  by_cases hx:seen.contains x.born=true
  ·have h1:(!seen.contains x.born)=false:=by rw [hx];rfl
   have h2:(!(seen.push e.born).contains x.born)=false:=by rw [hc,h1];rfl
   simp only [List.filter_cons,h1,xF,if_false] at h ⊢
   rw [h2]
   exact ih hn.2 h
  ·have h1:(!seen.contains x.born)=true:=by rw [Bool.not_eq_true] at hx;rw [hx];rfl
   simp only [List.filter_cons,h1,if_true] at h ⊢
   cases i with
   | zero =>
    simp at h;subst h
    have h2:(!(seen.push x.born).contains x.born)=false:=by rw [hc];simp
    simp only [h2,xF,if_false,List.eraseIdx_zero,List.tail_cons]
    exact hother l fun y hy hb=>hn.1 (wZ.2 ⟨y,hy,hb⟩)
   | succ i =>
    simp only [zN] at h
    have hm:e∈l:=(wB.1 (zZ h)).1
    have hne:x.born≠e.born:=fun hb=>hn.1 (wZ.2 ⟨e,hm,hb.symm⟩)
    have h2:(!(seen.push e.born).contains x.born)=true:=by rw [hc,h1];simp [hne]
    simp only [h2,if_true,List.eraseIdx_cons_succ]
    rw [ih hn.2 h]
end
section
variable {P:Program} {o:Oper} {c:Ctx} {g:Gh} {σ:St} {a:Act} {w:World} {ob:Nat→Option a03} {K L:Eff→Prop} {K':Act→World→Prop} {Q':Exit→Act→World→Prop}
theorem Fin.mk'L (hF:Fin o c g σ a w K L K') {eff:Eff} (hk:L eff) {g':Gh} {v:Value} {w':World} (hrun:(execOp a.eval o).run P w=.ok (.value v) w') (h1:q9 g σ.heap w eff g' w') (h2:a0l c.H0 g g' σ eff) (h3:VR g' w' v eff.val):o.wp P a w K' Q':=by
 unfold Oper.wp
 rw [hrun]
 exact hF eff (.inr hk) g' v w' h1 h2 h3
theorem a6s {t:TypeId} {kd:Option KD} {z:Option V} (h:isMap P t kd z=true):∃kt et,P.underlying t=some (.map kt et)∧(∀k,kd=some k→KOK P kt k) ∧
  (∀y,z=some y→∃u,(∀w':World,(zeroValue et).run P w'=.ok u w')∧cOK y u=true):=by
 unfold isMap at h
 split at h
 case h_2=>cases h
 rename_i kt et hu
 simp only [xY] at h
 obtain ⟨⟨h1,_⟩,h3⟩:=h
 refine ⟨kt,et,hu,fun k hk=>?_,fun y hy=>?_⟩
 ·subst hk
  simp only at h1
  split at h1
  ·rename_i i j e
   have:=a7x h1;subst this;exact .plain rfl e
  ·rename_i e;exact .plain rfl e
  ·rename_i e;exact .plain rfl e
  ·rename_i n e m j hu
   simp only [xY] at h1
   obtain ⟨⟨⟨⟨h1,h2⟩,_⟩,h4⟩,_⟩:=h1
   have:=zR h1;subst this
   split at h2
   ·rename_i i hi
    have:=a7x h2;subst this
    exact .arr hu hi (zR h4)
   ·cases h2
  ·cases h1
 ·subst hy
  simp only at h3
  split at h3
  ·rename_i i hi
   split at h3
   ·rename_i u hz
    exact ⟨u,fun w'=>by simp [zeroValue,typeInfo,hi,hz],h3⟩
   ·cases h3
  ·cases h3
theorem VR.nilm_inv {v:Value} (h:VR g w v .nilm):v=.map none:=by
 cases h with|rd h=>cases h;rfl
theorem b8q {v:Value} {x:V} {Km:KD→List (V×V)→Prop} (hR:a2o P g w σ.heap) (hob:∀id o,ob id=some o→find id σ.heap=some o) (vx:VR g w v x) (h:b1s x ob Km) :
  ∃b kd es ents clock,v=.map (some b)∧w.heap[b]?=some (.map ents clock)∧b3s g.S w kd ents.toList es∧Km kd es:=by
 unfold b1s at h
 split at h
 ·rename_i kd es
  cases vx with
  | rd hr =>
   cases hr with
   | smap b _ ents clock _ hS hg hl hk hb hn hr1 hr2 =>
    exact ⟨b,kd,es,ents,clock,rfl,hg,⟨by simpa using hl,hk,fun i ent kv hi hj=>⟨hr1 i ent kv (by simpa using hi) hj,hr2 i ent kv (by simpa using hi) hj⟩⟩,h⟩
 ·rename_i id
  split at h
  ·rename_i kd es hobj
   obtain ⟨_,ents,clock,h1,h2,_⟩:=hR.obj _ _ (hob _ _ hobj)
   exact ⟨_,kd,es,ents,clock,vx.omap_inv,h1,h2,h⟩
  ·rename_i kd es hobj
   obtain ⟨_,ents,clock,h1,h2,_⟩:=hR.obj _ _ (hob _ _ hobj)
   exact ⟨_,kd,es,ents,clock,vx.omap_inv,h1,h2,h⟩
  ·exact h.elim
 ·exact h.elim
theorem a3e {t:TypeId} {kd:KD} {k:V} {v:Value} {S:Nat→Prop} {w0:World} (hd:KOK P t kd) (hk:kd.is k=true) (hv:Rd S w0 v k) (e:Bool):(Instr.checkKey e 10000 t v).run P w=.ok () w:=by
 cases hd with
 | plain hw h=>exact MapKept.run_checkKey h (KD.rd hw hk hv) e 9999
 | arr h h1 h2 =>
  obtain ⟨cs,vs,rfl,rfl,l1,s1,q1⟩:=KD.rdA hk hv
  exact c3x w h h1 h2 (fun j hj=>by obtain ⟨m,_,_,hm⟩:=q1 j hj;exact ⟨m,hm⟩) e
theorem b4v (ok:Bool) (z:V) {v:Value} (h:VR g w v z):VR g w (if ok=true then .tuple #[v,.bool false] else v) (a5z ok z none):=by
 cases ok with
 | false=>exact h
 | true =>
  refine .tup _ _ rfl fun i c hc=>?_
  match i,hc with
  | 0,hc=>simp at hc;subst hc;exact h
  | 1,hc=>simp at hc;subst hc;exact .rd (.bool _)
  | n+2,hc=>simp at hc
theorem c0p (ok:Bool) (z x:V) {v:Value} (h:VR g w v x):VR g w (if ok=true then .tuple #[v,.bool true] else v) (a5z ok z (some x)):=by
 cases ok with
 | false=>exact h
 | true =>
  refine .tup _ _ rfl fun i c hc=>?_
  match i,hc with
  | 0,hc=>simp at hc;subst hc;exact h
  | 1,hc=>simp at hc;subst hc;exact .rd (.bool _)
  | n+2,hc=>simp at hc
theorem VR.nsmap_inv {m p:Nat} {kd:KD} {es:List (V×V)} {v:Value} (h:VR g w v (.nsmap m p kd es)):∃b ents clock,v=.map (some b)∧w.heap[b]?=some (.map ents clock)∧b3s g.S w kd ents.toList es ∧
  ∀(i:Nat) (ent:MapEntry) (kv:V×V),ents[i]?=some ent→es[i]?=some kv→∃xs,kv.2=.sl xs∧a8z g.S (g.base m) p w ent.val xs:=by
 cases h with
 | rd h=>cases h
 | nsmap b _ _ _ ents clock _ hr hS hg hn =>
  refine ⟨b,ents,clock,rfl,hg,?_,hn⟩
  cases hr with
  | smap _ _ ents' clock' _ hS' hg' hl hk hb hn' hr1 hr2 =>
   rw [hg] at hg';cases hg'
   exact ⟨by simpa using hl,hk,fun i ent kv h1 h2=>⟨hr1 i ent kv (by simpa using h1) h2,hr2 i ent kv (by simpa using h1) h2⟩⟩
theorem d45 (ok:Bool) {m p:Nat} {o:Option V} {v:Value} {b:Bool} (hb:o.isSome=b) (h:VR g w v (f4z m p o)):VR g w (if ok=true then .tuple #[v,.bool b] else v) (b6m ok m p o):=by
 cases ok with
 | false=>exact h
 | true =>
  refine .tup _ _ rfl fun i c hc=>?_
  match i,hc with
  | 0,hc=>simp [b6m] at hc;subst hc;exact h
  | 1,hc=>simp [b6m] at hc;subst hc;rw [hb];exact .rd (.bool _)
  | n+2,hc=>simp [b6m] at hc
theorem c7e {z:V} {u:Value} (h:z.isNilS=true) (hu:cOK z u=true):u=.slice none 0 0:=by
 cases z<;>try (simp [V.isNilS] at h;done)
 ·unfold cOK at hu;split at hu<;>first|rfl|(simp at *;done)
 ·rename_i xs
  cases xs with
  | nil=>unfold cOK at hu;split at hu<;>first|rfl|(simp at *;done)
  | cons x r=>simp [V.isNilS] at h
theorem f3s {kd:KD} {ok:Bool} {z:V} {xs:List Opd} (hok:a09 P (.lku kd ok z) xs o.op=true) (hR:Rel P c g σ a w) (hob:∀id o,ob id=some o→find id σ.heap=some o) {d:Nat}
  (h:a0v (.lku kd ok z) d (xs.map (·.ev σ.env)) ob K L) (hF:Fin o c g σ a w K L K'):o.wp P a w K' Q':=by
 obtain ⟨x,k,t,x',k',rfl,ho,hx,hk,hm⟩:∃x k t x' k',xs=[x,k]∧o.op=.lookup t x' k' ok∧x.ok x'=true∧k.ok k'=true∧isMap P t (some kd) (some z)=true:=by
  cases ho:o.op<;>rw [ho] at hok<;>try (simp [a09] at hok;done)
  rename_i t x' k' c'
  simp only [a09,xY,beq_iff_eq] at hok
  obtain ⟨⟨h1,rfl⟩,h3⟩:=hok
  split at h1
  ·rename_i x k
   simp only [xY] at h1
   exact ⟨x,k,t,x',k',rfl,rfl,h1.1,h1.2,h3⟩
  ·cases h1
 obtain ⟨kt,et,hu,hkd,hz⟩:=a6s hm
 have hd:=hkd kd rfl
 obtain ⟨u,hzero,hzu⟩:=hz z rfl
 have vx:=Opd.vr hR hx
 have vk:=Opd.vr hR hk
 simp only [a0v,wP,w4] at h
 have hex:(execOp a.eval o)=(do pure (Next.value (←Instr.lookup t (a.eval x') (a.eval k') ok)):Sem Next):=by simp [execOp,ho]
 split at h
 ·rename_i hc
  cases hkk:kd.is (k.ev σ.env) with
  | false=>rw [hkk] at h;exact h.elim
  | true =>
   rw [hkk] at h
   have hrk:=KD.vrd hkk vk
   have e1:a.eval x'=.map none:=by rw [hc] at vx;exact vx.nilm_inv
   have hck:=fun e=>a3e (w:=w) hd hkk hrk e
   have hfk:(Instr.findKey kt (a.eval k') []).run P w=.ok none w:=c0d hd
   refine z8 hR hF (v:=if ok=true then .tuple #[u,.bool false] else u) ?_ (.inl h) (b4v ok z (.rd (b6t hzu)))
   rw [hex]
   refine a6b ?_
   rw [e1]
   simp [Instr.lookup,run_underlying hu,hck,hfk,hzero w,Result.andThen]
 ·rename_i m p kd' es hx0
  rw [hx0] at vx
  obtain ⟨b,ents,clock,e1,hb,he,hnr⟩:=vx.nsmap_inv
  cases hkk:kd.is (k.ev σ.env)&&kd'.is (k.ev σ.env)&&z.isNilS with
  | false=>rw [hkk] at h;exact h.elim
  | true =>
   rw [hkk] at h
   simp only [xY] at hkk
   obtain ⟨hkk,hzn⟩:=hkk
   have:=KD.same hkk.1 hkk.2;subst this
   have hrk:=KD.vrd hkk.1 vk
   have hck:=fun e=>a3e (w:=w) hd hkk.1 hrk e
   rcases b0e hd hkk.1 hrk he with ⟨h1,h2,_⟩|⟨j,e,kv,h1,h2,h3,h4,h5,_⟩
   ·rw [h2] at h
    have hfk:(Instr.findKey kt (a.eval k') ents.toList).run P w=.ok none w:=h1
    refine z8 hR hF (v:=if ok=true then .tuple #[u,.bool false] else u) ?_ (.inl h) (d45 ok rfl (.nsl m p [] _ (.inl ⟨c7e hzn hzu,rfl⟩)))
    rw [hex]
    refine a6b ?_
    rw [e1]
    simp [Instr.lookup,run_underlying hu,MapKept.run_getObj_map hb,hck,hfk,hzero w,Result.andThen]
   ·rw [h5] at h
    obtain ⟨xs,e2,hnw⟩:=hnr j e kv (by simpa using h2) h3
    have hfk:(Instr.findKey kt (a.eval k') ents.toList).run P w=.ok (some (0+j,e.val)) w:=h1
    refine z8 hR hF (v:=if ok=true then .tuple #[e.val,.bool true] else e.val) ?_ (.inl h) (d45 ok rfl (by rw [e2];exact .nsl m p xs _ hnw))
    rw [hex]
    refine a6b ?_
    rw [e1]
    simp [Instr.lookup,run_underlying hu,MapKept.run_getObj_map hb,hck,hfk,Result.andThen]
 ·rename_i x0 hne
  obtain ⟨b,kd',es,ents,clock,e1,hb,he,hK⟩:=b8q hR.hp hob vx h
  cases hkk:kd.is (k.ev σ.env)&&kd'.is (k.ev σ.env) with
  | false=>rw [hkk] at hK;exact hK.elim
  | true =>
   rw [hkk] at hK
   simp only [xY] at hkk
   have:=KD.same hkk.1 hkk.2;subst this
   have hrk:=KD.vrd hkk.1 vk
   have hck:=fun e=>a3e (w:=w) hd hkk.1 hrk e
   rcases b0e hd hkk.1 hrk he with ⟨h1,h2,_⟩|⟨j,e,kv,h1,h2,h3,h4,h5,_⟩
   ·rw [h2] at hK
    have hfk:(Instr.findKey kt (a.eval k') ents.toList).run P w=.ok none w:=h1
    refine z8 hR hF (v:=if ok=true then .tuple #[u,.bool false] else u) ?_ (.inl hK) (b4v ok z (.rd (b6t hzu)))
    rw [hex]
    refine a6b ?_
    rw [e1]
    simp [Instr.lookup,run_underlying hu,MapKept.run_getObj_map hb,hck,hfk,hzero w,Result.andThen]
   ·rw [h5] at hK
    have hfk:(Instr.findKey kt (a.eval k') ents.toList).run P w=.ok (some (0+j,e.val)) w:=h1
    refine z8 hR hF (v:=if ok=true then .tuple #[e.val,.bool true] else e.val) ?_ (.inl hK) (c0p ok z kv.2 (.rd (he.rd j e kv h2 h3).2))
    rw [hex]
    refine a6b ?_
    rw [e1]
    simp [Instr.lookup,run_underlying hu,MapKept.run_getObj_map hb,hck,hfk,Result.andThen]
theorem g1r {kd:KD} {xs:List Opd} (hok:a09 P (.mk kd) xs o.op=true) (hR:Rel P c g σ a w) {d:Nat} (hcl:Clean c σ d)
  (h:a0v (.mk kd) d (xs.map (·.ev σ.env)) ob K L) (hF:Fin o c g σ a w K L K'):o.wp P a w K' Q':=by
 obtain ⟨t,rfl,ho⟩:∃t,xs=[]∧o.op=.makeMap t none:=by
  cases ho:o.op<;>rw [ho] at hok<;>try (simp [a09] at hok;done)
  rename_i t r
  cases r<;>simp [a09] at hok
  obtain ⟨_,h2⟩:=hok
  split at h2
  ·exact ⟨t,rfl,rfl⟩
  ·cases h2
 simp only [a0v,w4] at h
 have hrun:(execOp a.eval o).run P w=.ok (.value (.map (some w.heap.size))) (w.alloc (.map #[] 0)):=by
  simp [execOp,ho,Instr.makeMap]
 have hh:(w.alloc (.map #[] 0)).heap=w.heap.push (.map #[] 0):=rfl
 have e1:(g.set d w.heap.size 0 0).ρ d=w.heap.size:=by simp [Gh.set]
 have e4:¬(g.set d w.heap.size 0 0).nil d:=by simp [Gh.set]
 refine Fin.mk' hF h hrun (q9.alloc _ d 0 0 _ (.map #[] 0) hR.hp.lt rfl rfl rfl hh ?_) (a0l.of_clean hcl) ?_
 ·refine ⟨e4,#[],0,by rw [e1,hh];simp,⟨rfl,(fun kv h=>by cases h),(fun i ent kv hi=>by simp at hi)⟩,by simp,by simp⟩
 ·have:=VR.omap (g:=g.set d w.heap.size 0 0) (w:=w.alloc (.map #[] 0)) d
  rw [e1] at this
  exact this
theorem b8o {l:List MapEntry} {l':List MapEntry} (h:(l.map (·.born)).Nodup) (hl:l'.map (·.born)=l.map (·.born)):(l'.map (·.born)).Nodup:=by rw [hl];exact h
theorem c04 {kd:KD} {t kt et:TypeId} {r:Nat} {ents:Array MapEntry} {clock:Nat} {es:List (V×V)} {kv yv:Value} {kx:V} (hu:P.underlying t=some (.map kt et)) (hd:KOK P kt kd)
  (hb:w.heap[r]?=some (.map ents clock)) (he:b3s g.S w kd ents.toList es) (hb1:∀ent∈ents.toList,ent.born<clock) (hb2:(ents.toList.map (·.born)).Nodup) (hk1:kd.is kx=true) (hrk:Rd g.S w kv kx) :
  ∃ents' clock',(Instr.mapUpdate t (.map (some r)) kv yv).run P w=.ok () { w with heap:=w.heap.setIfInBounds r (.map ents' clock') } ∧
   (∀(S':Nat→Prop) (w':World) (y:V),a1l g.S w w'→(∀b,g.S b→S' b)→Rd S' w' yv y→b3s S' w' kd ents'.toList (b2v kx y es))∧(∀ent∈ents'.toList,ent.born<clock')∧(ents'.toList.map (·.born)).Nodup  ∧
   ∀(y:V) (i:Nat) (ent:MapEntry) (q:V×V),ents'[i]?=some ent→(b2v kx y es)[i]?=some q→(ent.val=yv∧q.2=y)∨(ents[i]?=some ent∧es[i]?=some q):=by
 have hck:=fun e=>a3e (w:=w) hd hk1 hrk e
 rcases b0e hd hk1 hrk he with ⟨h1,_,h3,_,h5⟩|⟨j,e,q,h1,h2,h3,h4,_,h6,_⟩
 ·have hfk:(Instr.findKey kt kv ents.toList).run P w=.ok none w:=h1
  refine ⟨ents.push { key:=kv,val:=yv,born:=clock },clock+1,?_,fun S' w' y hw hs hy=>?_,fun ent hm=>?_,?_,fun y i ent q hi hq=>?_⟩
  ·simp [Instr.mapUpdate,run_underlying hu,MapKept.run_getObj_map hb,hck,hfk,MapKept.run_setObj_map _ hb,Result.andThen]
  ·rw [h3,Array.toList_push]
   exact (he.mono hw hs).push hk1 (hrk.mono hw hs) hy clock
  ·rw [Array.toList_push] at hm
   rcases wC.1 hm with hm|hm
   ·have:=hb1 ent hm;omega
   ·simp at hm;subst hm;simp
  ·rw [Array.toList_push,List.map_append,List.nodup_append]
   refine ⟨hb2,by simp,fun x hx y hy=>?_⟩
   simp at hy;subst hy
   obtain ⟨q,hq,rfl⟩:=wZ.1 hx
   have:=hb1 q hq
   omega
  ·rw [h3] at hq
   have hl:=he.len
   simp only [z6] at hl
   rw [Array.getElem?_push] at hi
   by_cases hij:i=ents.size
   ·rw [if_pos hij] at hi;cases hi
    rw [zD (by omega),show i - es.length=0 by omega] at hq
    simp at hq;subst hq;exact .inl ⟨rfl,rfl⟩
   ·rw [if_neg hij] at hi
    have:=(zF.1 hi).1
    rw [zH (by omega)] at hq
    exact .inr ⟨hi,hq⟩
 ·have hj:ents[j]?=some e:=by simpa using h2
  have hfk:(Instr.findKey kt kv ents.toList).run P w=.ok (some (0+j,e.val)) w:=h1
  have hst:=d07 (P:=P) hd hk1 hrk
  have hget:∀i,(ents.modify j fun e=>{ e with key:=kv,val:=yv }).toList[i]?=if j=i then (ents.toList[i]?).map (fun e=>{ e with key:=kv,val:=yv }) else ents.toList[i]?:=fun i=>by
   simp only [zU,zV]
  refine ⟨ents.modify j fun e=>{ e with key:=kv,val:=yv },clock,?_,fun S' w' y hw hs hy=>?_,fun ent hm=>?_,?_,fun y i ent q' hi hq=>?_⟩
  ·simp only [wU] at hfk
   simp [Instr.mapUpdate,run_underlying hu,MapKept.run_getObj_map hb,hck,hfk,hj,h4,hst,MapKept.run_setObj_map _ hb,Result.andThen]
  ·rw [h6]
   refine (he.mono hw hs).modify h2 h3 hy (by simp) (fun e' hi=>?_) fun i hi=>?_
   ·rw [hget,if_pos rfl,h2] at hi
    simp at hi;subst hi
    exact ⟨h4.symm,rfl⟩
   ·rw [hget,if_neg (fun e=>hi e.symm)]
  ·obtain ⟨i,hi⟩:=zS.1 hm
   rw [hget] at hi
   split at hi
   ·rename_i hij;subst hij
    rw [h2] at hi;simp at hi;subst hi
    exact hb1 e (zZ h2)
   ·exact hb1 ent (zZ hi)
  ·refine b8o hb2 (xM fun i=>?_)
   rw [xK,xK,hget]
   split
   ·cases ents.toList[i]?<;>rfl
   ·rfl
  ·rw [h6] at hq
   rw [zV] at hi
   by_cases hij:j=i
   ·subst hij
    rw [if_pos rfl,hj] at hi
    simp at hi;subst hi
    rw [List.getElem?_set_self (zG.1 h3).1] at hq;cases hq
    exact .inl ⟨rfl,rfl⟩
   ·rw [if_neg hij] at hi
    rw [List.getElem?_set_ne hij] at hq
    exact .inr ⟨hi,hq⟩
theorem c5p {xs:List Opd} {op:Op} {kd:KD} {m:b9t} (hm:m=.up kd∨m=.ups kd) (hok:a09 P m xs op=true):∃x k y t x' k' y',xs=[x,k,y]∧(op=.mapUpdate t x' k' y'∨op=.insert t x' k' y')∧x.ok x'=true∧k.ok k'=true∧y.ok y'=true∧isMap P t (some kd) none=true:=by
 rcases hm with rfl|rfl<;>cases op<;>try (simp [a09] at hok;done)
 all_goals
  rename_i t x' k' y'
  simp only [a09,xY] at hok
  obtain ⟨h1,h3⟩:=hok
  split at h1
  ·rename_i x k y
   simp only [xY] at h1
   exact ⟨x,k,y,t,x',k',y',rfl,by simp,h1.1.1,h1.1.2,h1.2,h3⟩
  ·cases h1
theorem g1l {kd:KD} {xs:List Opd} (hok:a09 P (.up kd) xs o.op=true) (hR:Rel P c g σ a w) (hob:∀id o,ob id=some o→find id σ.heap=some o) {d:Nat}
  (h:a0v (.up kd) d (xs.map (·.ev σ.env)) ob K L) (hF:Fin o c g σ a w K L K'):o.wp P a w K' Q':=by
 obtain ⟨x,k,y,t,x',k',y',rfl,ho,hx,hk,hy,hm⟩:=c5p (.inl rfl) hok
 obtain ⟨kt,et,hu,hkd,_⟩:=a6s hm
 have hd:=hkd kd rfl
 have vx:=Opd.vr hR hx
 have vk:=Opd.vr hR hk
 have vy:=Opd.vr hR hy
 simp only [wP,w4] at h
 unfold a0v at h
 split at h<;>try (rename_i heq;simp at heq;done)
 all_goals try (rename_i e1 e2;cases e1;done)
 case h_24=>exact h.elim
 rename_i kd1 id k1 v1 e1 e2
 cases e1
 simp only [wG,and_true] at e2
 obtain ⟨e2,e3,e4⟩:=e2
 rw [e2] at vx
 subst e3 e4
 split at h
 case h_2=>exact h.elim
 rename_i kd' es hobj
 cases hkk:kd.is (k.ev σ.env)&&kd'.is (k.ev σ.env)&&(y.ev σ.env).sealed with
 | false=>rw [hkk] at h;exact h.elim
 | true =>
  rw [hkk] at h
  simp only [xY] at hkk
  obtain ⟨⟨hk1,hk2⟩,hse⟩:=hkk
  have:=KD.same hk1 hk2;subst this
  have hfd:=hob _ _ hobj
  obtain ⟨hnn,ents,clock,hb,he,hb1,hb2⟩:=hR.hp.obj _ _ hfd
  have hrk:=KD.vrd hk1 vk
  have hry:=vy.sealed_rd hse
  have hxe:=vx.omap_inv
  have hlt:g.ρ id<w.heap.size:=(zF.1 hb).1
  obtain ⟨ents',clock',hrun,q1,q2,q3,q4⟩:=c04 (yv:=a.eval y') hu hd hb he hb1 hb2 hk1 hrk
  have hother:∀b,b≠g.ρ id→(w.heap.setIfInBounds (g.ρ id) (.map ents' clock'))[b]?=w.heap[b]?:=fun b hb=>by simp [Ne.symm hb]
  have hkeep:a1l g.S w { w with heap:=w.heap.setIfInBounds (g.ρ id) (.map ents' clock') }:=a1l.upd hR.hp hfd hnn hother
  unfold Oper.wp
  have:(execOp a.eval o).run P w=.ok .skip { w with heap:=w.heap.setIfInBounds (g.ρ id) (.map ents' clock') }:=by
   rcases ho with ho|ho<;>simp [execOp,ho,hxe,hrun]
  rw [this]
  refine hF _ (.inl h) g undef _ (q9.upd _ id _ _ hR.hp hfd hnn rfl rfl rfl (by simp) hother ?_) (a0l.upd _) (.any _)
  exact ⟨hnn,ents',clock',by simp [hlt],q1 _ _ _ hkeep (fun _ h=>h) (hry.mono hkeep fun _ h=>h),q2,q3⟩
def Gh.shutR (g:Gh) (n:Nat):Gh:={ g with S:=fun b=>g.S b∨(¬g.nil n∧b=g.ρ n) }
theorem b42 {j q n:Nat} {xs:List V} {ty:Option TypeId} {v:Value} (ho:OR g w j (.arr q xs ty)) (h:VR g w v (.osl j q 0 n)) (hn:n=xs.length):Rd (g.shutR j).S w v (.sl xs):=by
 cases h with
 | rd h=>cases h
 | oslnil id k' lo h =>
  have:xs=[]:=zM.1 hn.symm
  subst this
  exact .nilsl
 | osl id k' lo len o c h hoo hc hl hm =>
  rcases ho with ⟨hn',_⟩|⟨hn',hkp,⟨cur,e,fz,h1,h2,h3,h4⟩,h5,h6,h7⟩
  ·exact absurd hn' h
  ·refine .sl _ o n c q cur e fz _ (.inr ⟨h,rfl⟩) h1 hn.symm (wV hl hm) hl ?_ (fun x hx=>h7 x hx) fun i j' x cx hi hj=>?_
   ·rcases hoo with h0|h0
    ·exact .inl (by omega)
    ·refine .inr ?_
     rw [h0,h2,←vA]
     exact zX q (by omega)
   ·have hil:i<n:=by rw [hn];exact (zG.1 hi).1
    have hoo':o=(g.base j+0)*q:=hoo.resolve_left (by omega)
    have:=(h4 i j' x cx hi hj).mono (S':=(g.shutR j).S) (w':=w) (fun _ _=>rfl) (fun _ h=>.inl h)
    have e1:o+i*q+j'=(g.base j+i)*q+j':=by rw [hoo',wY,vA (g.base j) i q]
    rw [e1];exact this
theorem d6d {j q n m:Nat} {xs:List V} {ty:Option TypeId} {v:Value} (ho:OR g w j (.arr q xs ty)) (h:VR g w v (.osl j q 0 n)) (hn:n=xs.length) (hb:∀b,m.testBit b=true→g.S b) (hs:¬g.nil j→¬g.S (g.ρ j)):a8z (g.shutR j).S m q w v xs:=by
 cases h with
 | rd h=>cases h
 | oslnil id k' lo h =>
  have:xs=[]:=zM.1 hn.symm
  exact .inl ⟨rfl,this⟩
 | osl id k' lo len o c h hoo hc hl hm =>
  rcases ho with ⟨hn',_⟩|⟨hn',⟨hkp,⟨cur,e,fz,h1,h2,h3,h4⟩,h5,h6,h7⟩⟩
  ·exact absurd hn' h
  ·refine .inr ⟨g.ρ j,o,g.base j,g.cap j,c,by rw [hn],by simpa using hoo,by rw [←hn];exact hl,by omega,hm,?_,.inr ⟨h,rfl⟩,hkp,⟨cur,e,fz,h1,h2,⟨h3.1,trivial⟩,fun i j' x y hi hj=>(h4 i j' x y hi hj).mono (fun _ _=>rfl) fun _ h=>.inl h⟩,h5,h6,h7⟩
   cases ht:m.testBit (g.ρ j) with
   | false=>rfl
   | true=>exact absurd (hb _ ht) (hs h)
theorem f3d {kd:KD} {xs:List Opd} (hok:a09 P (.ups kd) xs o.op=true) (hR:Rel P c g σ a w) (hob:∀id o,ob id=some o→find id σ.heap=some o) {d:Nat}
  (h:a0v (.ups kd) d (xs.map (·.ev σ.env)) ob K L) (hF:Fin o c g σ a w K L K'):o.wp P a w K' Q':=by
 obtain ⟨x,k,y,t,x',k',y',rfl,ho,hx,hk,hy,hm⟩:=c5p (.inr rfl) hok
 obtain ⟨kt,et,hu,hkd,_⟩:=a6s hm
 have hd:=hkd kd rfl
 have vx:=Opd.vr hR hx
 have vk:=Opd.vr hR hk
 have vy:=Opd.vr hR hy
 simp only [wP,w4] at h
 unfold a0v at h
 split at h<;>try (rename_i heq;simp at heq;done)
 all_goals try (rename_i e1 e2;cases e1;done)
 case h_24=>exact h.elim
 rename_i kd1 id k1 j q n e1 e2
 cases e1
 simp only [wG,and_true] at e2
 obtain ⟨e2,e3,e4⟩:=e2
 rw [e2] at vx
 rw [e4] at vy
 subst e3
 split at h
 case h_3=>exact h.elim
 case h_2 =>
  rename_i z p kd' es q' ys ty hobj hobj2
  cases hkk:kd.is (k.ev σ.env)&&kd'.is (k.ev σ.env)&&(Nat.beq q q'&&Nat.beq n ys.length&&!Nat.beq id j)&&Nat.beq q p with
  | false=>rw [hkk] at h;exact h.elim
  | true =>
   rw [hkk] at h
   simp only [xY,xO] at hkk
   obtain ⟨⟨⟨hk1,hk2⟩,⟨hq,hn⟩,hij⟩,hqp⟩:=hkk
   have:=zR hqp;subst this
   have:=zR hq;subst this
   have hn:=zR hn
   have hij:id≠j:=Nat.ne_of_beq_eq_false hij
   have:=KD.same hk1 hk2;subst this
   have hfd:=hob _ _ hobj
   have hfd2:=hob _ _ hobj2
   obtain ⟨hnn,ents,clock,hb,he,hb1,hb2,hnr,hB⟩:=hR.hp.obj _ _ hfd
   have hrk:=KD.vrd hk1 vk
   have hnw:=d6d (hR.hp.obj _ _ hfd2) vy hn hB (hR.hp.sep _ _ hfd2)
   have hry:=b42 (hR.hp.obj _ _ hfd2) vy hn
   have hxe:=vx.omap_inv
   have hlt:g.ρ id<w.heap.size:=(zF.1 hb).1
   obtain ⟨ents',clock',hrun,q1,q2,q3,q4⟩:=c04 (yv:=a.eval y') hu hd hb he hb1 hb2 hk1 hrk
   have hother:∀b,b≠g.ρ id→(w.heap.setIfInBounds (g.ρ id) (.map ents' clock'))[b]?=w.heap[b]?:=fun b hb=>by simp [Ne.symm hb]
   have hns:¬(g.shutR j).S (g.ρ id):=by
    rintro (h1|⟨h1,h2⟩)
    ·exact hR.hp.sep id _ hfd hnn h1
    ·exact hij (hR.hp.inj id j _ _ hfd hfd2 hnn h1 h2)
   have hkeep:a1l (g.shutR j).S w { w with heap:=w.heap.setIfInBounds (g.ρ id) (.map ents' clock') }:=fun b hb=>hother b fun e=>hns (e▸hb)
   have hup:∀b,g.S b→(g.shutR j).S b:=fun _ h=>.inl h
   unfold Oper.wp
   have:(execOp a.eval o).run P w=.ok .skip { w with heap:=w.heap.setIfInBounds (g.ρ id) (.map ents' clock') }:=by
    rcases ho with ho|ho<;>simp [execOp,ho,hxe,hrun]
   rw [this]
   have hOR:OR (g.shutR j) { w with heap:=w.heap.setIfInBounds (g.ρ id) (.map ents' clock') } id (.nmap z q kd (b2v (k.ev σ.env) (.sl ys) es)) :=
    ⟨hnn,ents',clock',by simp [hlt,Gh.shutR],q1 _ _ _ (fun b hb=>hkeep b (hup b hb)) hup (hry.mono hkeep fun _ h=>h),q2,q3,fun i ent u hi hu=>by
     rcases q4 _ i ent u hi hu with ⟨e5,e6⟩|⟨e5,e6⟩
     ·exact ⟨ys,e6,by rw [e5];exact hnw.mono hkeep fun _ h=>h⟩
     ·obtain ⟨zs,e7,e8⟩:=hnr i ent u e5 e6
      exact ⟨zs,e7,e8.mono (fun b hb=>hkeep b (hup b hb)) hup⟩,fun b hb=>.inl (hB b hb)⟩
   refine hF _ (.inl h) (g.shutR j) undef _ ⟨rfl,rfl,rfl,by simp,fun b hb hb'=>hother b fun e=>(hb' id _ (by simp [Eff.ids]) hfd hnn).1 e.symm,hup,fun b hb=>?_,fun b hb=>?_,fun i _=>⟨rfl,rfl,rfl,vF⟩,?_,?_,?_,?_,fun _ _ _=>rfl,a2z.no (by simp [a03.isRws])⟩ (fun i o' _=>.inl ⟨rfl,rfl,rfl,vF⟩) (.any _)
   ·rcases hb with hb|⟨h1,h2⟩
    ·exact .inl hb
    ·exact .inr (.inr ⟨j,_,by simp [Eff.ids],hfd2,h1,.inl h2.symm⟩)
   ·rcases hb with hb|⟨h1,h2⟩
    ·have:=hR.hp.lt b hb;simpa using this
    ·rcases hR.hp.obj _ _ hfd2 with ⟨h3,_⟩|⟨_,_,⟨cur,e,fz,h4,_⟩,_⟩
     ·exact absurd h3 h1
     ·rw [h2];have:=(zF.1 h4).1;simpa using this
   ·intro i o1 hi;simp at hi;obtain ⟨rfl,rfl⟩:=hi;exact hOR
   ·intro i o1 hi _;simp at hi;obtain ⟨rfl,rfl⟩:=hi;exact .inr ⟨i,_,by simp [Eff.ids],hfd,hnn,.inl rfl⟩
   ·intro i i' o1 o2 hi hj;simp at hi hj;intro _ _ _;rw [hi.1,hj.1]
   ·intro i o1 hi _;simp at hi;obtain ⟨rfl,rfl⟩:=hi;exact hns
 rename_i kd' es q' ys ty hobj hobj2
 cases hkk:kd.is (k.ev σ.env)&&kd'.is (k.ev σ.env)&&(Nat.beq q q'&&Nat.beq n ys.length&&!Nat.beq id j) with
 | false=>rw [hkk] at h;exact h.elim
 | true =>
  rw [hkk] at h
  simp only [xY,xO] at hkk
  obtain ⟨⟨hk1,hk2⟩,⟨hq,hn⟩,hij⟩:=hkk
  have:=zR hq;subst this
  have hn:=zR hn
  have hij:id≠j:=Nat.ne_of_beq_eq_false hij
  have:=KD.same hk1 hk2;subst this
  have hfd:=hob _ _ hobj
  have hfd2:=hob _ _ hobj2
  obtain ⟨hnn,ents,clock,hb,he,hb1,hb2⟩:=hR.hp.obj _ _ hfd
  have hrk:=KD.vrd hk1 vk
  have hry:=b42 (hR.hp.obj _ _ hfd2) vy hn
  have hxe:=vx.omap_inv
  have hlt:g.ρ id<w.heap.size:=(zF.1 hb).1
  obtain ⟨ents',clock',hrun,q1,q2,q3,q4⟩:=c04 (yv:=a.eval y') hu hd hb he hb1 hb2 hk1 hrk
  have hother:∀b,b≠g.ρ id→(w.heap.setIfInBounds (g.ρ id) (.map ents' clock'))[b]?=w.heap[b]?:=fun b hb=>by simp [Ne.symm hb]
  have hns:¬(g.shutR j).S (g.ρ id):=by
   rintro (h1|⟨h1,h2⟩)
   ·exact hR.hp.sep id _ hfd hnn h1
   ·exact hij (hR.hp.inj id j _ _ hfd hfd2 hnn h1 h2)
  have hkeep:a1l (g.shutR j).S w { w with heap:=w.heap.setIfInBounds (g.ρ id) (.map ents' clock') }:=fun b hb=>hother b fun e=>hns (e▸hb)
  have hup:∀b,g.S b→(g.shutR j).S b:=fun _ h=>.inl h
  unfold Oper.wp
  have:(execOp a.eval o).run P w=.ok .skip { w with heap:=w.heap.setIfInBounds (g.ρ id) (.map ents' clock') }:=by
   rcases ho with ho|ho<;>simp [execOp,ho,hxe,hrun]
  rw [this]
  have hOR:OR (g.shutR j) { w with heap:=w.heap.setIfInBounds (g.ρ id) (.map ents' clock') } id (.map kd (b2v (k.ev σ.env) (.sl ys) es)) :=
   ⟨hnn,ents',clock',by simp [hlt,Gh.shutR],q1 _ _ _ (fun b hb=>hkeep b (hup b hb)) hup (hry.mono hkeep fun _ h=>h),q2,q3⟩
  refine hF _ (.inl h) (g.shutR j) undef _ ⟨rfl,rfl,rfl,by simp,fun b hb hb'=>hother b fun e=>(hb' id _ (by simp [Eff.ids]) hfd hnn).1 e.symm,hup,fun b hb=>?_,fun b hb=>?_,fun i _=>⟨rfl,rfl,rfl,vF⟩,?_,?_,?_,?_,fun _ _ _=>rfl,a2z.no (by simp [a03.isRws])⟩ (fun i o' _=>.inl ⟨rfl,rfl,rfl,vF⟩) (.any _)
  ·rcases hb with hb|⟨h1,h2⟩
   ·exact .inl hb
   ·exact .inr (.inr ⟨j,_,by simp [Eff.ids],hfd2,h1,.inl h2.symm⟩)
  ·rcases hb with hb|⟨h1,h2⟩
   ·have:=hR.hp.lt b hb;simpa using this
   ·rcases hR.hp.obj _ _ hfd2 with ⟨h3,_⟩|⟨_,_,⟨cur,e,fz,h4,_⟩,_⟩
    ·exact absurd h3 h1
    ·rw [h2];have:=(zF.1 h4).1;simpa using this
  ·intro i o1 hi;simp at hi;obtain ⟨rfl,rfl⟩:=hi;exact hOR
  ·intro i o1 hi _;simp at hi;obtain ⟨rfl,rfl⟩:=hi;exact .inr ⟨i,_,by simp [Eff.ids],hfd,hnn,.inl rfl⟩
  ·intro i i' o1 o2 hi hj;simp at hi hj;intro _ _ _;rw [hi.1,hj.1]
  ·intro i o1 hi _;simp at hi;obtain ⟨rfl,rfl⟩:=hi;exact hns
theorem c6f {v:Value} {i k lo n:Nat} (h:VR g w v (.osl i k lo n)):∃p l q,v=.slice p l q∧(p=none→n=0):=by
 cases h with
 | rd h=>cases h
 | oslnil=>exact ⟨_,_,_,rfl,fun _=>rfl⟩
 | osl=>exact ⟨_,_,_,rfl,fun h=>by cases h⟩
theorem f3c {xs:List Opd} (hok:a09 P .uss xs o.op=true) (hR:Rel P c g σ a w) (hob:∀id o,ob id=some o→find id σ.heap=some o) {d:Nat}
  (h:a0v .uss d (xs.map (·.ev σ.env)) ob K L) (hF:Fin o c g σ a w K L K'):o.wp P a w K' Q':=by
 obtain ⟨x,y,t,x',y',rfl,ho,hx,hy,ht⟩:∃x y t x' y',xs=[x,y]∧o.op=.store t x' y'∧x.ok x'=true∧y.ok y'=true∧a1x P t 1=true:=by
  cases ho:o.op<;>rw [ho] at hok<;>try (simp [a09] at hok;done)
  simp only [a09,xY] at hok
  obtain ⟨h1,h2⟩:=hok
  split at h1
  ·simp only [xY] at h1
   exact ⟨_,_,_,_,_,rfl,rfl,h1.1,h1.2,h2⟩
  ·cases h1
 have vx:=Opd.vr hR hx
 have vy:=Opd.vr hR hy
 have hsz:=a6q ht
 simp only [wP,w4] at h
 unfold a0v at h
 split at h<;>try (rename_i heq;simp at heq;done)
 all_goals try (rename_i e1 e2;cases e1;done)
 case h_24=>exact h.elim
 rename_i id k i j q n e1 e2
 simp only [wG,and_true] at e2
 obtain ⟨e2,e3⟩:=e2
 rw [e2] at vx
 rw [e3] at vy
 split at h
 case h_2=>exact h.elim
 rename_i k' xs t0 q' ys ty hobj hobj2
 cases hkk:Nat.beq k 1&&Nat.beq k' 1&&(Nat.beq q q'&&Nat.beq n ys.length&&!Nat.beq id j) with
 | false=>rw [hkk] at h;exact h.elim
 | true =>
  rw [hkk] at h
  simp only [xY,xO] at hkk
  obtain ⟨⟨hk1,hk2⟩,⟨hq,hn⟩,hij⟩:=hkk
  have:=zR hk1;subst this
  have:=zR hk2;subst this
  have:=zR hq;subst this
  have hn:=zR hn
  have hij:id≠j:=Nat.ne_of_beq_eq_false hij
  obtain ⟨hlt,hK⟩:=h
  have hfd:=hob _ _ hobj
  have hfd2:=hob _ _ hobj2
  have hry:=b42 (hR.hp.obj _ _ hfd2) vy hn
  have hxe:a.eval x'=.pointer (some ⟨g.ρ id,(g.base id+i)*1+0,none⟩):=vx.optr_inv
  have hone:(a.eval y').cells=#[a.eval y']∧(a.eval y').oneCell'=true:=by
   obtain ⟨p,l,r,hv,_⟩:=c6f vy
   rw [hv];exact ⟨rfl,rfl⟩
  rcases hR.hp.obj _ _ hfd with ⟨_,hnil⟩|⟨hnn,ha⟩
  ·rw [hnil] at hlt;simp at hlt
  have ha0:=ha
  obtain ⟨hkp,⟨cur,e,fz,h1,h2,⟨h3,_⟩,h4⟩,h5,h6,h7⟩:=ha
  have hle:(g.base id+i)*1+0+0+[a.eval y'].length≤cur.size:=by
   rw [h2];simp;omega
  obtain ⟨w',cur',r1,r2,r3,r4,r5,r6,r7,r8,r9⟩:=a1k (P:=P) (g.ρ id) ((g.base id+i)*1+0) e fz [a.eval y'] 0 cur w h1 h3 hle (fun v hv=>by simp only [z9] at hv;subst hv;exact hone.2)
  have hns:¬(g.shutR j).S (g.ρ id):=by
   rintro (h1|⟨h1,h2⟩)
   ·exact hR.hp.sep id _ hfd hnn h1
   ·exact hij (hR.hp.inj id j _ _ hfd hfd2 hnn h1 h2)
  have hkeep:a1l (g.shutR j).S w w':=fun b hb=>r6 b fun e=>hns (e▸hb)
  have hup:∀b,g.S b→(g.shutR j).S b:=fun _ h=>.inl h
  unfold Oper.wp
  have:(execOp a.eval o).run P w=.ok .skip w':=by
   have hne:¬((a.eval y').cells.size≠1):=by rw [hone.1];simp
   simp only [execOp,ho,Instr.storeAt,hxe,Instr.sureAddr,storeVar,wT,wS,xH,hsz w,hne,if_false]
   rw [show (a.eval y').cells.toList=[a.eval y'] by rw [hone.1]]
   simp only [r1,xH]
  rw [this]
  have hseal:(V.sl ys).cells.length=1∧(∀c∈(V.sl ys).cells,c.one=true)∧(V.sl ys).sealed=true:=⟨rfl,fun c hc=>by simp [V.cells] at hc;subst hc;rfl,rfl⟩
  have hA:b2j (g.shutR j).S w (g.ρ id) (g.base id) (g.cap id) 1 xs t0:=by
   obtain ⟨p1,⟨cur,e,fz,p2,p3,p4,p5⟩,p6,p7,p8⟩:=ha0
   exact ⟨p1,⟨cur,e,fz,p2,p3,p4,fun i j x c hx hc=>(p5 i j x c hx hc).mono (fun _ _=>rfl) hup⟩,p6,p7,p8⟩
  have hxi:xs[i]?=some xs[i]:=zJ hlt
  have hOR:OR (g.shutR j) w' id (.arr 1 (xs.set i (.sl ys)) t0) :=
   .inr ⟨hnn,hA.set hkeep hxi (x':=.sl ys) (ys:=[.sl ys]) (off:=0) (by
    have:=(h7 _ (xV hlt)).1
    unfold setCells
    rw [List.take_zero,wA,List.drop_eq_nil_of_le (by simp;omega),wH];rfl) (by simp) hseal h1 r7 r8 (vs:=[a.eval y']) rfl (fun m y hm=>by
     match m,hm with
     | 0,hm=>simp at hm;subst hm;exact hry
     | m+1,hm=>simp at hm) (fun m=>by have:=r9 m;simpa using this)⟩
  refine hF _ (.inl hK) (g.shutR j) undef _ ⟨r2,r3,r4,by rw [r5];exact w8 _,fun b hb hb'=>r6 b fun e=>(hb' id _ (by simp [Eff.ids]) hfd hnn).1 e.symm,hup,fun b hb=>?_,fun b hb=>?_,fun i _=>⟨rfl,rfl,rfl,vF⟩,?_,?_,?_,?_,fun _ _ _=>rfl,a2z.no (by simp [a03.isRws])⟩ (fun i o' _=>.inl ⟨rfl,rfl,rfl,vF⟩) (.any _)
  ·rcases hb with hb|⟨h1,h2⟩
   ·exact .inl hb
   ·exact .inr (.inr ⟨j,_,by simp [Eff.ids],hfd2,h1,.inl h2.symm⟩)
  ·rcases hb with hb|⟨h1,h2⟩
   ·have:=hR.hp.lt b hb;rw [r5];exact this
   ·rcases hR.hp.obj _ _ hfd2 with ⟨h3,_⟩|⟨_,_,⟨cur,e,fz,h4,_⟩,_⟩
    ·exact absurd h3 h1
    ·rw [h2,r5];exact (zF.1 h4).1
  ·intro i o1 hi;simp at hi;obtain ⟨rfl,rfl⟩:=hi;exact hOR
  ·intro i o1 hi _;simp at hi;obtain ⟨rfl,rfl⟩:=hi;exact .inr ⟨i,_,by simp [Eff.ids],hfd,hnn,.inl rfl⟩
  ·intro i i' o1 o2 hi hj;simp at hi hj;intro _ _ _;rw [hi.1,hj.1]
  ·intro i o1 hi _;simp at hi;obtain ⟨rfl,rfl⟩:=hi;exact hns
theorem b5e {H:Heap} {d k:Nat} {vs:List V} {ty:Option TypeId} {g':Gh} {w':World} {v:Value} (hs:q9 g H w ⟨.osl d k 0 vs.length,[],[(d,.arr k vs ty)]⟩ g' w') (hv:VR g' w' v (.osl d k 0 vs.length)) (hd:find d H=none) :
  ∃g'',q9 g H w ⟨.sl vs,[],[]⟩ g'' w'∧VR g'' w' v (.sl vs):=by
 have hids:∀id o,id∈(Eff.mk (.osl d k 0 vs.length) [] [(d,.arr k vs ty)]).ids→find id H=some o→False:=fun id o hi ho=>by
  simp [Eff.ids] at hi
  rw [hi,hd] at ho;cases ho
 have ho:=hs.obj d (.arr k vs ty) (by simp)
 have hnew:∀b,¬g'.nil d→b=g'.ρ d→w.heap.size≤b:=fun b hn e=>by
  rcases hs.blk d (.arr k vs ty) (by simp) hn with h|⟨id0,o0,h1,h2,_⟩
  ·rw [e];exact h
  ·exact (hids id0 o0 h1 h2).elim
 refine ⟨{ g with S:=fun b=>g'.S b∨(¬g'.nil d∧b=g'.ρ d) },⟨hs.os,hs.tape,hs.output,hs.size,fun b hb _=>hs.keep b hb fun id o h1 h2=>(hids id o h1 h2).elim,fun b hb=>.inl (hs.sup b hb),fun b hb=>?_,fun b hb=>?_,
  fun id _=>⟨rfl,rfl,rfl,vF⟩,fun _ _ h=>by simp at h,fun _ _ h=>by simp at h,fun _ _ _ _ h=>by simp at h,fun _ _ h=>by simp at h,fun _ _ _=>rfl,a2z.no (by simp)⟩,.rd ?_⟩
 ·rcases hb with hb|⟨h1,h2⟩
  ·rcases hs.sub b hb with h|h|⟨id,o,h1,h2,_⟩
   ·exact .inl h
   ·exact .inr (.inl h)
   ·exact (hids id o h1 h2).elim
  ·exact .inr (.inl (hnew b h1 h2))
 ·rcases hb with hb|⟨h1,h2⟩
  ·exact hs.slt b hb
  ·rw [h2];exact ho.block h1
 ·rcases hv.osl_inv with ⟨hn,rfl,h0⟩|⟨hn,o,cc,rfl,h2,h3,h4,h5⟩
  ·have:vs=[]:=zB h0
   subst this;exact .nilsl
  ·rcases ho with ⟨h,_⟩|⟨_,kpos,⟨cur,e,fz,r1,r2,r3,r4⟩,hlen,hbig,helem⟩
   ·exact absurd h hn
   by_cases hz:vs=[]
   ·subst hz
    exact .sl _ o 0 cc k cur e fz [] (.inr ⟨hn,rfl⟩) r1 rfl (w6 _) (w6 _) (.inl rfl) (fun x hx=>by cases hx) fun i j x c hx=>by simp at hx
   have hvl:vs.length≠0:=fun h=>hz (zB h)
   have ho':o=(g'.base d+0)*k:=by
    rcases h2 with h|h
    ·omega
    ·exact h
   have hsz:o+vs.length*k≤cur.size:=by
    rw [ho',r2,←vA]
    exact zX k (by omega)
   refine .sl _ o vs.length cc k cur e fz vs (.inr ⟨hn,rfl⟩) r1 rfl (by omega) h4 (.inr hsz) helem fun i j x c hx hc=>?_
   have:=r4 i j x c hx hc
   rw [show (g'.base d+i)*k+j=o+i*k+j by rw [ho',wY,vA]] at this
   exact this.mono (fun _ _=>rfl) fun b hb=>.inl hb
theorem a8y {n m:Nat} (h:n≠m):Nat.beq n m=false:=by
 cases hb:Nat.beq n m with
 | true=>exact absurd (zR hb) h
 | false=>rfl
mutual
theorem b8z:∀x:V,∃m,∀n,m≤n→x.has n=false
 | .ptr id _=>⟨id+1,fun n h=>by simp only [V.has];exact a8y (by omega)⟩
 | .osl id _ _ _=>⟨id+1,fun n h=>by simp only [V.has];exact a8y (by omega)⟩
 | .optr id _ _ _=>⟨id+1,fun n h=>by simp only [V.has];exact a8y (by omega)⟩
 | .omap id=>⟨id+1,fun n h=>by simp only [V.has];exact a8y (by omega)⟩
 | .bptr id=>⟨id+1,fun n h=>by simp only [V.has];exact a8y (by omega)⟩
 | .nsl id _ _=>⟨id+1,fun n h=>by simp only [V.has];exact a8y (by omega)⟩
 | .nsmap id _ _ _=>⟨id+1,fun n h=>by simp only [V.has];exact a8y (by omega)⟩
 | .at_ id _=>⟨id+1,fun n h=>by simp only [V.has];exact a8y (by omega)⟩
 | .agg cs=>by obtain ⟨m,h⟩:=a6t cs;exact ⟨m,fun n hn=>by simp only [V.has];exact h n hn⟩
 | .tup cs=>by obtain ⟨m,h⟩:=a6t cs;exact ⟨m,fun n hn=>by simp only [V.has];exact h n hn⟩
 | .fn _ cs=>by obtain ⟨m,h⟩:=a6t cs;exact ⟨m,fun n hn=>by simp only [V.has];exact h n hn⟩
 | .bool _|.int _ _|.str _|.nils|.nilp|.nilm|.nilf|.nili|.ifc _|.sl _|.smap _ _|.eptr _ _|.adr _ _|.any=>⟨0,fun n _=>by simp [V.has]⟩
theorem a6t:∀cs:List V,∃m,∀n,m≤n→V.hasL n cs=false
 | []=>⟨0,fun n _=>by simp [V.hasL]⟩
 | x::r=>by
  obtain ⟨m1,h1⟩:=b8z x
  obtain ⟨m2,h2⟩:=a6t r
  exact ⟨max m1 m2,fun n hn=>by simp only [V.hasL,h1 n (by omega),h2 n (by omega)];rfl⟩
end
theorem b93:∀e:List (Nat×V),∃m,∀n,m≤n→a7v n e=true
 | []=>⟨0,fun n _=>rfl⟩
 | (s,x)::r=>by
  obtain ⟨m1,h1⟩:=b8z x
  obtain ⟨m2,h2⟩:=b93 r
  exact ⟨max m1 m2,fun n hn=>by simp [a7v,h1 n (by omega),h2 n (by omega)]⟩
theorem b1w:∀H:Heap,∃m,∀n,m≤n→a0w n H=true∧find n H=none
 | []=>⟨0,fun n _=>⟨rfl,rfl⟩⟩
 | (s,x)::r=>by
  obtain ⟨m2,h2⟩:=b1w r
  have h1:∃m,∀n,m≤n→x.has n=false:=by
   cases x with
   | cells cs t=>obtain ⟨m,h⟩:=a6t cs;exact ⟨m,fun n hn=>by simp only [a03.has];exact h n hn⟩
   | nmap z k kd es=>exact ⟨z+1,fun n hn=>by simp only [a03.has];exact a8y (by omega)⟩
   | _=>exact ⟨0,fun n _=>by simp [a03.has]⟩
  obtain ⟨m1,h1⟩:=h1
  refine ⟨max (max m1 m2) (s+1),fun n hn=>⟨?_,?_⟩⟩
  ·simp [a0w,h1 n (by omega),(h2 n (by omega)).1]
  ·have:Nat.beq n s=false:=by
    cases hb:Nat.beq n s with
    | true=>have:=zR hb;omega
    | false=>rfl
   simp only [find,this,vC];exact (h2 n (by omega)).2
theorem c2m (c:Ctx) (σ:St):∃n,Clean c σ n∧find n σ.heap=none:=by
 obtain ⟨m1,h1⟩:=b93 σ.env
 obtain ⟨m2,h2⟩:=b1w σ.heap
 obtain ⟨m3,h3⟩:=b1w c.H0
 exact ⟨max (max m1 m2) m3,⟨(h3 _ (by omega)).2,h1 _ (by omega),(h2 _ (by omega)).1⟩,(h2 _ (by omega)).2⟩
theorem e4a {k:Nat} {xs:List Opd} (hok:(y7.lsl k xs).ok P o.op=true) (hR:Rel P c g σ a w) {d0:Nat} (h:o6 P (.lsl k xs) d0 (xs.map (·.ev σ.env)) ob K L) (hF:Fin o c g σ a w K L K'):o.wp P a w K' Q':=by
 obtain ⟨d,hcl,hfr⟩:=c2m c σ
 have hok':(y7.bslice k xs false).ok P o.op=true:=by
  cases ho:o.op<;>rw [ho] at hok<;>try (simp [y7.ok] at hok;done)
  exact hok
 have hk:(xs.map (·.ev σ.env)).all (a3f k)=true∧K (evl (.sl (xs.map (·.ev σ.env)))):=by
  unfold o6 at h
  by_cases hb:(xs.map (·.ev σ.env)).all (a3f k)=true
  ·simp only [hb,vE] at h;exact ⟨hb,h⟩
  ·simp [hb] at h
 refine c1r (K:=fun e=>e=⟨.osl d k 0 (xs.map (·.ev σ.env)).length,[],[(d,.arr k (xs.map (·.ev σ.env)))]⟩) (L:=fun _=>False) (d:=d) (ob:=ob) hok' hR hcl ?_ fun eff he g' v w' h1 h2 h3=>?_
 ·unfold o6;simp only [hk.1,vE,uvT]
 ·rcases he with rfl|he
  ·obtain ⟨g'',k1,k2⟩:=b5e h1 h3 hfr
   exact hF _ (.inl hk.2) g'' v w' k1 (fun _ _ h=>by simp [evl] at h) k2
  ·exact he.elim
def shV (ob:Nat→Option a03):V→V
 | .osl j q 0 n=>match ob j with
  | some (.arr _ ys _)=>.sl ys
  | _=>.osl j q 0 n
 | x=>x
theorem b4e {ob:Nat→Option a03}:∀{vs:List V} {p:List V×List Nat},a9s ob vs=some p →
  p.1=vs.map (shV ob)∧(∀j∈p.2,∃q ys t,ob j=some (.arr q ys t)) ∧
   ∀v∈vs,a3f 1 (shV ob v)=true∧(shV ob v=v∨∃j q ys t,v=.osl j q 0 ys.length∧ob j=some (.arr q ys t)∧shV ob v=.sl ys∧j∈p.2)
 | [],p,h=>by
  simp only [a9s,xI] at h
  subst h
  refine ⟨rfl,?_,?_⟩
  ·intro j hj;cases hj
  ·intro v hv;cases hv
 | v :: r,p,h=>by
  unfold a9s at h
  split at h
  ·rename_i heq;cases heq
  ·rename_i j q n r' heq
   cases heq
   split at h
   ·rename_i q' ys t ho
    cases hk:Nat.beq q q'&&Nat.beq n ys.length with
    | false=>rw [hk] at h;cases h
    | true =>
     rw [hk] at h
     simp only [vE] at h
     split at h
     ·rename_i p0 hp
      cases h
      obtain ⟨h1,h2,h3⟩:=b4e hp
      simp only [xY] at hk
      have hq:=zR hk.1
      have hn:=zR hk.2
      subst hq hn
      have e:shV ob (.osl j q 0 ys.length)=.sl ys:=by simp only [shV,ho]
      refine ⟨by rw [wP,e,←h1],fun i hi=>?_,fun v hv=>?_⟩
      ·rcases wO.1 hi with rfl|hi
       ·exact ⟨_,_,_,ho⟩
       ·exact h2 i hi
      ·rcases wO.1 hv with rfl|hv
       ·rw [e];exact ⟨rfl,.inr ⟨j,q,ys,t,rfl,ho,rfl,by simp⟩⟩
       ·obtain ⟨k1,k2⟩:=h3 v hv
        refine ⟨k1,k2.imp id ?_⟩
        rintro ⟨j',q',ys',t',e1,e2,e3,e4⟩
        exact ⟨j',q',ys',t',e1,e2,e3,z3 _ e4⟩
     ·cases h
   ·cases h
  ·rename_i x r' hx heq
   cases heq
   cases hk:a3f 1 v with
   | false=>rw [hk] at h;cases h
   | true =>
    rw [hk] at h
    simp only [vE] at h
    split at h
    ·rename_i p0 hp
     cases h
     obtain ⟨h1,h2,h3⟩:=b4e hp
     have e:shV ob v=v:=by
      unfold shV
      split
      ·exact absurd rfl (hx _ _ _)
      ·rfl
     refine ⟨by rw [wP,e,←h1],h2,fun u hu=>?_⟩
     rcases wO.1 hu with rfl|hu
     ·rw [e];exact ⟨hk,.inl rfl⟩
     ·exact h3 u hu
    ·cases h
def e2f (f:V→V) (e:List (Nat×V)):List Nat→List (Nat×V)
 | []=>[]
 | n::r=>match find n e with
  | some v=>(n,f v)::e2f f e r
  | none=>e2f f e r
theorem b58 {f:V→V} {e:List (Nat×V)} {s:Nat}:∀{l:List Nat},find s (e2f f e l)=bif mem s l then (find s e).map f else none
 | []=>rfl
 | n::r=>by
  unfold e2f
  have ih:=b58 (f:=f) (e:=e) (s:=s) (l:=r)
  by_cases hs:s=n
  ·subst hs
   have hb:Nat.beq s s=true:=wW s
   cases hf:find s e with
   | none =>
    simp only [hf] at ih ⊢
    rw [ih];simp
   | some v=>simp [find,mem,hb]
  ·have hb:Nat.beq s n=false:=a8y hs
   cases hf:find n e with
   | none=>simp only [ih,mem,hb,wQ]
   | some v=>simp only [find,hb,vC,ih,mem,wQ]
def a8w:List Opd→List Nat
 | []=>[]
 | .t n::r=>n::a8w r
 | _::r=>a8w r
theorem b6b {n:Nat}:∀{xs:List Opd},Opd.t n∈xs→mem n (a8w xs)=true
 | x::r,h=>by
  rcases wO.1 h with rfl|h
  ·simp [a8w,mem,wW]
  ·have:=b6b h
   cases x<;>simp [a8w,mem,this]
theorem a8n {n:Nat}:∀{xs:List Opd},mem n (a8w xs)=true→Opd.t n∈xs
 | [],h=>by cases h
 | x::r,h=>by
  cases x with
  | t m =>
   simp only [a8w,mem,wI] at h
   rcases h with h|h
   ·rw [zR h];simp
   ·exact z3 _ (a8n h)
  | c v=>exact z3 _ (a8n h)
  | f m=>exact z3 _ (a8n h)
def Gh.shutRs (g:Gh) (js:List Nat):Gh:={ g with S:=fun b=>g.S b∨∃j∈js,¬g.nil j∧b=g.ρ j }
theorem q9.shutRs {js:List Nat} (hH:a2o P g w σ.heap) (hj:∀j∈js,∃q ys t,find j σ.heap=some (.arr q ys t)):q9 g σ.heap w ⟨.any,js,[]⟩ (g.shutRs js) w:=by
 refine ⟨rfl,rfl,rfl,w8 _,fun _ _ _=>rfl,fun _ h=>.inl h,fun b hb=>?_,fun b hb=>?_,fun i _=>⟨rfl,rfl,rfl,vF⟩,fun _ _ h=>by simp at h,fun _ _ h=>by simp at h,fun _ _ _ _ h=>by simp at h,fun _ _ h=>by simp at h,fun _ _ _=>rfl,a2z.no (by simp)⟩
 ·rcases hb with hb|⟨j,h1,h2,h3⟩
  ·exact .inl hb
  ·obtain ⟨q,ys,t,h4⟩:=hj j h1
   exact .inr (.inr ⟨j,_,by simp [Eff.ids,h1],h4,h2,.inl h3.symm⟩)
 ·rcases hb with hb|⟨j,h1,h2,h3⟩
  ·exact hH.lt b hb
  ·obtain ⟨q,ys,t,h4⟩:=hj j h1
   rcases hH.obj _ _ h4 with ⟨h5,_⟩|⟨_,_,⟨cur,e,fz,h6,_⟩,_⟩
   ·exact absurd h5 h2
   ·rw [h3];exact (zF.1 h6).1
theorem Rd.mono_S {S S':Nat→Prop} {v:Value} {x:V} (h:Rd S w v x) (hs:∀b,S b→S' b):Rd S' w v x:=h.mono (fun _ _=>rfl) hs
theorem f3r {xs:List Opd} (hok:a09 P .lss xs o.op=true) (hR:Rel P c g σ a w) (hob:∀id o,ob id=some o→find id σ.heap=some o) {d:Nat}
  (h:a0v .lss d (xs.map (·.ev σ.env)) ob K L) (hF:Fin o c g σ a w K L K'):o.wp P a w K' Q':=by
 obtain ⟨hok1,hall⟩:(y7.lsl 1 xs).ok P o.op=true∧xs.all Opd.isT=true:=by
  cases ho:o.op<;>rw [ho] at hok<;>try (simp [a09] at hok;done)
  simp only [a09] at hok
  rw [xY] at hok
  exact hok
 unfold a0v at h
 simp only at h
 cases hs:a9s ob (xs.map (·.ev σ.env)) with
 | none=>rw [hs] at h;exact h.elim
 | some p =>
  rw [hs] at h
  obtain ⟨ys,js⟩:=p
  simp only at h
  obtain ⟨h1,h2,h3⟩:=b4e hs
  simp only at h1 h2
  have hj:∀j∈js,∃q ys t,find j σ.heap=some (.arr q ys t):=fun j hj=>by
   obtain ⟨q,ys,t,h⟩:=h2 j hj
   exact ⟨q,ys,t,hob _ _ h⟩
  have hS:=q9.shutRs (σ:=σ) hR.hp hj
  have hR2:Rel P c (g.shutRs js) ⟨σ.env,(⟨.any,js,[]⟩:Eff).heap σ.heap⟩ a w:=hR.step (d:=none) (v:=undef) (fun n h=>by cases h) hS (fun i o' h=>by simp at h) (.any _)
  have hR1:Rel P c (g.shutRs js) ⟨e2f (shV ob) σ.env (a8w xs),(⟨.any,js,[]⟩:Eff).heap σ.heap⟩ a w:=by
   refine ⟨hR2.size,hR2.dfr,fun s x hx=>?_,hR2.hp,hR2.fr⟩
   simp only [b58] at hx
   cases hm:mem s (a8w xs) with
   | false=>rw [hm] at hx;cases hx
   | true =>
    rw [hm] at hx
    simp only [vE] at hx
    cases hf:find s σ.env with
    | none=>rw [hf] at hx;cases hx
    | some v =>
     rw [hf] at hx
     simp only [x6,xI] at hx
     subst hx
     obtain ⟨q1,q2⟩:=hR2.env s v hf
     refine ⟨q1,?_⟩
     have hv:v∈xs.map (·.ev σ.env):=wZ.2 ⟨.t s,a8n hm,by simp only [Opd.ev,a1d,hf,xP]⟩
     obtain ⟨_,k2⟩:=h3 v hv
     rcases k2 with k2|⟨j,q,zs,t,rfl,k3,k4,k5⟩
     ·rw [k2];exact q2
     ·rw [k4]
      obtain ⟨_,hvr⟩:=hR.env s _ hf
      refine .rd ((b42 (hR.hp.obj _ _ (hob _ _ k3)) hvr rfl).mono_S ?_)
      rintro b (hb|⟨hb1,hb2⟩)
      ·exact .inl hb
      ·exact .inr ⟨j,k5,hb1,hb2⟩
  have hev:xs.map (·.ev (e2f (shV ob) σ.env (a8w xs)))=ys:=by
   rw [h1,List.map_map]
   refine List.map_congr_left fun x hx=>?_
   have hx':=xX.1 hall x hx
   cases x with
   | c v=>cases hx'
   | f m=>cases hx'
   | t n =>
    simp only [Opd.ev,a1d,b58,b6b hx,vE,Function.comp]
    cases find n σ.env<;>rfl
  have hel:ys.all (a3f 1)=true:=by
   rw [h1]
   refine xX.2 fun y hy=>?_
   obtain ⟨v,hv,rfl⟩:=wZ.1 hy
   exact (h3 v hv).1
  refine e4a (k:=1) (K:=fun e=>e=evl (.sl ys)) (L:=fun _=>False) (d0:=0) (ob:=ob) hok1 hR1 ?_ fun eff he g' v w' k1 k2 k3=>?_
  ·simp only [hev]
   unfold o6
   simp only [hel,vE]
  ·rcases he with rfl|he
   ·refine hF ⟨.sl ys,js,[]⟩ (.inl h) g' v w' ⟨k1.os,k1.tape,k1.output,k1.size,fun b hb _=>k1.keep b hb fun id o h=>by simp [evl,Eff.ids] at h,fun b hb=>k1.sup b (.inl hb),fun b hb=>?_,k1.slt,fun id _=>k1.agree id fun o h=>by simp [evl] at h,fun _ _ h=>by simp at h,fun _ _ h=>by simp at h,fun _ _ _ _ h=>by simp at h,fun _ _ h=>by simp at h,fun b hb _=>(k1.sb b hb fun id o h=>by simp [evl,Eff.ids] at h).trans rfl,a2z.no (by simp)⟩ (fun _ _ h=>by simp at h) k3
    rcases k1.sub b hb with hb|hb|⟨id,o1,hb,_⟩
    ·rcases hb with hb|⟨j,q1,q2,q3⟩
     ·exact .inl hb
     ·obtain ⟨q,zs,t,q4⟩:=hj j q1
      exact .inr (.inr ⟨j,_,by simp [Eff.ids,q1],q4,q2,.inl q3.symm⟩)
    ·exact .inr (.inl hb)
    ·simp [evl,Eff.ids] at hb
   ·exact he.elim
theorem d0u {v:Value} (h:VR g w v .nils):v=.slice none 0 0:=by
 cases h with
 | rd h=>cases h;rfl
theorem e3r {v:Value} {ys:List V} (h:VR g w v (.sl ys)):∃p l q,v=.slice p l q∧(p=none→ys=[]):=by
 cases h with
 | rd h=>cases h<;>exact ⟨_,_,_,rfl,fun h=>by first|rfl|cases h⟩
theorem f3v {ng:Bool} {xs:List Opd} (hok:a09 P (.isn ng) xs o.op=true) (hR:Rel P c g σ a w) {d:Nat}
  (h:a0v (.isn ng) d (xs.map (·.ev σ.env)) ob K L) (hF:Fin o c g σ a w K L K'):o.wp P a w K' Q':=by
 obtain ⟨x,x',b,t,u,na,nb,e,rfl,ho,hx,hbn,hu⟩:∃x x' b t u na nb e,xs=[x]∧o.op=.binOp b t x' (.const (.slice none na nb)) u∧x.ok x'=true∧(b=.eql∧ng=false∨b=.neq∧ng=true)∧P.underlying t=some (.slice e):=by
  cases ho:o.op<;>rw [ho] at hok<;>try (simp [a09] at hok;done)
  rename_i b t x' y' u
  simp only [a09,xY] at hok
  obtain ⟨⟨⟨h1,h2⟩,h3⟩,h4⟩:=hok
  split at h1
  ·split at h3
   ·split at h4
    ·rename_i na nb _ e he
     refine ⟨_,_,_,_,_,na,nb,e,rfl,rfl,h1,?_,he⟩
     split at h2
     ·exact .inl ⟨rfl,by simpa using h2⟩
     ·exact .inr ⟨rfl,h2⟩
     ·cases h2
    ·cases h4
   ·cases h3
  ·cases h1
 have vx:=Opd.vr hR hx
 have run:∀p l q,a.eval x'=.slice p l q→(execOp a.eval o).run P w=.ok (.value (.bool (bif ng then !p.isNone else p.isNone))) w:=fun p l q e=>by
  have h1:=Lib.run_eql_slice_nil (P:=P) w t _ p l q na nb hu
  have ec:a.eval (.const (.slice none na nb))=.slice none na nb:=rfl
  rcases hbn with ⟨rfl,rfl⟩|⟨rfl,rfl⟩
  ·simp [execOp,ho,e,ec,eqGuard_at_slice,h1]
  ·have h2:(binOp .neq t (.slice p l q) (.slice none na nb)).run P w=.ok (.bool (!p.isNone)) w:=by
    have h3:(Op.equal t (.slice p l q) (.slice none na nb)).run P w=.ok p.isNone w:=by
     have h1':=h1
     simp only [binOp,wT,wS] at h1'
     cases hq:(Op.equal t (.slice p l q) (.slice none na nb)).run P w<;>rw [hq] at h1'<;>simp [Result.andThen] at h1'
     obtain ⟨rfl,rfl⟩:=h1';rfl
    simp [binOp,h3]
   simp [execOp,ho,e,ec,eqGuard_at_slice,h2]
 simp only [wP,w4,a0v] at h
 have fin:∀b:Bool,(execOp a.eval o).run P w=.ok (.value (.bool b)) w→L (evl (.bool b))→o.wp P a w K' Q':=fun b hr hl=>z8 hR hF hr (.inr hl) (.rd (.bool b))
 split at h
 ·rename_i hev
  rw [hev] at vx
  refine fin _ (run _ _ _ (d0u vx)) ?_
  cases ng<;>exact h
 ·rename_i ys hev
  rw [hev] at vx
  obtain ⟨p,l,q,e,hp⟩:=e3r vx
  refine fin _ (run _ _ _ e) ?_
  cases p with
  | none=>have:=h.1 (hp rfl);cases ng<;>exact this
  | some p=>have:=h.2;cases ng<;>exact this
 ·rename_i i1 i2 i3 n hev
  rw [hev] at vx
  obtain ⟨p,l,q,e,hp⟩:=c6f vx
  refine fin _ (run _ _ _ e) ?_
  cases p with
  | none=>have:=h.1 (hp rfl);cases ng<;>exact this
  | some p=>have:=h.2;cases ng<;>exact this
 ·exact h.elim
theorem f3e {i:Nat} {xs:List Opd} (hok:a09 P (.tab i) xs o.op=true) (hR:Rel P c g σ a w) {d:Nat}
  (h:a0v (.tab i) d (xs.map (·.ev σ.env)) ob K L) (hF:Fin o c g σ a w K L K'):o.wp P a w K' Q':=by
 obtain ⟨t,q,dd,rfl,ho,hdd,hg,ht⟩:∃t q dd,xs=[]∧o.op=.load t (.global q)∧c06[i]?=some dd∧P.globalNamed dd.1=some q∧b89 P t=some (some dd.2.2.length):=by
  cases ho:o.op<;>rw [ho] at hok<;>try (simp [a09] at hok;done)
  rename_i t y
  cases y<;>try (simp [a09] at hok;done)
  rename_i q
  simp only [a09,xY] at hok
  obtain ⟨h1,h2⟩:=hok
  split at h1
  ·split at h2
   ·rename_i dd hdd
    simp only [xY,xG] at h2
    exact ⟨t,q,dd,rfl,rfl,hdd,h2.1,h2.2⟩
   ·cases h2
  ·cases h1
 simp only [w4] at h
 have h':K (evl (.agg (dd.2.2.map (V.int dd.2.1)))):=by
  unfold a0v at h
  simp only [hdd] at h
  exact h
 have htab:∀w',a1l g.S w w'→Lib.TabIs P w' dd.1 dd.2.1 dd.2.2:=fun w' hk=>(hR.hp.tabs w' hk).1 dd (zZ hdd) (by rw [hg];rfl)
 have h0:=htab w fun _ _=>rfl
 unfold Lib.TabIs World.var? at h0
 rw [hg] at h0
 simp only [xQ] at h0
 split at h0
 case h_2=>cases h0
 rename_i cs e fz hcs
 have hcs':cs=(dd.2.2.map fun z=>Value.int dd.2.1 z).toArray:=x5 h0
 subst hcs'
 have hrng:∀z∈dd.2.2,inR dd.2.1 z:=by
  have:∀d∈c06,∀z∈d.2.2,inR d.2.1 z:=by
   intro d hd
   simp only [c06,wO,List.not_mem_nil,or_false] at hd
   rcases hd with rfl|rfl|rfl<;>simp [inR,IntKind.min,IntKind.max,IntKind.signed,IntKind.bits]
  exact this dd (zZ hdd)
 obtain ⟨u,z,hrun,hz,hv⟩:=a1p (P:=P) (g:=g) (w:=w) ht (o':=0) (off:=0) (cs:=dd.2.2.map (V.int dd.2.1)) (Kp:=fun x=>x=V.agg (dd.2.2.map (V.int dd.2.1))) hcs (by simp) (fun j x hj=>by
  rw [xK] at hj
  cases hz:dd.2.2[j]? with
  | none=>rw [hz] at hj;cases hj
  | some n =>
   rw [hz] at hj;cases hj
   have hlt:=(zG.1 hz).1
   have e1:((dd.2.2.map fun z=>Value.int dd.2.1 z).toArray.getD (0+j) undef)=.int dd.2.1 n:=by
    simp [zC,hlt,(zG.1 hz).2]
   rw [e1]
   exact .rd (.int _ _ (hrng n (zZ hz)))) (by
  simp only [part,wE]
  have:Nat.ble (0+dd.2.2.length) dd.2.2.length=true:=by simp
  rw [this]
  simp only [vE,wL]
  rw [←wE (f:=V.int dd.2.1),xR])
 subst hz
 refine z8 hR hF (v:=u) ?_ (.inl h') hv
 have ec:a.eval (.global q)=.pointer (some ⟨q,0,none⟩):=rfl
 simp [execOp,ho,Instr.loadAt,ec,Instr.sureAddr] at hrun ⊢
 simp [hrun]
theorem f4h {kd:KD} {xs:List Opd} (hok:a09 P (.del kd) xs o.op=true) (hR:Rel P c g σ a w) (hob:∀id o,ob id=some o→find id σ.heap=some o) {d:Nat}
  (h:a0v (.del kd) d (xs.map (·.ev σ.env)) ob K L) (hF:Fin o c g σ a w K L K'):o.wp P a w K' Q':=by
 obtain ⟨x,k,cl,t,t2,x',k',rfl,ho,hcl,hargs,hts,hx,hk,hm⟩:∃x k cl t t2 x' k',xs=[x,k]∧o.op=.call cl∧cl.callee=.builtin .delete∧cl.args=#[x',k']∧cl.argTypes=#[t,t2]∧x.ok x'=true∧k.ok k'=true∧isMap P t (some kd) none=true:=by
  cases ho:o.op<;>rw [ho] at hok<;>try (simp [a09] at hok;done)
  rename_i cl
  obtain ⟨callee,args,ts⟩:=cl
  cases callee<;>try (simp [a09] at hok;done)
  rename_i b
  cases b<;>try (simp [a09] at hok;done)
  simp only [a09] at hok
  split at hok
  ·rename_i xx k x' k' t t2 he1 he2
   simp only [xY] at hok
   exact ⟨xx,k,_,t,t2,x',k',rfl,rfl,rfl,xZ.1 (by simpa using he1),xZ.1 (by simpa using he2),hok.1.1,hok.1.2,hok.2⟩
  ·cases hok
 obtain ⟨kt,et,hu,hkd,_⟩:=a6s hm
 have hd:=hkd kd rfl
 have vx:=Opd.vr hR hx
 have vk:=Opd.vr hR hk
 simp only [wP,w4] at h
 unfold a0v at h
 split at h<;>try (rename_i heq;simp at heq;done)
 all_goals try (rename_i e1 e2;cases e1;done)
 case h_24=>exact h.elim
 rename_i kd1 id k1 e1 e2
 cases e1
 simp only [wG,and_true] at e2
 obtain ⟨e2,e3⟩:=e2
 rw [e2] at vx
 subst e3
 split at h
 case h_2=>exact h.elim
 rename_i kd' es hobj
 cases hkk:kd.is (k.ev σ.env)&&kd'.is (k.ev σ.env) with
 | false=>rw [hkk] at h;exact h.elim
 | true =>
  rw [hkk] at h
  simp only [xY] at hkk
  obtain ⟨hk1,hk2⟩:=hkk
  have:=KD.same hk1 hk2;subst this
  have hfd:=hob _ _ hobj
  obtain ⟨hnn,ents,clock,hb,he,hb1,hb2⟩:=hR.hp.obj _ _ hfd
  have hrk:=KD.vrd hk1 vk
  have hck:=fun e=>a3e (w:=w) hd hk1 hrk e
  have hxe:=vx.omap_inv
  have hlt:g.ρ id<w.heap.size:=(zF.1 hb).1
  have fin:∀ents',(Builtin.delete_ #[t,t2] o.type #[a.eval x',a.eval k']).run P w=.ok (.tuple #[]) { w with heap:=w.heap.setIfInBounds (g.ρ id) (.map ents' clock) } →
    (∀w':World,a1l g.S w w'→b3s g.S w' kd ents'.toList (b6l (k.ev σ.env) es))→(∀ent∈ents'.toList,ent.born<clock)→(ents'.toList.map (·.born)).Nodup→o.wp P a w K' Q':=by
   intro ents' hrun q1 q2 q3
   have hother:∀b,b≠g.ρ id→(w.heap.setIfInBounds (g.ρ id) (.map ents' clock))[b]?=w.heap[b]?:=fun b hb=>by simp [Ne.symm hb]
   have hkeep:a1l g.S w { w with heap:=w.heap.setIfInBounds (g.ρ id) (.map ents' clock) }:=a1l.upd hR.hp hfd hnn hother
   refine Fin.mk' hF h (v:=.tuple #[]) (w':={ w with heap:=w.heap.setIfInBounds (g.ρ id) (.map ents' clock) }) ?_ (q9.upd _ id _ _ hR.hp hfd hnn rfl rfl rfl (by simp) hother ?_) (a0l.upd _) (.tup _ _ rfl fun i c hc=>by simp at hc)
   ·simp [execOp,ho,resolve,hcl,hargs,hts,invoke,builtin,hrun]
   ·exact ⟨hnn,ents',clock,by simp [hlt],q1 _ hkeep,q2,q3⟩
  rcases b0e hd hk1 hrk he with ⟨h1,_,_,h4,h5⟩|⟨j,e,kv,h1,h2,h3,h4,_,_,h7⟩
  ·have hfk:(Instr.findKey kt (a.eval k') ents.toList).run P w=.ok none w:=h1
   refine fin ents ?_ (fun w' hw=>by rw [h4];exact he.mono hw fun _ h=>h) hb1 hb2
   rw [hxe]
   simp [Builtin.delete_,run_underlying hu,MapKept.run_getObj_map hb,hck,hfk,MapKept.run_setObj_map _ hb,Result.andThen]
  ·have hfk:(Instr.findKey kt (a.eval k') ents.toList).run P w=.ok (some (0+j,e.val)) w:=h1
   have hjl:j<ents.size:=by simpa using (zG.1 h2).1
   have htl:(ents.eraseIdxIfInBounds j).toList=ents.toList.eraseIdx j:=by
    unfold Array.eraseIdxIfInBounds
    rw [dif_pos hjl,Array.toList_eraseIdx]
   refine fin (ents.eraseIdxIfInBounds j) ?_ (fun w' hw=>by rw [h7,htl];exact (he.mono hw fun _ h=>h).erase j) (fun ent hm=>?_) ?_
   ·rw [hxe]
    simp only [wU] at hfk
    simp [Builtin.delete_,run_underlying hu,MapKept.run_getObj_map hb,hck,hfk,MapKept.run_setObj_map _ hb,Result.andThen]
   ·rw [htl] at hm;exact hb1 ent (List.mem_of_mem_eraseIdx hm)
   ·rw [htl];exact ((List.eraseIdx_sublist _ _).map _).nodup hb2
theorem e3w {xs:List Opd} (hok:a09 P .len xs o.op=true) (hR:Rel P c g σ a w) (hob:∀id o,ob id=some o→find id σ.heap=some o) {d:Nat}
  (h:a0v .len d (xs.map (·.ev σ.env)) ob K L) (hF:Fin o c g σ a w K L K'):o.wp P a w K' Q':=by
 obtain ⟨x,cl,t,x',rfl,ho,hcl,hargs,hts,hx,hm⟩:∃x cl t x',xs=[x]∧o.op=.call cl∧cl.callee=.builtin .len∧cl.args=#[x']∧cl.argTypes=#[t]∧x.ok x'=true∧isMap P t none none=true:=by
  cases ho:o.op<;>rw [ho] at hok<;>try (simp [a09] at hok;done)
  rename_i cl
  obtain ⟨callee,args,ts⟩:=cl
  cases callee<;>try (simp [a09] at hok;done)
  rename_i b
  cases b<;>try (simp [a09] at hok;done)
  simp only [a09] at hok
  split at hok
  ·rename_i xx x' t he1 he2
   simp only [xY] at hok
   exact ⟨xx,_,t,x',rfl,rfl,rfl,xZ.1 (by simpa using he1),xZ.1 (by simpa using he2),hok.1,hok.2⟩
  ·cases hok
 obtain ⟨kt,et,hu,_,_⟩:=a6s hm
 have vx:=Opd.vr hR hx
 simp only [a0v,wP,w4] at h
 have fin:∀(n:Nat),(Builtin.len_ #[t] o.type #[a.eval x']).run P w=.ok (goInt n) w→(n:Int)≤9223372036854775807→K (evl (.int .i64 n))→o.wp P a w K' Q':=by
  intro n hrun hm hk
  refine z8 hR hF (v:=goInt n) ?_ (.inl hk) (.rd (.int _ _ ?_))
  ·simp [execOp,ho,resolve,hcl,hargs,hts,invoke,builtin,hrun]
  ·rw [a13];simp only [rng];omega
 split at h
 ·rename_i hc
  rw [hc] at vx
  exact fin 0 (by simp [vx.nilm_inv,Builtin.len_,run_underlying hu]) (by omega) h
 ·rename_i x0 hne
  obtain ⟨b,kd',es,ents,clock,e1,hb,he,hK⟩:=b8q hR.hp hob vx h
  refine fin es.length ?_ hK.1 hK.2
  have hl:ents.size=es.length:=by simpa using he.len
  simp [e1,Builtin.len_,run_underlying hu,MapKept.run_getObj_map hb,hl]
theorem f3h {xs:List Opd} (hok:a09 P .rng xs o.op=true) (hR:Rel P c g σ a w) {d:Nat} (hcl:Clean c σ d)
  (h:a0v .rng d (xs.map (·.ev σ.env)) ob K L) (hF:Fin o c g σ a w K L K'):o.wp P a w K' Q':=by
 obtain ⟨x,t,x',rfl,ho,hx,hm⟩:∃x t x',xs=[x]∧o.op=.range t x'∧x.ok x'=true∧isMap P t none none=true:=by
  cases ho:o.op<;>rw [ho] at hok<;>try (simp [a09] at hok;done)
  simp only [a09,xY] at hok
  obtain ⟨h1,h3⟩:=hok
  split at h1
  ·exact ⟨_,_,_,rfl,rfl,h1,h3⟩
  ·cases h1
 obtain ⟨kt,et,hu,_,_⟩:=a6s hm
 have vx:=Opd.vr hR hx
 simp only [a0v,wP,w4] at h
 have fin:∀(it:Obj) (es:List (V×V)),(Instr.range t (a.eval x')).run P w=.ok (.pointer (some ⟨w.heap.size,0,none⟩)) (w.alloc it)→K ⟨.ptr d 0,[],[(d,.iter es none)]⟩ →
   (∀w':World,a1l g.S w w'→w'.heap[w.heap.size]?=some it→b9u g.S w' w.heap.size es none)→o.wp P a w K' Q':=by
  intro it es hrun hk q
  have hh:(w.alloc it).heap=w.heap.push it:=rfl
  have e1:(g.set d w.heap.size 0 0).ρ d=w.heap.size:=by simp [Gh.set]
  have e4:¬(g.set d w.heap.size 0 0).nil d:=by simp [Gh.set]
  refine Fin.mk' hF hk (v:=.pointer (some ⟨w.heap.size,0,none⟩)) (w':=w.alloc it) ?_ (q9.alloc _ d 0 0 _ it hR.hp.lt rfl rfl rfl hh ?_) (a0l.of_clean hcl) ?_
  ·simp [execOp,ho,hrun]
  ·refine ⟨e4,?_⟩
   rw [e1]
   exact q _ (a1l.push hR.hp.lt hh) (by rw [hh];simp)
  ·have:=VR.ptr (g:=g.set d w.heap.size 0 0) (w:=w.alloc it) d 0
   rw [e1] at this
   exact this
 split at h
 ·rename_i hc
  rw [hc] at vx
  exact fin (.mapIter none 0 #[] 0) [] (by rw [vx.nilm_inv];simp [Instr.range,run_underlying hu]) h fun w' _ hw=>.inl ⟨_,_,_,hw,rfl,rfl⟩
 ·rename_i kd es hc
  rw [hc] at vx
  generalize hev:a.eval x'=ev at vx
  cases vx with
  | rd hr =>
   cases hr with
   | smap b _ ents clock _ hS hg hl hk hb hn hr1 hr2 =>
    refine fin (.mapIter (some b) clock #[] clock) es ?_ h fun w' hk' hw=>?_
    ·rw [hev];exact run_range_map w t kt et b ents clock hu hg
    ·have hf:(ents.toList.filter fun e=>!(#[]:Array Nat).contains e.born)=ents.toList:=List.filter_eq_self.2 fun x _=>by simp
     refine .inr ⟨b,clock,#[],ents,hw,hS,(hk' b hS).trans hg,hb,hn,by rw [hf];simpa using hl,fun i ent kv hi hj=>?_,fun kv h=>by cases h⟩
     rw [hf] at hi
     exact ⟨(hr1 i ent kv (by simpa using hi) hj).mono hk' fun _ h=>h,(hr2 i ent kv (by simpa using hi) hj).mono hk' fun _ h=>h⟩
 ·exact h.elim
theorem f3j {xs:List Opd} (hok:a09 P .nxt xs o.op=true) (hR:Rel P c g σ a w) (hob:∀id o,ob id=some o→find id σ.heap=some o) {d:Nat}
  (h:a0v .nxt d (xs.map (·.ev σ.env)) ob K L) (hF:Fin o c g σ a w K L K'):o.wp P a w K' Q':=by
 obtain ⟨x,x',rfl,ho,hx⟩:∃x x',xs=[x]∧o.op=.next x' false∧x.ok x'=true:=by
  cases ho:o.op<;>rw [ho] at hok<;>try (simp [a09] at hok;done)
  simp only [a09,xY,xO] at hok
  obtain ⟨h1,h3⟩:=hok
  subst h3
  split at h1
  ·exact ⟨_,_,rfl,rfl,h1⟩
  ·cases h1
 have vx:=Opd.vr hR hx
 simp only [wP,w4] at h
 unfold a0v at h
 split at h<;>try (rename_i heq;simp at heq;done)
 all_goals try (rename_i e1 e2;cases e1;done)
 case h_24=>exact h.elim
 rename_i id e1 e2
 simp only [wG,and_true] at e2
 rw [e2] at vx
 split at h
 case h_2=>exact h.elim
 rename_i rem cur hobj
 obtain ⟨hk1,hk2⟩:=h
 have hfd:=hob _ _ hobj
 obtain ⟨hnn,hit⟩:=hR.hp.obj _ _ hfd
 have hxe:=vx.ptr_inv
 rcases hit with ⟨q1,q2,q3,hb,rfl,_⟩|⟨m,clock,seen,ents,hb,hS,hm,hold,hnd,hl,hrd,_⟩
 ·refine Fin.mk'L hF (hk1 rfl) (v:=.tuple #[.bool false]) (w':=w) ?_ (q9.upd _ id _ _ hR.hp hfd hnn rfl rfl rfl rfl (fun _ _=>rfl) ⟨hnn,.inl ⟨_,_,_,hb,rfl,rfl⟩⟩) (a0l.upd _) ?_
  ·have:=b8g (P:=P) (ty:=o.type) hb
   simp [execOp,ho,hxe,this]
  ·refine .tup _ _ rfl fun i c hc=>?_
   match i,hc with
   | 0,hc=>simp at hc;subst hc;exact .rd (.bool _)
   | n+1,hc=>simp at hc
 ·rcases d0i (P:=P) (ty:=o.type) hb hm hold with ⟨h0,hrun⟩|⟨i,e,w1,hi,p1,p2,p3,p4,hrun⟩
  ·have hr0:rem=[]:=zB (by rw [←hl,h0];rfl)
   subst hr0
   refine Fin.mk'L hF (hk1 rfl) (v:=.tuple #[.bool false]) (w':=w) ?_ (q9.upd _ id _ _ hR.hp hfd hnn rfl rfl rfl rfl (fun _ _=>rfl) ⟨hnn,.inr ⟨m,clock,seen,ents,hb,hS,hm,hold,hnd,hl,hrd,fun kv h=>by cases h⟩⟩) (a0l.upd _) ?_
   ·simp [execOp,ho,hxe,hrun]
   ·refine .tup _ _ rfl fun i c hc=>?_
    match i,hc with
    | 0,hc=>simp at hc;subst hc;exact .rd (.bool _)
    | n+1,hc=>simp at hc
  ·have hlt:i<rem.length:=by rw [←hl];exact (zG.1 hi).1
   have hkv:rem[i]?=some rem[i]:=zJ hlt
   obtain ⟨r1,r2⟩:=hrd i e _ hi hkv
   have hother:∀b,b≠g.ρ id→(w1.heap.setIfInBounds (g.ρ id) (.mapIter (some m) clock (seen.push e.born) clock))[b]?=w.heap[b]?:=fun b hb=>by rw [p1];simp [Ne.symm hb]
   have hkeep:a1l g.S w { w1 with heap:=w1.heap.setIfInBounds (g.ρ id) (.mapIter (some m) clock (seen.push e.born) clock) }:=a1l.upd hR.hp hfd hnn hother
   have hlt2:g.ρ id<w.heap.size:=(zF.1 hb).1
   refine Fin.mk'L hF (hk2 i _ hkv) (v:=.tuple #[.bool true,e.key,e.val]) (w':={ w1 with heap:=w1.heap.setIfInBounds (g.ρ id) (.mapIter (some m) clock (seen.push e.born) clock) }) ?_
    (q9.upd _ id _ _ hR.hp hfd hnn p2 p4 p3 (by simp [p1]) hother ⟨hnn,.inr ⟨m,clock,seen.push e.born,ents,by simp [p1,hlt2],hS,(hkeep m hS).trans hm,hold,hnd,?_,?_,?_⟩⟩) (a0l.upd _) ?_
   ·simp [execOp,ho,hxe,hrun]
   ·rw [b8t hnd hi,List.length_eraseIdx,List.length_eraseIdx,hl]
   ·intro j ent kv hj hq
    rw [b8t hnd hi,List.getElem?_eraseIdx] at hj
    rw [List.getElem?_eraseIdx] at hq
    split at hj
    ·rename_i hlt;rw [if_pos hlt] at hq
     exact ⟨(hrd j ent kv hj hq).1.mono hkeep fun _ h=>h,(hrd j ent kv hj hq).2.mono hkeep fun _ h=>h⟩
    ·rename_i hlt;rw [if_neg hlt] at hq
     exact ⟨(hrd (j+1) ent kv hj hq).1.mono hkeep fun _ h=>h,(hrd (j+1) ent kv hj hq).2.mono hkeep fun _ h=>h⟩
   ·intro kv hc
    cases hc
    exact ⟨e,(wB.1 (zZ hi)).1,by simp,r1.mono hkeep fun _ h=>h,r2.mono hkeep fun _ h=>h⟩
   ·refine .tup _ _ rfl fun j c hc=>?_
    match j,hc with
    | 0,hc=>simp at hc;subst hc;exact .rd (.bool _)
    | 1,hc=>simp at hc;subst hc;exact .rd (r1.mono hkeep fun _ h=>h)
    | 2,hc=>simp at hc;subst hc;exact .rd (r2.mono hkeep fun _ h=>h)
    | n+3,hc=>simp at hc
theorem f4g {xs:List Opd} (hok:a09 P .ent xs o.op=true) (hR:Rel P c g σ a w) (hob:∀id o,ob id=some o→find id σ.heap=some o) {d:Nat}
  (h:a0v .ent d (xs.map (·.ev σ.env)) ob K L) (hF:Fin o c g σ a w K L K'):o.wp P a w K' Q':=by
 obtain ⟨x,x',rfl,ho,hx⟩:∃x x',xs=[x]∧o.op=.entry x'∧x.ok x'=true:=by
  cases ho:o.op<;>rw [ho] at hok<;>try (simp [a09] at hok;done)
  simp only [a09] at hok
  split at hok
  ·exact ⟨_,_,rfl,rfl,hok⟩
  ·cases hok
 have vx:=Opd.vr hR hx
 simp only [wP,w4] at h
 unfold a0v at h
 split at h<;>try (rename_i heq;simp at heq;done)
 all_goals try (rename_i e1 e2;cases e1;done)
 case h_24=>exact h.elim
 rename_i id e1 e2
 simp only [wG,and_true] at e2
 rw [e2] at vx
 split at h
 case h_2=>exact h.elim
 rename_i rem e hobj
 have hfd:=hob _ _ hobj
 obtain ⟨hnn,hit⟩:=hR.hp.obj _ _ hfd
 have hxe:=vx.ptr_inv
 rcases hit with ⟨q1,q2,q3,hb,_,hc⟩|⟨m,clock,seen,ents,hb,hS,hm,hold,hnd,hl,hrd,hcur⟩
 ·cases hc
 ·obtain ⟨ent,h1,h2,h3,h4⟩:=hcur e rfl
  have hf:ents.find? (·.born==ent.born)=some ent:=by rw [←Array.find?_toList];exact find_born ent ents.toList hnd h1
  have hrun:(Instr.entry (.pointer (some ⟨g.ρ id,0,none⟩))).run P w=.ok (.tuple #[ent.key,ent.val]) w:=by
   simp only [Instr.entry,getObj,wT,Sem.run,hb,hm,Result.andThen,h2,bne_self_eq_false,xF,if_false,hf]
   rfl
  refine z8 hR hF (v:=.tuple #[ent.key,ent.val]) ?_ (.inl h) ?_
  ·simp [execOp,ho,hxe,hrun]
  ·refine .tup _ _ rfl fun j c hc=>?_
   match j,hc with
   | 0,hc=>simp at hc;subst hc;exact .rd h3
   | 1,hc=>simp at hc;subst hc;exact .rd h4
   | n+2,hc=>simp at hc
theorem run_max_int3 (ts:Array TypeId) (t:TypeId) (k k' k'':IntKind) (x y z:Int) (w:World):(Builtin.max_ ts t #[.int k x,.int k' y,.int k'' z]).run P w=.ok (.int k (max (max x y) z)) w:=by
 simp only [Builtin.max_,List.foldlM,Builtin.max2,wT,wS,xH]
 congr 2
 rw [Int.max_def,Int.max_def]
 split<;>split<;>(try split)<;>(try split)<;>omega
theorem f3n {xs:List Opd} (hok:a09 P .mx3 xs o.op=true) (hR:Rel P c g σ a w) {d:Nat}
  (h:a0v .mx3 d (xs.map (·.ev σ.env)) ob K L) (hF:Fin o c g σ a w K L K'):o.wp P a w K' Q':=by
 obtain ⟨x,y,z,cl,u,v,t,rfl,ho,hcl,hargs,hx,hy,hz⟩:∃x y z cl u v t,xs=[x,y,z]∧o.op=.call cl∧cl.callee=.builtin .max∧cl.args=#[u,v,t]∧x.ok u=true∧y.ok v=true∧z.ok t=true:=by
  cases ho:o.op<;>rw [ho] at hok<;>try (simp [a09] at hok;done)
  rename_i cl
  obtain ⟨callee,args,ts⟩:=cl
  cases callee<;>try (simp [a09] at hok;done)
  rename_i b
  cases b<;>try (simp [a09] at hok;done)
  simp only [a09] at hok
  split at hok
  ·rename_i u v t he
   simp only [xY] at hok
   refine ⟨_,_,_,_,u,v,t,rfl,rfl,rfl,?_,hok.1.1,hok.1.2,hok.2⟩
   apply xZ.1
   simpa using he
  ·cases hok
 have vx:=Opd.vr hR hx
 have vy:=Opd.vr hR hy
 have vz:=Opd.vr hR hz
 simp only [wP,w4] at h
 unfold a0v at h
 split at h<;>try (rename_i heq;simp at heq;done)
 all_goals try (rename_i e1 e2;cases e1;done)
 case h_24=>exact h.elim
 rename_i k p k' q k'' r e1 e2
 simp only [wG,and_true] at e2
 obtain ⟨e2,e3,e4⟩:=e2
 rw [e2] at vx;rw [e3] at vy;rw [e4] at vz
 by_cases hk:(kEq k k'&&kEq k k'')=true
 case neg=>simp [hk] at h
 simp only [hk,vE] at h
 simp only [xY] at hk
 have:=a7x hk.1;subst this
 have:=a7x hk.2;subst this
 obtain ⟨ex,rx⟩:=vx.int_inv
 obtain ⟨ey,ry⟩:=vy.int_inv
 obtain ⟨ez,rz⟩:=vz.int_inv
 refine z8 hR hF (v:=.int k (max (max p q) r)) ?_ (.inl h) (.rd (.int _ _ ?_))
 ·simp [execOp,ho,resolve,hcl,hargs,invoke,builtin,ex,ey,ez,run_max_int3]
 ·rw [Int.max_def]
  split
  ·assumption
  ·rw [Int.max_def];split<;>assumption
theorem VR.ifc_inv {v:Value} {b:Bool} (h:VR g w v (.ifc b)):(v=.nilIface∧b=true)∨∃t p,v=.iface t p∧b=false:=by
 cases h with
 | rd h=>cases h with
  | ifcn=>exact .inl ⟨rfl,rfl⟩
  | ifcs t p=>exact .inr ⟨t,p,rfl,rfl⟩
theorem f3w {ng:Bool} {xs:List Opd} (hok:a09 P (.ifz ng) xs o.op=true) (hR:Rel P c g σ a w) {d:Nat}
  (h:a0v (.ifz ng) d (xs.map (·.ev σ.env)) ob K L) (hF:Fin o c g σ a w K L K'):o.wp P a w K' Q':=by
 obtain ⟨x,x',b,t,u,ms,rfl,ho,hx,hbn,hu⟩:∃x x' b t u ms,xs=[x]∧o.op=.binOp b t x' (.const .nilIface) u∧x.ok x'=true∧(b=.eql∧ng=false∨b=.neq∧ng=true)∧P.underlying t=some (.interface ms):=by
  cases ho:o.op<;>rw [ho] at hok<;>try (simp [a09] at hok;done)
  rename_i b t x' y' u
  simp only [a09,xY] at hok
  obtain ⟨⟨⟨h1,h2⟩,h3⟩,h4⟩:=hok
  split at h1
  ·split at h3
   ·split at h4
    ·rename_i ms he
     refine ⟨_,_,_,_,_,ms,rfl,rfl,h1,?_,he⟩
     split at h2
     ·exact .inl ⟨rfl,by simpa using h2⟩
     ·exact .inr ⟨rfl,h2⟩
     ·cases h2
    ·cases h4
   ·cases h3
  ·cases h1
 have vx:=Opd.vr hR hx
 have hm:P.underlying t=some (.interface (P.methodsAt t)):=by
  rw [hu];simp [Program.methodsAt,hu]
 simp only [wP,w4] at h
 unfold a0v at h
 split at h<;>try (rename_i heq;simp at heq;done)
 all_goals try (rename_i e1 e2;cases e1;done)
 case h_24=>exact h.elim
 rename_i ng' b' e1 e2
 cases e1
 simp only [wG,and_true] at e2
 rw [e2] at vx
 have ec:a.eval (.const .nilIface)=.nilIface:=rfl
 rcases vx.ifc_inv with ⟨hv,rfl⟩|⟨tt,p,hv,rfl⟩
 ·rcases hbn with ⟨rfl,rfl⟩|⟨rfl,rfl⟩
  ·refine z8 hR hF (v:=.bool true) ?_ (.inl h) (.rd (.bool _))
   simp [execOp,ho,hv,ec,eqGuard,run_eql_nil_nil _ t hm]
  ·refine z8 hR hF (v:=.bool false) ?_ (.inl h) (.rd (.bool _))
   simp [execOp,ho,hv,ec,eqGuard,run_neq_nil_nil _ t hm]
 ·rcases hbn with ⟨rfl,rfl⟩|⟨rfl,rfl⟩
  ·refine z8 hR hF (v:=.bool false) ?_ (.inl h) (.rd (.bool _))
   simp [execOp,ho,hv,ec,eqGuard,run_eql_held_nil _ t tt p hm]
  ·refine z8 hR hF (v:=.bool true) ?_ (.inl h) (.rd (.bool _))
   simp [execOp,ho,hv,ec,eqGuard,run_neq_held_nil _ t tt p hm]
theorem VR.nilf_inv {v:Value} (h:VR g w v .nilf):v=.nilFunc:=by
 cases h with|rd h=>cases h;rfl
theorem c1y (d:Nat) {t:TypeId} {p1 p2 p3} (hu:P.underlying t=some (.func p1 p2 p3)) (f:Fn) (a b:Array Value):(Op.equalIn (d+1) t (.func f a b) .nilFunc).run P w=.ok false w:=by
 simp [Op.equalIn,run_underlying hu]
theorem c1x (d:Nat) {t:TypeId} {p1 p2 p3} (hu:P.underlying t=some (.func p1 p2 p3)):(Op.equalIn (d+1) t .nilFunc .nilFunc).run P w=.ok true w:=by
 simp [Op.equalIn,run_underlying hu]
theorem c3u {t:TypeId} {p1 p2 p3} (hu:P.underlying t=some (.func p1 p2 p3)) (f:Fn) (a b:Array Value):(Go.binOp .eql t (.func f a b) .nilFunc).run P w=.ok (.bool false) w:=by
 show (do pure (Value.bool (←Op.equalIn (9999+1) t (.func f a b) .nilFunc)):Sem Value).run P w=_
 simp only [wT,c1y 9999 hu,xH,wS]
theorem c3t {t:TypeId} {p1 p2 p3} (hu:P.underlying t=some (.func p1 p2 p3)) (f:Fn) (a b:Array Value):(Go.binOp .neq t (.func f a b) .nilFunc).run P w=.ok (.bool true) w:=by
 show (do pure (Value.bool (!(←Op.equalIn (9999+1) t (.func f a b) .nilFunc))):Sem Value).run P w=_
 simp only [wT,c1y 9999 hu,xH,wS,wM]
theorem c3s {t:TypeId} {p1 p2 p3} (hu:P.underlying t=some (.func p1 p2 p3)):(Go.binOp .eql t .nilFunc .nilFunc).run P w=.ok (.bool true) w:=by
 show (do pure (Value.bool (←Op.equalIn (9999+1) t .nilFunc .nilFunc)):Sem Value).run P w=_
 simp only [wT,c1x 9999 hu,xH,wS]
theorem c3r {t:TypeId} {p1 p2 p3} (hu:P.underlying t=some (.func p1 p2 p3)):(Go.binOp .neq t .nilFunc .nilFunc).run P w=.ok (.bool false) w:=by
 show (do pure (Value.bool (!(←Op.equalIn (9999+1) t .nilFunc .nilFunc))):Sem Value).run P w=_
 simp only [wT,c1x 9999 hu,xH,wS,Bool.not_true]
theorem f4b {ng:Bool} {xs:List Opd} (hok:a09 P (.fnz ng) xs o.op=true) (hR:Rel P c g σ a w) {d:Nat}
  (h:a0v (.fnz ng) d (xs.map (·.ev σ.env)) ob K L) (hF:Fin o c g σ a w K L K'):o.wp P a w K' Q':=by
 obtain ⟨x,x',b,t,u,p1,p2,p3,rfl,ho,hx,hbn,hu⟩:∃x x' b t u p1 p2 p3,xs=[x]∧o.op=.binOp b t x' (.const .nilFunc) u∧x.ok x'=true∧(b=.eql∧ng=false∨b=.neq∧ng=true)∧P.underlying t=some (.func p1 p2 p3):=by
  cases ho:o.op<;>rw [ho] at hok<;>try (simp [a09] at hok;done)
  rename_i b t x' y' u
  simp only [a09,xY] at hok
  obtain ⟨⟨⟨h1,h2⟩,h3⟩,h4⟩:=hok
  split at h1
  ·split at h3
   ·split at h4
    ·rename_i p1 p2 p3 he
     refine ⟨_,_,_,_,_,p1,p2,p3,rfl,rfl,h1,?_,he⟩
     split at h2
     ·exact .inl ⟨rfl,by simpa using h2⟩
     ·exact .inr ⟨rfl,h2⟩
     ·cases h2
    ·cases h4
   ·cases h3
  ·cases h1
 have vx:=Opd.vr hR hx
 simp only [wP,w4] at h
 have h:e2h ng (x.ev σ.env) K:=h
 have ec:a.eval (.const .nilFunc)=.nilFunc:=rfl
 unfold e2h at h
 split at h
 ·rename_i e
  rw [e] at vx
  have hv:=vx.nilf_inv
  refine z8 hR hF (v:=.bool (!ng)) ?_ (.inl h) (.rd (.bool _))
  rcases hbn with ⟨rfl,rfl⟩|⟨rfl,rfl⟩<;>simp [execOp,ho,hv,ec,eqGuard,c3s hu,c3r hu]
 ·rename_i f cs e
  rw [e] at vx
  obtain ⟨vs,hv,_⟩:=vx.fn_inv
  refine z8 hR hF (v:=.bool ng) ?_ (.inl h) (.rd (.bool _))
  rcases hbn with ⟨rfl,rfl⟩|⟨rfl,rfl⟩<;>simp [execOp,ho,hv,ec,eqGuard,c3u hu,c3t hu]
 ·exact h.elim
theorem f3i {xs:List Opd} (hok:a09 P .r2s xs o.op=true) (hR:Rel P c g σ a w) {d:Nat}
  (h:a0v .r2s d (xs.map (·.ev σ.env)) ob K L) (hF:Fin o c g σ a w K L K'):o.wp P a w K' Q':=by
 obtain ⟨x,s,t,x',k,rfl,ho,hx,hs,ht⟩:∃x s t x' k,xs=[x]∧o.op=.convert s t x'∧x.ok x'=true∧P.underlying s=some (.int k)∧a7q P t=true:=by
  cases ho:o.op<;>rw [ho] at hok<;>try (simp [a09] at hok;done)
  simp only [a09,xY] at hok
  obtain ⟨⟨h1,h2⟩,h3⟩:=hok
  split at h1
  ·split at h2
   ·rename_i k hk
    exact ⟨_,_,_,_,k,rfl,rfl,h1,hk,h3⟩
   ·cases h2
  ·cases h1
 have vx:=Opd.vr hR hx
 simp only [wP,w4] at h
 unfold a0v at h
 split at h<;>try (rename_i heq;simp at heq;done)
 all_goals try (rename_i e1 e2;cases e1;done)
 case h_24=>exact h.elim
 rename_i k' n e1 e2
 simp only [wG,and_true] at e2
 rw [e2] at vx
 obtain ⟨ex,rx⟩:=vx.int_inv
 obtain ⟨h1,h3⟩:=h
 obtain ⟨h1,h2⟩:=e0t.1 h1
 have htt:P.underlying t=some .string:=by
  unfold a7q at ht;split at ht<;>simp_all
 have hu8:u8 n=UInt8.ofNat n.toNat:=by
  unfold u8;congr 2;omega
 rw [hu8] at h3
 have hen:Utf8.encode n=⟨#[UInt8.ofNat n.toNat]⟩:=by
  have hv:Utf8.valid n=true:=by simp [Utf8.valid];omega
  have hlt:n.toNat<0x80:=by omega
  simp only [Utf8.encode,hv,if_true,hlt]
 refine z8 hR hF (v:=.string ⟨#[UInt8.ofNat n.toNat]⟩) ?_ (.inl h3) (.rd (.str ⟨#[UInt8.ofNat n.toNat]⟩ (by show 1≤maxLen;unfold maxLen;omega)))
 simp [execOp,ho,ex,convert,run_underlying hs,run_underlying htt,Conv.intToString,hen]
theorem b7e {t t' ty e:TypeId} {i:TypeInfo} (hu:P.underlying t=some (.slice e)) (hi:P.info? e=some i) {y:Value} {m:Nat} {news:List Value} (hy:(Builtin.lenOf y).run P w=.ok m w) (hf:(Builtin.firstCells i.size m y).run P w=.ok news.toArray w)
  {ad:Addr} {cap:Nat} {w':World} (hst:(storeCells ad news).run P w=.ok () w'):(Builtin.copy_ #[t,t'] ty #[.slice (some ad) m cap,y]).run P w=.ok (.int .i64 m) w':=by
 simp [Builtin.copy_,run_underlying hu,Go.sizeOf,typeInfo,hi,hy,hf,hst,goInt]
theorem run_copy_none {t t' ty e:TypeId} {i:TypeInfo} (hu:P.underlying t=some (.slice e)) (hi:P.info? e=some i) {y:Value} (hy:(Builtin.lenOf y).run P w=.ok 0 w) (hf:(Builtin.firstCells i.size 0 y).run P w=.ok #[] w)
  {ad:Option Addr} {cap:Nat}:(Builtin.copy_ #[t,t'] ty #[.slice ad 0 cap,y]).run P w=.ok (.int .i64 0) w:=by
 cases ad<;>simp [Builtin.copy_,run_underlying hu,Go.sizeOf,typeInfo,hi,hy,hf,goInt,storeCells]
theorem f4k {f:Nat} {xs:List Opd} (hok:a09 P (.bnd f) xs o.op=true) (hR:Rel P c g σ a w) {d:Nat}
  (h:a0v (.bnd f) d (xs.map (·.ev σ.env)) ob K L) (hF:Fin o c g σ a w K L K'):o.wp P a w K' Q':=by
 have:∃first cap',o.op=.makeFunc (.func f) first cap'∧cap'=#[]∧a7u xs first.toList=true:=by
  cases ho:o.op<;>rw [ho] at hok<;>try (simp [a09] at hok;done)
  rename_i fn first cap'
  cases fn<;>try (simp [a09] at hok;done)
  simp [a09] at hok
  obtain ⟨⟨h1,h2⟩,h3⟩:=hok
  subst h1
  exact ⟨first,cap',rfl,h2,h3⟩
 obtain ⟨first,cap',ho,rfl,hc⟩:=this
 obtain ⟨hl,hv⟩:=b7j hR hc
 have hk:K (evl (.fn (.yield f) (xs.map (·.ev σ.env)))):=by
  unfold a0v at h;exact h
 refine z8 hR hF (v:=.func (.func f) (first.map a.eval) #[]) ?_ (.inl hk) ?_
 ·simp [execOp,ho,Instr.makeFunc]
 ·refine .bnd _ _ _ (by simp [hl]) fun i x hi=>?_
  have:=hv i x hi
  have e:(first.map a.eval).getD i undef=(first.toList.map a.eval).getD i undef:=by
   simp [zC,List.getD]
  rw [e];exact this
theorem a2z.one {H:Heap} {x:V} {n:Nat} {o:a03} (hH:a2o P g w H) (hf:find n H=some o):a2z g H w ⟨x,[],[(n,o)]⟩ g:=by
 refine ⟨fun id o1 b h hn hs=>?_,fun id o1 b h hn hs=>?_,fun id o1 b id' o2 h hn hs h' hn'=>?_,fun i k xss j c i' k' xss' j' c' b h h' hn hn'=>?_⟩
 ·simp at h;obtain ⟨rfl,rfl⟩:=h;exact .inr ⟨id,o1,by simp [Eff.ids],hf,hn,.inr hs⟩
 ·simp at h;obtain ⟨rfl,rfl⟩:=h;exact (hH.sub1 _ _ b hf hn hs).1
 ·simp at h h';obtain ⟨rfl,rfl⟩:=h;obtain ⟨rfl,rfl⟩:=h';exact (hH.sub1 _ _ b hf hn hs).2 _ _ hf hn'
 ·simp only [z9,Prod.mk.injEq] at h h';obtain ⟨rfl,rfl⟩:=h;obtain ⟨rfl,e2⟩:=h';exact hH.sub2 _ _ _ _ _ _ _ _ _ _ b hf (e2▸hf) hn hn'
theorem q9.kept {H:Heap} (x:V) (n:Nat) (o:a03) (hH:a2o P g w H) (hf:find n H=some o):q9 g H w ⟨x,[],[(n,o)]⟩ g w:=by
 refine ⟨rfl,rfl,rfl,w8 _,fun b hb _=>rfl,fun _ h=>h,fun b hb=>.inl hb,fun b hb=>hH.lt b hb,fun id _=>Gh.agree.refl _ _,?_,?_,?_,?_,fun _ _ _=>rfl,a2z.one hH hf⟩
 ·intro id o1 h;simp at h;obtain ⟨rfl,rfl⟩:=h;exact hH.obj _ _ hf
 ·intro id o1 h hn;simp at h;obtain ⟨rfl,rfl⟩:=h;exact .inr ⟨id,o1,by simp [Eff.ids],hf,hn,.inl rfl⟩
 ·intro i j o1 o2 hi hj;simp at hi hj;intro _ _ _;rw [hi.1,hj.1]
 ·intro id o1 h hn';simp at h;obtain ⟨rfl,rfl⟩:=h;exact hH.sep _ _ hf hn'
theorem f4i {q:Nat} {xs:List Opd} (hok:a09 P (.cpy q) xs o.op=true) (hR:Rel P c g σ a w) (hob:∀id o,ob id=some o→find id σ.heap=some o) {d:Nat}
  (h:a0v (.cpy q) d (xs.map (·.ev σ.env)) ob K L) (hF:Fin o c g σ a w K L K'):o.wp P a w K' Q':=by
 obtain ⟨x,y,cl,u,v,t,t',rfl,ho,hcl,hargs,hts,hx,hy,hu⟩:∃x y cl u v t t',xs=[x,y]∧o.op=.call cl∧cl.callee=.builtin .copy∧cl.args=#[u,v]∧cl.argTypes=#[t,t']∧x.ok u=true∧y.ok v=true∧isSlice P t q=true:=by
  cases ho:o.op<;>rw [ho] at hok<;>try (simp [a09] at hok;done)
  rename_i cl
  obtain ⟨callee,args,ts⟩:=cl
  cases callee<;>try (simp [a09] at hok;done)
  rename_i b
  cases b<;>try (simp [a09] at hok;done)
  simp only [a09] at hok
  split at hok
  ·rename_i u v t t' he het
   simp only [xY] at hok
   refine ⟨_,_,_,u,v,t,t',rfl,rfl,rfl,?_,?_,hok.1.1,hok.1.2,hok.2⟩
   ·apply xZ.1;simpa using he
   ·apply xZ.1;simpa using het
  ·cases hok
 have vx:=Opd.vr hR hx
 have vy:=Opd.vr hR hy
 simp only [wP,w4] at h
 unfold a0v at h
 split at h<;>try (rename_i heq;simp at heq;done)
 all_goals try (rename_i e1 e2;cases e1;done)
 case h_24=>exact h.elim
 rename_i q' id k n ys e1 e2
 cases e1
 simp only [wG,and_true] at e2
 obtain ⟨e2,e3⟩:=e2
 rw [e2] at vx
 rw [e3] at vy
 split at h
 case h_2=>exact h.elim
 rename_i k' xs t0 hobj
 cases hkk:Nat.beq k q&&Nat.beq k k'&&Nat.beq n xs.length with
 | false=>rw [hkk] at h;exact h.elim
 | true =>
 rw [hkk] at h
 simp only [xY] at hkk
 obtain ⟨⟨hk1,hk2⟩,hn2⟩:=hkk
 have hn2:=zR hn2
 have:=zR hk1;subst this
 have:=zR hk2;subst this
 obtain ⟨⟨hn1,hall⟩,hK⟩:=h
 have hn1:=c1c.1 hn1
 subst hn1
 have hfd:=hob _ _ hobj
 obtain ⟨news,hsr⟩:=a88 hR hob (ob:=ob) (y:=.sl ys) (k:=k) vy rfl (w6 _) hall
 obtain ⟨e,hu',hse⟩:∃e,P.underlying t=some (.slice e)∧a1x P e k=true:=by
  unfold isSlice at hu
  split at hu
  ·exact ⟨_,by assumption,hu⟩
  ·cases hu
 obtain ⟨i,hi,his⟩:∃i,P.info? e=some i∧i.size=k:=by
  unfold a1x at hse
  cases hi:P.info? e with
  | none=>rw [hi] at hse;cases hse
  | some i=>rw [hi] at hse;exact ⟨i,rfl,by simpa using hse⟩
 have hint:inR .i64 (ys.length:Int):=by
  have:=hsr.big
  rw [maxLen] at this
  exact a13.2 ⟨by omega,by omega⟩
 have exec:∀{r:Value} {w':World},(Builtin.copy_ #[t,t'] o.type #[a.eval u,a.eval v]).run P w=.ok r w'→(execOp a.eval o).run P w=.ok (.value r) w':=fun hr=>by
  simp [execOp,ho,resolve,hcl,hargs,hts,invoke,builtin,hr]
 by_cases h0:ys.length=0
 ·have hys:ys=[]:=zB h0
  have hxs:xs=[]:=zB (by omega)
  subst hys hxs
  obtain ⟨p,l,cc,hv,hl⟩:∃p l cc,a.eval u=.slice p l cc∧l=0:=by
   generalize a.eval u=uv at vx
   cases vx with
   | rd h=>cases h
   | oslnil=>exact ⟨_,_,_,rfl,rfl⟩
   | osl=>exact ⟨_,_,_,rfl,rfl⟩
  subst hl
  have hnews:news=[]:=zB (by rw [hsr.len];simp)
  subst hnews
  unfold Oper.wp
  rw [exec (by rw [hv];exact run_copy_none hu' hi (by simpa using hsr.lenOf) (by rw [his];simpa using hsr.first))]
  exact hF _ (.inl hK) g _ _ (q9.kept _ _ _ hR.hp hfd) (a0l.upd _) (.rd (.int _ _ hint))
 rcases hR.hp.obj _ _ hfd with ⟨_,hnil⟩|⟨hnn,ha⟩
 ·rw [hnil] at hn2;exact absurd hn2 h0
 obtain ⟨hkp,⟨cur,et,fz,h1,h2,⟨h3,hty⟩,h4⟩,h5,h6,h7⟩:=ha
 obtain ⟨oo,cc,hv,hoo⟩:∃oo cc,a.eval u=.slice (some ⟨g.ρ id,oo,none⟩) ys.length cc∧oo=g.base id*k:=by
  generalize a.eval u=uv at vx
  generalize hlen:ys.length=ln at vx h0
  cases vx with
  | rd h=>cases h
  | oslnil _ _ _ h=>exact absurd h hnn
  | osl _ _ _ _ o c h ho hc hl hm =>
   refine ⟨o,c,rfl,?_⟩
   rcases ho with ho|ho
   ·omega
   ·simpa using ho
 have hle:oo+0+news.length≤cur.size:=by
  rw [h2,hoo,hsr.len,wY,←vA]
  exact zX k (by omega)
 obtain ⟨w',cur',r1,r2,r3,r4,r5,r6,r7,r8,r9⟩:=a1k (P:=P) (g.ρ id) oo et fz news 0 cur w h1 h3 hle hsr.one
 have hkeep:a1l g.S w w':=a1l.upd hR.hp hfd hnn r6
 unfold Oper.wp
 rw [exec (by rw [hv];exact b7e hu' hi hsr.lenOf (by rw [his];exact hsr.first) r1)]
 refine hF _ (.inl hK) g _ _ (q9.upd _ id _ _ hR.hp hfd hnn r2 r3 r4 r5 r6 ?_) (a0l.upd _) (.rd (.int _ _ hint))
 refine .inr ⟨hnn,hkp,⟨cur',et,fz,r7,r8.trans h2,⟨by rw [r8];exact h3,hty⟩,fun i j x y hx hy=>?_⟩,by omega,h6,hsr.elem⟩
 have hi':i<ys.length:=(zG.1 hx).1
 have hxe:=hsr.elem x (zZ hx)
 have hj':j<k:=by rw [←hxe.1];exact (zG.1 hy).1
 have hlt:i*k+j<news.length:=by
  rw [hsr.len]
  have:(i+1)*k≤ys.length*k:=zX k hi'
  rw [Nat.succ_mul] at this;omega
 have e9:=r9 ((g.base id+i)*k+j)
 have epos:(g.base id+i)*k+j=oo+(i*k+j):=by rw [hoo,vA,wN]
 rw [epos,if_pos (by omega)] at e9
 have:=(hsr.rd i j x y hx hy).mono hkeep fun _ h=>h
 have eg:cur'.getD ((g.base id+i)*k+j) undef=news.getD (i*k+j) undef:=by
  rw [epos,zC,e9,zE]
  congr 2;omega
 rw [eg];exact this
theorem q9.congrH {H H':Heap} {e:Eff} {g':Gh} {w':World} (h:q9 g H w e g' w') (hd:∀i o,find i H=some o→∃o',find i H'=some o'∧Alk o o'):q9 g H' w e g' w':=by
 have hB:∀{b},(∀id o,id∈e.ids→find id H'=some o→¬g.nil id→g.ρ id≠b∧¬a4i g id o b)→∀id o,id∈e.ids→find id H=some o→¬g.nil id→g.ρ id≠b∧¬a4i g id o b:=fun hn i o hi ho hni=>by
  obtain ⟨o',ho',ha⟩:=hd i o ho
  exact ⟨(hn i o' hi ho' hni).1,fun hs=>(hn i o' hi ho' hni).2 (ha.sub hs)⟩
 have hE:∀{b},(∃id o,id∈e.ids∧find id H=some o∧¬g.nil id∧(g.ρ id=b∨a4i g id o b))→∃id o,id∈e.ids∧find id H'=some o∧¬g.nil id∧(g.ρ id=b∨a4i g id o b):=by
  rintro b ⟨i,o,h1,h2,h3,h4⟩
  obtain ⟨o',ho',ha⟩:=hd i o h2
  exact ⟨i,o',h1,ho',h3,ha.ow h4⟩
 exact ⟨h.os,h.tape,h.output,h.size,fun b hb hn=>h.keep b hb (hB hn),h.sup,fun b hb=>(h.sub b hb).imp id (.imp id hE),h.slt,h.agree,h.obj,fun i o hi hn=>(h.blk i o hi hn).imp id hE,h.inj,h.sep,
  fun b hb hn=>h.sb b hb (hB hn),⟨fun i o b hi hn hs=>(h.nw.blk i o b hi hn hs).imp id hE,h.nw.sep,h.nw.ne,h.nw.inj⟩⟩
theorem Rel.cutR {id k m:Nat} {xs:List V} {t:Option TypeId} (h:Rel P c g σ a w) (hf:find id σ.heap=some (.arr k xs t)):Rel P c g ⟨σ.env,Go.Ab.put id (.arr k (xs.take m) t) σ.heap⟩ a w:=by
 have dom:∀n o,find n (Go.Ab.put id (.arr k (xs.take m) t) σ.heap)=some o→∃o',find n σ.heap=some o'∧Alk o o':=fun n o hn=>by
  rw [a0i] at hn
  split at hn
  ·rename_i e;subst e;cases hn;exact ⟨_,hf,.inr ⟨rfl,rfl⟩⟩
  ·exact ⟨_,hn,.inl rfl⟩
 refine ⟨h.size,h.dfr,h.env,⟨fun n o hn=>?_,fun i j o o' hi hj=>?_,fun n o hn=>?_,h.hp.lt,h.hp.tabs,fun z o b hz hn hs=>?_,fun i k1 xss j c1 i' k2 xss' j' c2 b hi hi'=>?_⟩,⟨h.fr.os,h.fr.tape,h.fr.output,h.fr.size,h.fr.old,fun n o hn=>?_,h.fr.sup,h.fr.sub,h.fr.par,fun n o b hn hnn hs=>?_,h.fr.sb⟩⟩
 ·rw [a0i] at hn
  split at hn
  ·rename_i e;subst e;cases hn
   rcases h.hp.obj _ _ hf with ⟨h1,rfl⟩|⟨h1,k1,⟨cur,e,fz,h2,h3,h4,h5⟩,h6,h7,h8⟩
   ·exact .inl ⟨h1,by simp⟩
   ·refine .inr ⟨h1,k1,⟨cur,e,fz,h2,h3,h4,fun i j x y hx hy=>h5 i j x y ?_ hy⟩,?_,h7,fun x hx=>h8 x (List.mem_of_mem_take hx)⟩
    ·rw [xC] at hx
     split at hx
     ·exact hx
     ·cases hx
    ·rw [xS];omega
  ·exact h.hp.obj n o hn
 ·obtain ⟨o1,h1,_⟩:=dom i o hi
  obtain ⟨o2,h2,_⟩:=dom j o' hj
  exact h.hp.inj i j o1 o2 h1 h2
 ·obtain ⟨o1,h1,_⟩:=dom n o hn
  exact h.hp.sep n o1 h1
 ·obtain ⟨o1,h1,ha⟩:=dom z o hz
  obtain ⟨h2,h3⟩:=h.hp.sub1 z o1 b h1 hn (ha.sub hs)
  refine ⟨h2,fun q o' hq=>?_⟩
  obtain ⟨o2,h4,_⟩:=dom q o' hq
  exact h3 q o2 h4
 ·have back:∀{n k3 xs3},find n (Go.Ab.put id (.arr k (xs.take m) t) σ.heap)=some (.rws k3 xs3)→find n σ.heap=some (.rws k3 xs3):=fun {n k3 xs3} hn=>by
   obtain ⟨o1,h1,ha⟩:=dom n _ hn
   rcases ha with rfl|⟨ha,_⟩
   ·exact h1
   ·cases ha
  exact h.hp.sub2 i k1 xss j c1 i' k2 xss' j' c2 b (back hi) (back hi')
 ·obtain ⟨o1,h1,_⟩:=dom n o hn
  exact h.fr.own n o1 h1
 ·obtain ⟨o1,h1,ha⟩:=dom n o hn
  exact h.fr.own2 n o1 b h1 hnn (ha.sub hs)
theorem f4p {q bytes:Nat} {xs:List Opd} (hok:a09 P (.apc q bytes) xs o.op=true) (hR:Rel P c g σ a w) (hob:∀id o,ob id=some o→find id σ.heap=some o) {d:Nat} (hcl:Clean c σ d)
  (h:a0v (.apc q bytes) d (xs.map (·.ev σ.env)) ob K L) (hF:Fin o c g σ a w K L K'):o.wp P a w K' Q':=by
 obtain ⟨x,y,rfl,hok2⟩:∃x y,xs=[x,y]∧(y7.app q bytes x y none).ok P o.op=true:=by
  cases ho:o.op<;>rw [ho] at hok<;>try (simp [a09] at hok;done)
  rename_i cl
  obtain ⟨callee,args,ts⟩:=cl
  cases callee<;>try (simp [a09] at hok;done)
  rename_i b
  cases b<;>try (simp [a09] at hok;done)
  simp only [a09] at hok
  split at hok
  ·rename_i u v t t' he het
   exact ⟨_,_,rfl,by simp only [y7.ok,he,het];exact hok⟩
  ·cases hok
 simp only [wP,w4] at h
 unfold a0v at h
 split at h<;>try (rename_i heq;simp at heq;done)
 all_goals try (rename_i e1 e2;cases e1;done)
 case h_24=>exact h.elim
 rename_i q' bytes' id k' lo n y' e1 e2
 cases e1
 simp only [wG,and_true] at e2
 obtain ⟨e2,e3⟩:=e2
 subst e3
 split at h
 case h_2=>exact h.elim
 rename_i ys hsrc
 obtain ⟨hvl,h⟩:=h
 split at h
 case h_2=>exact h.elim
 rename_i k'' zs t0 hobj
 cases hkk:Nat.beq q k'&&Nat.beq q k''&&!(y.ev σ.env).has id with
 | false=>rw [hkk] at h;exact h.elim
 | true =>
 rw [hkk] at h
 simp only [xY,xO] at hkk
 obtain ⟨⟨hk1,hk2⟩,hyn⟩:=hkk
 have:=zR hk1;subst this
 have:=zR hk2;subst this
 obtain ⟨⟨hrm,hye⟩,hK⟩:=h
 obtain ⟨hlo,hbd⟩:=c6b.1 hrm
 rw [show ((zs.drop lo).take n++ys).length=n+ys.length by simp;omega] at hK
 have hfd:=hob _ _ hobj
 have hR':=hR.cutR (m:=lo+n) hfd
 have dom1:∀i o',find i (Go.Ab.put id (.arr q (zs.take (lo+n)) t0) σ.heap)=some o'→∃o1,find i σ.heap=some o1∧Alk o' o1:=fun i o' hi=>by
  rw [a0i] at hi
  split at hi
  ·rename_i e;subst e;cases hi;exact ⟨_,hfd,.inr ⟨rfl,rfl⟩⟩
  ·exact ⟨_,hi,.inl rfl⟩
 have hsrc':a5c q (y.ev σ.env) (fun i=>find i (Go.Ab.put id (.arr q (zs.take (lo+n)) t0) σ.heap))=some ys:=by
  cases hy:y.ev σ.env with
  | osl j k2 l2 n2 =>
   rw [hy] at hsrc hyn
   have hj:j≠id:=fun e=>by subst e;simp [V.has,wW] at hyn
   simp only [a5c] at hsrc ⊢
   split at hsrc
   ·rename_i k3 ys3 t3 hoj
    have:=hob _ _ hoj
    simp only [a0i,hj,if_false,this];exact hsrc
   ·cases hsrc
  | _=>rw [hy] at hsrc;exact hsrc
 have hcl':Clean c ⟨σ.env,Go.Ab.put id (.arr q (zs.take (lo+n)) t0) σ.heap⟩ d:=by
  refine ⟨hcl.1,hcl.2.1,?_⟩
  have:∀{H:Heap},a0w d H=true→a0w d (Go.Ab.put id (.arr q (zs.take (lo+n)) t0) H)=true:=by
   intro H
   induction H with
   | nil=>intro _;simp [Go.Ab.put,a0w,a03.has]
   | cons p r ih =>
    obtain ⟨m,x⟩:=p
    intro hh
    simp only [a0w,xY] at hh
    simp only [Go.Ab.put]
    cases Nat.beq id m with
    | true=>simp [a0w,a03.has,hh.2]
    | false=>simp only [vC,a0w,xY];exact ⟨hh.1,ih hh.2⟩
  exact this hcl.2.2
 have hdl:(zs.take (lo+n)).drop lo=(zs.drop lo).take n:=by rw [List.drop_take];congr 1;omega
 refine e4e (σ:=⟨σ.env,Go.Ab.put id (.arr q (zs.take (lo+n)) t0) σ.heap⟩) (K:=fun e=>e=⟨.osl d q 0 (n+ys.length),[id],[(d,.arr q ((zs.drop lo).take n++ys))]⟩) (L:=fun _=>False) hok2 hR' (ob:=fun i=>find i (Go.Ab.put id (.arr q (zs.take (lo+n)) t0) σ.heap)) (fun _ _ h=>h) hcl' ?_ ?_
 ·simp only [o6,c1u,hsrc']
  simp only [e2,a0i,if_true,wW,wR,vE]
  refine ⟨hvl,⟨by rw [xS];omega,hbd,hye⟩,?_⟩
  rw [hdl]
  cases t0<;>rfl
 ·intro eff hk g' v w' hs hf hv
  rcases hk with rfl|hk
  case inr=>exact hk.elim
  refine hF _ (.inl hK) g' v w' (hs.congrH dom1) (fun i o' hi=>?_) hv
  rcases hf i o' hi with h1|⟨h1,h2,h3⟩
  ·exact .inl h1
  ·refine .inr ⟨h1,h2,fun n2 o2 hn2 hne=>?_⟩
   by_cases e:n2=id
   ·subst e;rw [hfd] at hn2;cases hn2;rfl
   ·exact h3 n2 o2 (by simp only [a0i,e,if_false];exact hn2) hne
theorem g1p {m:b9t} {xs:List Opd} (hok:(y7.mp m xs).ok P o.op=true) (hR:Rel P c g σ a w) (hob:∀id o,ob id=some o→find id σ.heap=some o) {d:Nat} (hcl:∀n∈(y7.mp m xs).creates d,Clean c σ n)
  (h:o6 P (.mp m xs) d (xs.map (·.ev σ.env)) ob K L) (hF:Fin o c g σ a w K L K'):o.wp P a w K' Q':=by
 have hok':a09 P m xs o.op=true:=by
  cases ho:o.op<;>simpa only [y7.ok,ho] using hok
 have h':a0v m d (xs.map (·.ev σ.env)) ob K L:=h
 cases m with
 | mk kd=>exact g1r hok' hR (hcl d (by simp [y7.creates])) h' hF
 | lku kd ok z=>exact f3s hok' hR hob h' hF
 | up kd=>exact g1l hok' hR hob h' hF
 | del kd=>exact f4h hok' hR hob h' hF
 | len=>exact e3w hok' hR hob h' hF
 | rng=>exact f3h hok' hR (hcl d (by simp [y7.creates])) h' hF
 | nxt=>exact f3j hok' hR hob h' hF
 | ent=>exact f4g hok' hR hob h' hF
 | isn ng=>exact f3v hok' hR h' hF
 | tab i=>exact f3e hok' hR h' hF
 | ups kd=>exact f3d hok' hR hob h' hF
 | uss=>exact f3c hok' hR hob h' hF
 | lss=>exact f3r hok' hR hob h' hF
 | mx3=>exact f3n hok' hR h' hF
 | ifz ng=>exact f3w hok' hR h' hF
 | fnz ng=>exact f4b hok' hR h' hF
 | r2s=>exact f3i hok' hR h' hF
 | bnd f=>exact f4k hok' hR h' hF
 | cpy k=>exact f4i hok' hR hob h' hF
 | apc k bytes=>exact f4p hok' hR hob (hcl d (by simp [y7.creates])) h' hF
 | mvo=>exact f3o hok' hR hob (hcl d (by simp [y7.creates])) h' hF
 | mvi=>exact f3p hok' hR hob h' hF
 | apr k bytes=>exact f4o hok' hR hob (hcl d (by simp [y7.creates])) h' hF
end
section
variable {P:Program} {o:Oper} {c:Ctx} {g:Gh} {σ:St} {a:Act} {w:World} {ob:Nat→Option a03} {K L:Eff→Prop} {K':Act→World→Prop} {Q':Exit→Act→World→Prop}
theorem b6g:∀(s:List UInt8) (b:ByteArray),((s.map fun c=>(c.toNat:Int)).foldl (fun r n=>r.push (UInt8.ofNat n.toNat)) b).data.toList=b.data.toList++s
 | [],b=>by simp
 | c::s,b=>by
  simp only [wP,wF]
  rw [b6g s]
  have:(b.push (UInt8.ofNat ((c.toNat:Int).toNat))).data=b.data.push c:=by
   simp [ByteArray.push]
  rw [this];simp
theorem d65 {w:World} {k:Nat} {v:Value} {ys:List V} {news:List Value} {S:Nat→Prop} {s:List UInt8} (h:Src P S w k v ys news) (hk:k=1) (hs:ys=s.map a0a) (hv:(∃ad n cp,v=.slice ad n cp) ):∃b:ByteArray,(Conv.bytesToString v).run P w=.ok (.string b) w∧b.data.toList=s:=by
 subst hk
 obtain ⟨ad,n,cp,rfl⟩:=hv
 have hl:ys.length=s.length:=by rw [hs];simp
 have hn:n=s.length:=by
  have:=h.lenOf
  simp [Builtin.lenOf] at this
  omega
 have hnews:news=s.map fun c=>Value.int .u8 c.toNat:=by
  apply xM
  intro j
  by_cases hj:j<s.length
  ·have hyj:ys[j]?=some (a0a s[j]):=by rw [hs];simp [hj]
   have:=h.rd j 0 (a0a s[j]) (a0a s[j]) hyj rfl
   rw [Nat.mul_one,wY] at this
   have hlt:j<news.length:=by have:=h.len;omega
   have e1:news.getD j undef=news[j]:=by simp [hlt]
   rw [e1] at this
   have e2:=(VR.rd (g:=⟨S,id,id,id,fun _=>False,fun _ _=>none⟩) this).int_inv.1
   rw [zJ hlt,e2]
   simp [hj]
  ·rw [List.getElem?_eq_none (by have:=h.len;omega),List.getElem?_eq_none (by simp;omega)]
 cases ad with
 | none =>
  have hz:s.length=0:=by
   have:=h.first
   simp [Builtin.firstCells] at this
   have h2:news=[]:=this
   have:=h.len;rw [h2] at this;simp at this;omega
  have:s=[]:=zB hz
  subst this
  exact ⟨.empty,by simp [Conv.bytesToString],rfl⟩
 | some ad =>
  have hf:=h.first
  simp only [Builtin.firstCells,Nat.mul_one] at hf
  rw [hl] at hf
  have:=run_bytesToString (P:=P) w ad n cp (s.map fun c=>(c.toNat:Int)) (by rw [hn,hf,hnews];simp)
  exact ⟨_,this,by rw [b6g];rfl⟩
theorem f4n {x:Opd} (hok:(y7.b2s x).ok P o.op=true) (hR:Rel P c g σ a w) (hob:∀id o,ob id=some o→find id σ.heap=some o) {d:Nat} (h:o6 P (.b2s x) d [x.ev σ.env] ob K L) (hF:Fin o c g σ a w K L K'):o.wp P a w K' Q':=by
 have:∃s dd y e,o.op=.convert s dd y∧x.ok y=true∧P.underlying dd=some .string∧P.underlying s=some (.slice e)∧P.underlying e=some (.int .u8):=by
  cases ho:o.op<;>rw [ho] at hok<;>try (simp [y7.ok] at hok;done)
  rename_i s dd y
  simp only [y7.ok,xY,a2s] at hok
  obtain ⟨⟨h1,h2⟩,h3⟩:=hok
  split at h2<;>try (cases h2;done)
  rename_i e hu
  simp only [xY] at h2
  refine ⟨s,dd,y,e,rfl,h1,f0c h3,hu,?_⟩
  have:=h2.1
  split at this<;>first|assumption|cases this
 obtain ⟨s,dd,y,e,ho,hx,hd,hs,he⟩:=this
 have vx:=Opd.vr hR hx
 have hexec:∀{ad:Option Addr} {n cp:Nat} {r:Value},a.eval y=.slice ad n cp→(Conv.bytesToString (.slice ad n cp)).run P w=.ok r w→(execOp a.eval o).run P w=.ok (.value r) w:=by
  intro ad n cp r e1 hr
  simp only [execOp,ho,e1]
  refine a6b ?_
  rw [run_convert_bytes_string w s dd e ad n cp hs he hd,hr]
 have src:∀{ys:List V} {t:List UInt8},a5c 1 (x.ev σ.env) ob=some ys→d3t (x.ev σ.env)≤ys.length→(∃ad n cp,a.eval y=.slice ad n cp)→ys=t.map a0a→(K (evl (.str t))∨L (evl (.str t)))→o.wp P a w K' Q':=by
  intro ys t hsrc hvl ⟨ad,n,cp,e1⟩ hys hk
  obtain ⟨news,hsr⟩:=a88 hR hob vx hsrc hvl (fun z hz=>by rw [hys] at hz;exact (b7x t z hz).1)
  obtain ⟨b,hb1,hb2⟩:=d65 hsr rfl hys ⟨ad,n,cp,e1⟩
  rw [e1] at hb1
  refine z8 hR hF (hexec e1 hb1) hk (.rd ?_)
  rw [←hb2]
  refine .str b ?_
  have hsz:b.size=t.length:=by rw [←hb2,z6];rfl
  have:=hsr.big
  rw [hys] at this;simp at this;omega
 simp only [o6,c65] at h
 split at h
 ·rename_i hc
  rw [hc] at vx
  exact src (ys:=[]) (t:=[]) (by rw [hc];rfl) (by rw [hc];exact w8 _) ⟨none,0,0,vx.nils_inv⟩ rfl (.inl h)
 ·rename_i xs hc
  rw [hc] at vx
  obtain ⟨t,rfl,hk⟩:=h
  refine src (ys:=t.map a0a) (t:=t) (by rw [hc];rfl) (by rw [hc];exact w6 _) ?_ rfl (.inr hk)
  have hrd:=vx.sl_inv
  generalize a.eval y=vy at hrd
  generalize hxs:t.map a0a=xs at hrd
  cases hrd with
  | nilsl=>exact ⟨_,_,_,rfl⟩
  | slz=>exact ⟨_,_,_,rfl⟩
  | sl=>exact ⟨_,_,_,rfl⟩
 ·rename_i id k lo n hc
  rw [hc] at vx
  split at h
  ·rename_i k' xs t0 hobj
   by_cases hb:(Nat.beq k k'&&Nat.beq k 1)=true
   case neg=>simp [hb] at h
   simp only [hb,vE] at h
   simp only [xY] at hb
   have q1:=zR hb.1;subst q1
   have q2:=zR hb.2;subst q2
   obtain ⟨t,ht,hl,hk⟩:=h
   refine src (ys:=(xs.drop lo).take n) (t:=t) ?_ ?_ ?_ ht (.inr hk)
   ·rw [hc];simp [a5c,hobj]
   ·rw [hc,ht];simp [d3t,hl]
   ·rcases vx.osl_inv with ⟨_,hv,_⟩|⟨_,o',cc,hv,_⟩
    ·exact ⟨_,_,_,hv⟩
    ·exact ⟨_,_,_,hv⟩
  ·exact h.elim
 ·exact h.elim
theorem b40:∀{ids:List Nat} {H:Heap},b8c ids ob=some H→H.map (·.1)=ids∧∀id o,find id H=some o→ob id=some o∧id∈ids
 | [],H,h=>by simp [b8c] at h;subst h;exact ⟨rfl,fun id o h=>by simp [find] at h⟩
 | n :: r,H,h=>by
  simp only [b8c] at h
  split at h
  ·rename_i o ho
   cases hr:b8c r ob with
   | none=>rw [hr] at h;cases h
   | some H' =>
    rw [hr] at h
    simp at h;subst h
    obtain ⟨h1,h2⟩:=b40 hr
    refine ⟨by simp [h1],fun id o' h=>?_⟩
    by_cases e:id=n
    ·subst e
     simp [find] at h;subst h
     exact ⟨ho,xA⟩
    ·have:Nat.beq id n=false:=by
      cases hb:Nat.beq id n with
      | true=>exact absurd (zR hb) e
      | false=>rfl
     simp only [find,this,vC] at h
     obtain ⟨h3,h4⟩:=h2 id o' h
     exact ⟨h3,z3 _ h4⟩
  ·cases h
theorem b8b {ids:List Nat} {H:Heap} (h:b8c ids ob=some H) {id:Nat} (hid:id∈ids):∃o,find id H=some o:=by
 have h1:=(b40 h).1
 rw [←h1] at hid
 clear h h1
 induction H with
 | nil=>simp at hid
 | cons p H ih =>
  obtain ⟨m,o⟩:=p
  by_cases e:Nat.beq id m=true
  ·exact ⟨o,by simp [find,e]⟩
  ·have hne:¬id=m:=fun h=>e (by rw [h];exact wW m)
   simp only [wP,wO] at hid
   obtain ⟨o',ho'⟩:=ih (hid.resolve_left hne)
   have e':Nat.beq id m=false:=by
    cases hb:Nat.beq id m with
    | true=>exact absurd hb e
    | false=>rfl
   exact ⟨o',by simp only [find,e',vC];exact ho'⟩
theorem c0j {n:Nat}:∀{l:List Nat},mem n l=true→n∈l
 | [],h=>by simp [mem] at h
 | m::r,h=>by
  simp only [mem,wI] at h
  rcases h with h|h
  ·have:=zR h;subst this;exact xA
  ·exact z3 _ (c0j h)
theorem b52:∀{H:Heap} {ids news:List Nat},b1t H ids news=true→(∀id o,(id,o)∈H→id∈ids∨id∈news)∧∀id o,(id,o)∈H→find id H=some o
 | [],_,_,_=>⟨fun _ _ h=>by simp at h,fun _ _ h=>by simp at h⟩
 | (n,o1)::r,ids,news,h=>by
  simp only [b1t,xY,wI] at h
  obtain ⟨⟨h1,h2⟩,h3⟩:=h
  obtain ⟨k1,k2⟩:=b52 h3
  refine ⟨fun id o ho=>?_,fun id o ho=>?_⟩
  ·rcases wO.1 ho with ho|ho
   ·cases ho
    exact h1.imp c0j c0j
   ·exact k1 id o ho
  ·rcases wO.1 ho with ho|ho
   ·cases ho;simp [find]
   ·have:=k2 id o ho
    by_cases e:id=n
    ·subst e
     rw [this] at h2;cases h2
    ·have e':Nat.beq id n=false:=by
      cases hb:Nat.beq id n with
      | true=>exact absurd (zR hb) e
      | false=>rfl
     simp only [find,e',vC];exact this
theorem a2o.sub {H H':Heap} (h:a2o P g w H) (hs:∀id o,find id H'=some o→find id H=some o):a2o P g w H' :=
 ⟨fun id o ho=>h.obj id o (hs id o ho),fun i j o o' hi hj=>h.inj i j o o' (hs i o hi) (hs j o' hj),fun id o ho=>h.sep id o (hs id o ho),h.lt,h.tabs,fun z o b hz hn hb=>⟨(h.sub1 z o b (hs z o hz) hn hb).1,fun id o' ho=>(h.sub1 z o b (hs z o hz) hn hb).2 id o' (hs id o' ho)⟩,
  fun i k xss j c i' k' xss' j' c' b hi hi'=>h.sub2 i k xss j c i' k' xss' j' c' b (hs _ _ hi) (hs _ _ hi')⟩
theorem VR.bnd_inv {v:Value} {n:Nat} {cs:List V} (h:VR g w v (.fn (.yield n) cs)):∃vs:Array Value,v=.func (.func n) vs #[]∧vs.size=cs.length∧∀(i:Nat) (c:V),cs[i]?=some c→VR g w (vs.getD i undef) c:=by
 cases h with
 | rd h=>cases h
 | bnd n vs _ hl hr=>exact ⟨vs,rfl,hl,hr⟩
theorem s_call {f:Opd} {args:List Opd} {ids news:List Nat} (hok:(y7.call f args ids news).ok P o.op=true) (hR:Rel P c g σ a w) (hob:∀id o,ob id=some o→find id σ.heap=some o) {d:Nat} (hcl:∀n∈news,Clean c σ n)
  (h:o6 P (.call f args ids news) d (f.ev σ.env::args.map (·.ev σ.env)) ob K L) (hF:Fin o c g σ a w K L K'):o.wp P a w K' Q':=by
 have:∃cl f',o.op=.call cl∧cl.callee=.value f'∧f.ok f'=true∧a7u args cl.args.toList=true:=by
  cases ho:o.op<;>rw [ho] at hok<;>try (simp [y7.ok] at hok;done)
  rename_i cl
  obtain ⟨callee,args',ts⟩:=cl
  cases callee<;>try (simp [y7.ok] at hok;done)
  simp only [y7.ok,xY] at hok
  exact ⟨_,_,rfl,rfl,hok.1,hok.2⟩
 obtain ⟨cl,f',ho,hcal,hf,hargs⟩:=this
 have vf:=Opd.vr hR hf
 obtain ⟨hal,hav⟩:=b7j hR hargs
 simp only [o6,b3n] at h
 split at h
 ·rename_i n cap hfn
  rw [hfn] at vf
  obtain ⟨vs,ef,hvl,hvr⟩:=vf.fn_inv
  split at h
  ·rename_i H hH
   obtain ⟨hcb,hcall⟩:=h
   obtain ⟨hdom,hsub⟩:=b40 hH
   have hHR:a2o P g w H:=hR.hp.sub fun id o ho=>hob id o (hsub id o ho).1
   have hAargs:=hcall g w (cl.args.map a.eval++vs) hHR (by simp [hal,hvl]) (fun i x hi=>by
    rw [List.getElem?_append] at hi
    simp only [wE] at hi
    by_cases hlt:i<args.length
    ·rw [if_pos hlt] at hi
     have:=hav i x hi
     have e1:(cl.args.map a.eval++vs).getD i undef=(cl.args.toList.map a.eval).getD i undef:=by
      have:i<cl.args.size:=by simpa [hal] using hlt
      simp [zC,zW,this]
     rw [e1];exact this
    ·rw [if_neg hlt] at hi
     have:=hvr (i - args.length) x hi
     have hsz:args.length=cl.args.size:=by simpa using hal
     have e1:(cl.args.map a.eval++vs).getD i undef=vs.getD (i - args.length) undef:=by
      simp [zC,zW,←hsz,hlt]
     rw [e1];exact this)
   have hrun:(execOp a.eval o).run P w=.ok (.enter n (cl.args.map a.eval++vs)) w:=by
    unfold callable at hcb
    split at hcb
    ·rename_i fn hfn'
     simp only [xY,xO] at hcb
     have hb:fn.body.isNone=false:=by
      cases hbo:fn.body with
      | none=>rw [hbo] at hcb;exact absurd hcb.2 (by simp)
      | some _=>rfl
     have hnm:¬fn.name = "runtime.NumGoroutine":=by simpa using hcb.1
     have hbb:¬fn.body=none:=by intro h;rw [h] at hb;cases hb
     simp [execOp,ho,resolve,hcal,ef,Deferred.ofValue,invoke,callFunc,hfn',hnm,hbb]
    ·cases hcb
   unfold Oper.wp
   rw [hrun]
   refine hAargs.mono ?_
   rintro e w' ⟨v,r,H',g',rfl,hq,hH',hv,hfr,hgh⟩
   by_cases hin:b1t H' ids news=true
   case neg=>simp [hin] at hq
   simp only [hin,vE] at hq
   obtain ⟨k1,k2⟩:=b52 hin
   have hids:∀id∈ids,∃o,find id H=some o:=fun id hid=>b8b hH hid
   have hdomf:∀id o,find id H=some o→id∈ids∧find id σ.heap=some o:=fun id o ho=>⟨(hsub id o ho).2,hob id o (hsub id o ho).1⟩
   have hM:∀b,(⟨w,g,H,0,[],[],H,g,w⟩:Ctx).M b→∃id o,id∈ids∧find id σ.heap=some o∧¬g.nil id∧(g.ρ id=b∨a4i g id o b):=by
    rintro b ⟨id,o,h1,h2,h3⟩
    exact ⟨id,o,(hdomf id o h1).1,(hdomf id o h1).2,h2,h3⟩
   have hmemE:∀id,id∈ids→id∈(Eff.mk r ids H').ids:=fun id hid=>by simp [Eff.ids,hid]
   refine hF ⟨r,ids,H'⟩ (.inr hq) g' v w' ⟨hfr.os,hfr.tape,hfr.output,hfr.size,fun b hb hb'=>hfr.old b hb fun hm=>?_,fun b hb=>hfr.sup b (.inl hb),fun b hb=>?_,hH'.lt,fun id hid=>hgh id ?_,fun id o ho=>hH'.obj id o (k2 id o ho),fun id o ho hn=>?_,
    fun i j o o' hi hj hni hnj=>hH'.inj i j o o' (k2 i o hi) (k2 j o' hj) hni hnj,fun id o ho hn=>hH'.sep id o (k2 id o ho) hn,fun b hb hb'=>hfr.sb b hb fun hm=>?_,
    ⟨fun id o b ho hn hs=>?_,fun id o b ho hn hs=>(hH'.sub1 id o b (k2 id o ho) hn hs).1,fun id o b id' o' ho hn hs ho'=>(hH'.sub1 id o b (k2 id o ho) hn hs).2 id' o' (k2 id' o' ho'),fun i k xss j c i' k' xss' j' c' b hi hi'=>hH'.sub2 i k xss j c i' k' xss' j' c' b (k2 _ _ hi) (k2 _ _ hi')⟩⟩ (fun id o ho=>?_) hv
   ·obtain ⟨id,o,h1,h2,h3,h4⟩:=hM b hm
    exact h4.elim (hb' id o (hmemE id h1) h2 h3).1 (hb' id o (hmemE id h1) h2 h3).2
   ·rcases (hfr.sub b hb).1 with h1|h1|h1
    ·exact .inl h1
    ·exact .inr (.inl h1)
    ·obtain ⟨id,o,h2,h3,h4,h5⟩:=hM b h1
     exact .inr (.inr ⟨id,o,hmemE id h2,h3,h4,h5⟩)
   ·cases hfd:find id H' with
    | none=>rfl
    | some o=>exact absurd (mem_of_find hfd) (hid o)
   ·rcases (hfr.own id o (k2 id o ho) hn).1 with h1|h1
    ·exact .inl h1
    ·obtain ⟨id',o',h2,h3,h4,h5⟩:=hM _ h1
     exact .inr ⟨id',o',hmemE id' h2,h3,h4,h5⟩
   ·obtain ⟨id,o,h1,h2,h3,h4⟩:=hM b hm
    exact h4.elim (hb' id o (hmemE id h1) h2 h3).1 (hb' id o (hmemE id h1) h2 h3).2
   ·rcases (hfr.own2 id o b (k2 id o ho) hn hs).1 with h1|h1
    ·exact .inl h1
    ·obtain ⟨id',o',h2,h3,h4,h5⟩:=hM _ h1
     exact .inr ⟨id',o',hmemE id' h2,h3,h4,h5⟩
   ·rcases k1 id o ho with h1|h1
    ·obtain ⟨o',ho'⟩:=hids id h1
     exact .inl (hfr.par id o' ho')
    ·exact .inr ⟨(hcl id h1).1,fun s x hx=>a2v (hcl id h1).2.1 hx,fun m o' hm _=>a2r (hcl id h1).2.2 hm⟩
  ·exact h.elim
 ·rename_i n cap hfn
  rw [hfn] at vf
  obtain ⟨vs,ef,hvl,hvr⟩:=vf.bnd_inv
  split at h
  ·rename_i H hH
   obtain ⟨hcb,hcall⟩:=h
   obtain ⟨hdom,hsub⟩:=b40 hH
   have hHR:a2o P g w H:=hR.hp.sub fun id o ho=>hob id o (hsub id o ho).1
   have hAargs:=hcall g w (vs++cl.args.map a.eval) hHR (by simp [hal,hvl]) (fun i x hi=>by
    rw [List.getElem?_append] at hi
    by_cases hlt:i<cap.length
    ·rw [if_pos hlt] at hi
     have:=hvr i x hi
     have e1:(vs++cl.args.map a.eval).getD i undef=vs.getD i undef:=by
      have:i<vs.size:=by rw [hvl];exact hlt
      simp [zC,zW,this]
     rw [e1];exact this
    ·rw [if_neg hlt] at hi
     have:=hav (i - cap.length) x hi
     have e1:(vs++cl.args.map a.eval).getD i undef=(cl.args.toList.map a.eval).getD (i - cap.length) undef:=by
      simp [zC,zW,hvl,hlt]
     rw [e1];exact this)
   have hrun:(execOp a.eval o).run P w=.ok (.enter n (vs++cl.args.map a.eval)) w:=by
    unfold callable at hcb
    split at hcb
    ·rename_i fn hfn'
     simp only [xY,xO] at hcb
     have hb:fn.body.isNone=false:=by
      cases hbo:fn.body with
      | none=>rw [hbo] at hcb;exact absurd hcb.2 (by simp)
      | some _=>rfl
     have hnm:¬fn.name = "runtime.NumGoroutine":=by simpa using hcb.1
     have hbb:¬fn.body=none:=by intro h;rw [h] at hb;cases hb
     simp [execOp,ho,resolve,hcal,ef,Deferred.ofValue,invoke,callFunc,hfn',hnm,hbb]
    ·cases hcb
   unfold Oper.wp
   rw [hrun]
   refine hAargs.mono ?_
   rintro e w' ⟨v,r,H',g',rfl,hq,hH',hv,hfr,hgh⟩
   by_cases hin:b1t H' ids news=true
   case neg=>simp [hin] at hq
   simp only [hin,vE] at hq
   obtain ⟨k1,k2⟩:=b52 hin
   have hids:∀id∈ids,∃o,find id H=some o:=fun id hid=>b8b hH hid
   have hdomf:∀id o,find id H=some o→id∈ids∧find id σ.heap=some o:=fun id o ho=>⟨(hsub id o ho).2,hob id o (hsub id o ho).1⟩
   have hM:∀b,(⟨w,g,H,0,[],[],H,g,w⟩:Ctx).M b→∃id o,id∈ids∧find id σ.heap=some o∧¬g.nil id∧(g.ρ id=b∨a4i g id o b):=by
    rintro b ⟨id,o,h1,h2,h3⟩
    exact ⟨id,o,(hdomf id o h1).1,(hdomf id o h1).2,h2,h3⟩
   have hmemE:∀id,id∈ids→id∈(Eff.mk r ids H').ids:=fun id hid=>by simp [Eff.ids,hid]
   refine hF ⟨r,ids,H'⟩ (.inr hq) g' v w' ⟨hfr.os,hfr.tape,hfr.output,hfr.size,fun b hb hb'=>hfr.old b hb fun hm=>?_,fun b hb=>hfr.sup b (.inl hb),fun b hb=>?_,hH'.lt,fun id hid=>hgh id ?_,fun id o ho=>hH'.obj id o (k2 id o ho),fun id o ho hn=>?_,
    fun i j o o' hi hj hni hnj=>hH'.inj i j o o' (k2 i o hi) (k2 j o' hj) hni hnj,fun id o ho hn=>hH'.sep id o (k2 id o ho) hn,fun b hb hb'=>hfr.sb b hb fun hm=>?_,
    ⟨fun id o b ho hn hs=>?_,fun id o b ho hn hs=>(hH'.sub1 id o b (k2 id o ho) hn hs).1,fun id o b id' o' ho hn hs ho'=>(hH'.sub1 id o b (k2 id o ho) hn hs).2 id' o' (k2 id' o' ho'),fun i k xss j c i' k' xss' j' c' b hi hi'=>hH'.sub2 i k xss j c i' k' xss' j' c' b (k2 _ _ hi) (k2 _ _ hi')⟩⟩ (fun id o ho=>?_) hv
   ·obtain ⟨id,o,h1,h2,h3,h4⟩:=hM b hm
    exact h4.elim (hb' id o (hmemE id h1) h2 h3).1 (hb' id o (hmemE id h1) h2 h3).2
   ·rcases (hfr.sub b hb).1 with h1|h1|h1
    ·exact .inl h1
    ·exact .inr (.inl h1)
    ·obtain ⟨id,o,h2,h3,h4,h5⟩:=hM b h1
     exact .inr (.inr ⟨id,o,hmemE id h2,h3,h4,h5⟩)
   ·cases hfd:find id H' with
    | none=>rfl
    | some o=>exact absurd (mem_of_find hfd) (hid o)
   ·rcases (hfr.own id o (k2 id o ho) hn).1 with h1|h1
    ·exact .inl h1
    ·obtain ⟨id',o',h2,h3,h4,h5⟩:=hM _ h1
     exact .inr ⟨id',o',hmemE id' h2,h3,h4,h5⟩
   ·obtain ⟨id,o,h1,h2,h3,h4⟩:=hM b hm
    exact h4.elim (hb' id o (hmemE id h1) h2 h3).1 (hb' id o (hmemE id h1) h2 h3).2
   ·rcases (hfr.own2 id o b (k2 id o ho) hn hs).1 with h1|h1
    ·exact .inl h1
    ·obtain ⟨id',o',h2,h3,h4,h5⟩:=hM _ h1
     exact .inr ⟨id',o',hmemE id' h2,h3,h4,h5⟩
   ·rcases k1 id o ho with h1|h1
    ·obtain ⟨o',ho'⟩:=hids id h1
     exact .inl (hfr.par id o' ho')
    ·exact .inr ⟨(hcl id h1).1,fun s x hx=>a2v (hcl id h1).2.1 hx,fun m o' hm _=>a2r (hcl id h1).2.2 hm⟩
  ·exact h.elim
 ·exact h.elim
theorem f3q {x:Opd} (hok:(y7.mks x).ok P o.op=true) (hR:Rel P c g σ a w) (hob:∀id o,ob id=some o→find id σ.heap=some o) {d:Nat} (h:o6 P (.mks x) d [x.ev σ.env] ob K L) (hF:Fin o c g σ a w K L K'):o.wp P a w K' Q':=by
 have:∃s y e,o.op=.convert s s y∧x.ok y=true∧P.underlying s=some (.slice e)∧P.underlying e=some (.int .u8):=by
  cases ho:o.op<;>rw [ho] at hok<;>try (simp [y7.ok] at hok;done)
  rename_i s dd y
  simp only [y7.ok,xY,a2s] at hok
  obtain ⟨⟨h1,h2⟩,h3⟩:=hok
  have e1:=zR h2;subst e1
  split at h3<;>try (cases h3;done)
  rename_i e hu
  simp only [xY] at h3
  refine ⟨s,y,e,rfl,h1,hu,?_⟩
  have:=h3.1
  split at this<;>first|assumption|cases this
 obtain ⟨s,y,e,ho,hx,hs,he⟩:=this
 have vx:=Opd.vr hR hx
 simp only [o6,c9j] at h
 split at h
 ·rename_i id k lo n hc
  rw [hc] at vx
  split at h
  ·rename_i k' xs t0 hobj
   by_cases hb:(Nat.beq k k'&&Nat.beq k 1&&Nat.blt 0 n)=true
   case neg=>simp [hb] at h
   simp only [hb,vE] at h
   simp only [xY] at hb
   have q1:=zR hb.1.1;subst q1
   have q2:=zR hb.1.2;subst q2
   have hn0:0<n:=by have:=hb.2;simp [Nat.blt] at this;omega
   have hfd:=hob _ _ hobj
   rcases vx.osl_inv with ⟨_,_,h0⟩|⟨hnn,o',cc,ev,ho',hcap,hlc,hm⟩
   ·omega
   rcases hR.hp.obj _ _ hfd with ⟨hnil,_⟩|⟨_,hkp,⟨cur,e1,fz,h1,h2,⟨h3,h4⟩,h5⟩,h6,h7,h8⟩
   ·exact absurd hnil hnn
   have hsh:w.shape? (g.ρ id)=some (e1,cur.size):=by simp [World.shape?,h1]
   have hrun:(execOp a.eval o).run P w=.ok (.value (a.eval y)) (w.freeze ⟨g.ρ id,cur.size,none⟩ 1):=by
    simp only [execOp,ho,ev]
    refine a6b ?_
    simp [convert,run_underlying hs,run_underlying he,markStringish,hsh]
   obtain ⟨fz',hfz,hun⟩:∃fz',(w.freeze ⟨g.ρ id,cur.size,none⟩ 1).heap[g.ρ id]?=some (.cells cur e1 fz')∧a2l fz' cur.size:=by
    obtain ⟨lo',hi'⟩:=fz
    refine ⟨if lo'==hi' then (cur.size,cur.size+1) else (min lo' cur.size,max hi' (cur.size+1)),?_,?_⟩
    ·simp [World.freeze,zV,h1]
    ·simp only [a2l] at h3 ⊢
     split
     ·exact .inr (w8 _)
     ·rename_i hne
      simp only [beq_iff_eq] at hne
      right;simp only;omega
   have hother:∀b,b≠g.ρ id→(w.freeze ⟨g.ρ id,cur.size,none⟩ 1).heap[b]?=w.heap[b]?:=by
    intro b hb
    simp only [World.freeze,Nat.succ_ne_zero,if_false,zV]
    rw [if_neg fun e=>hb e.symm]
   have hkeep:a1l g.S w (w.freeze ⟨g.ρ id,cur.size,none⟩ 1):=a1l.upd hR.hp hfd hnn hother
   refine Fin.mk' hF h hrun (q9.upd _ id _ _ hR.hp hfd hnn (by simp [World.freeze]) (by simp [World.freeze]) (by simp [World.freeze]) (by simp [World.freeze]) hother ?_) (a0l.upd _) ?_
   ·exact .inr ⟨hnn,hkp,⟨cur,e1,fz',hfz,h2,⟨hun,e3j h4⟩,fun i j x y hi hj=>(h5 i j x y hi hj).mono hkeep fun _ h=>h⟩,h6,h7,h8⟩
   ·exact vx.mono (g':=g) hkeep (fun _ h=>h) fun _ _=>Gh.agree.refl _ _
  ·exact h.elim
 ·exact h.elim
theorem d4g {t:TypeId} {cnt k:Nat} (h:c5b P t cnt k=true):∃e,P.underlying t=some (.array cnt e)∧∀w':World,(Go.sizeOf e).run P w'=.ok k w':=by
 unfold c5b at h
 split at h<;>try (cases h;done)
 rename_i n e hu
 simp only [xY] at h
 have:=zR h.1;subst this
 exact ⟨e,hu,a6q h.2⟩
theorem f4q {n:Option Nat} {k cnt:Nat} {x i:Opd} (hok:(y7.aix n k cnt x i).ok P o.op=true) (hR:Rel P c g σ a w) {d:Nat} (h:o6 P (.aix n k cnt x i) d [x.ev σ.env,i.ev σ.env] ob K L) (hF:Fin o c g σ a w K L K'):o.wp P a w K' Q':=by
 have:∃t y z,o.op=.index t y z∧x.ok y=true∧i.ok z=true∧c5b P t cnt k=true∧(match P.underlying t with|some (.array _ e)=>decide (b89 P e=some n)|_=>false)=true:=by
  cases ho:o.op<;>rw [ho] at hok<;>try (simp [y7.ok] at hok;done)
  simp only [y7.ok,xY] at hok
  exact ⟨_,_,_,rfl,hok.1.1.1,hok.1.1.2,hok.1.2,hok.2⟩
 obtain ⟨t,y,z,ho,hx,hi,ht,hn⟩:=this
 obtain ⟨e,hu,hsz⟩:=d4g ht
 rw [hu] at hn
 simp only [xG] at hn
 have vx:=Opd.vr hR hx
 have vi:=Opd.vr hR hi
 simp only [o6,e1z] at h
 split at h
 ·rename_i cs kk m hc hm
  rw [hc] at vx;rw [hm] at vi
  obtain ⟨vs,hv,hl,hr⟩:=vx.agg_inv
  obtain ⟨ei,_⟩:=vi.int_inv
  obtain ⟨⟨h0,h1⟩,h⟩:=h
  obtain ⟨off,hoff⟩:∃off,off=m.toNat*k:=⟨_,rfl⟩
  rw [←hoff] at h
  obtain ⟨x',hk,hx'⟩:=b7i h
  rcases hx' with ⟨rfl,hx'⟩|⟨q,rfl,hq,rfl⟩
  ·have hlt:off<vs.size:=by rw [hl];exact (zG.1 hx').1
   refine z8 hR hF (v:=vs.getD off undef) ?_ (.inl hk) (hr off x' hx')
   simp [execOp,ho,Instr.index,run_underlying hu,ei,asIntOf,hv,Go.part,b0q hn w,zC,hlt,h0,h1,hsz w,←hoff]
  ·obtain ⟨h2,h3⟩:=b5j hn
   refine z8 hR hF (v:=.agg (vs.extract off (off+q))) ?_ (.inl hk) (.agg _ _ (by simp;omega) fun i p hi=>?_)
   ·have hkq:k=q:=by
     have a1:=hsz w
     rw [h3 w] at a1
     cases a1;rfl
    subst hkq
    simp [execOp,ho,Instr.index,run_underlying hu,ei,asIntOf,hv,Go.part,h2 w,h3 w,h0,h1,←hoff]
   ·rw [xC] at hi
    split at hi
    ·rename_i him
     have hi':cs[off+i]?=some p:=by simpa using hi
     have hq:=hr (off+i) p hi'
     have hlt:off+i<vs.size:=by rw [hl];exact (zG.1 hi').1
     have e1:(vs.extract off (off+q)).getD i undef=vs.getD (off+i) undef:=by
      have h3:i<min (off+q) vs.size - off:=by omega
      simp [zC,hlt,h3]
     rw [e1];exact hq
    ·cases hi
 ·exact h.elim
theorem f4r {k cnt:Nat} {x i:Opd} (hok:(y7.aad k cnt x i).ok P o.op=true) (hR:Rel P c g σ a w) {d:Nat} (h:o6 P (.aad k cnt x i) d [x.ev σ.env,i.ev σ.env] ob K L) (hF:Fin o c g σ a w K L K'):o.wp P a w K' Q':=by
 have:∃t y z,o.op=.indexAddr t y z∧x.ok y=true∧i.ok z=true∧c5b P t cnt k=true∧Nat.blt 1 cnt=true:=by
  cases ho:o.op<;>rw [ho] at hok<;>try (simp [y7.ok] at hok;done)
  simp only [y7.ok,xY] at hok
  exact ⟨_,_,_,rfl,hok.1.1.1,hok.1.1.2,hok.1.2,hok.2⟩
 obtain ⟨t,y,z,ho,hx,hi,ht,hn⟩:=this
 obtain ⟨e,hu,hsz⟩:=d4g ht
 have vx:=Opd.vr hR hx
 have vi:=Opd.vr hR hi
 have add_eq:∀b n m:Nat,(⟨b,n,none⟩:Addr).add m=⟨b,n+m,none⟩:=fun b n m=>Addr.add_lit b n m
 have hrun:∀(ad:Addr) (kk:IntKind) (m:Int),a.eval y=.pointer (some ad)→a.eval z=.int kk m→0≤m→m<cnt→(execOp a.eval o).run P w=.ok (.value (.pointer (some (ad.add (m.toNat*k))))) w:=by
  intro ad kk m e1 e2 h0 h1
  simp [execOp,ho,Instr.indexAt,run_underlying hu,e1,e2,asIntOf,Instr.sureAddr,h0,h1,hsz w]
 simp only [o6,e2a] at h
 split at h
 ·rename_i id of kk m hc hm
  rw [hc] at vx;rw [hm] at vi
  obtain ⟨ei,_⟩:=vi.int_inv
  obtain ⟨⟨h0,h1⟩,h⟩:=h
  refine z8 hR hF (hrun _ kk m vx.ptr_inv ei h0 h1) (.inl h) ?_
  rw [add_eq];exact .ptr _ _
 ·rename_i yv of kk m hc hm
  rw [hc] at vx;rw [hm] at vi
  obtain ⟨ei,_⟩:=vi.int_inv
  obtain ⟨⟨h0,h1⟩,h⟩:=h
  obtain ⟨b,o',cur,e,fz,hv,hS,hg,hb,hr⟩:=vx.eptr_inv
  refine z8 hR hF (hrun _ kk m hv ei h0 h1) (.inl h) ?_
  rw [add_eq,wN];exact .eptr b o' _ cur e fz _ hS hg hb hr
 ·rename_i id q j of kk m hc hm
  rw [hc] at vx;rw [hm] at vi
  obtain ⟨ei,_⟩:=vi.int_inv
  obtain ⟨⟨h0,h1⟩,h⟩:=h
  refine z8 hR hF (hrun _ kk m vx.optr_inv ei h0 h1) (.inl h) ?_
  rw [add_eq,wN];exact .optr _ _ _ _
 ·exact h.elim
theorem b3f {k:Nat}:∀{vs:List V} {n i:Nat} {q:Nat×Nat×V},(a2m k n vs)[i]?=some q→∃x,vs[i]?=some x∧q=((n+i)*k,k,x)
 | [],n,i,q,h=>by simp [a2m] at h
 | x::r,n,i,q,h=>by
  cases i with
  | zero=>simp [a2m] at h;exact ⟨x,rfl,h.symm⟩
  | succ i =>
   simp [a2m] at h
   obtain ⟨y,h1,h2⟩:=b3f h
   exact ⟨y,by simpa using h1,by rw [h2];congr 2;omega⟩
theorem b3e {k:Nat}:∀{vs:List V} {n:Nat},(a2m k n vs).length=vs.length
 | [],_=>rfl
 | x::r,n=>by simp [a2m,b3e]
theorem e4d {k:Nat} {zs:List V} {xs:List Opd} (hok:(y7.barr k zs xs).ok P o.op=true) (hR:Rel P c g σ a w) {d:Nat} (h:o6 P (.barr k zs xs) d (xs.map (·.ev σ.env)) ob K L) (hF:Fin o c g σ a w K L K'):o.wp P a w K' Q':=by
 have:∃t parts n e,o.op=.build t parts∧a8v P t zs=true∧P.underlying t=some (.array n e)∧a1x P e k=true∧b5b 0 xs parts.toList=true:=by
  cases ho:o.op<;>rw [ho] at hok<;>try (simp [y7.ok] at hok;done)
  rename_i t parts
  simp only [y7.ok,xY] at hok
  obtain ⟨⟨h1,h2⟩,h3⟩:=hok
  split at h2<;>try (cases h2;done)
  rename_i n e hu
  exact ⟨t,parts,n,e,rfl,h1,hu,h2,h3⟩
 obtain ⟨t,parts,n,e,ho,hz,hu,hsz,hp⟩:=this
 obtain ⟨z,hzr,hzl,hzv⟩:=b79 hz
 obtain ⟨hlen,hparts⟩:=b5a hp
 simp only [o6] at h
 split at h
 ·rename_i cs hfill
  obtain ⟨cells',r1,r2,r3⟩:=b1y (g:=g) (w0:=w) (fun i=>some (i*k,k)) (parts.toList.map fun q=>(q.1,a.eval q.2)) (a2m k 0 (xs.map (·.ev σ.env))) z.cells zs cs (by simp [b3e,hlen])
   (fun i pt q hi hq=>by
    obtain ⟨x,h1,h2⟩:=b3f hq
    rw [xK] at hi h1
    cases hpi:parts.toList[i]? with
    | none=>rw [hpi] at hi;cases hi
    | some p0 =>
     cases hqi:xs[i]? with
     | none=>rw [hqi] at h1;cases h1
     | some q0 =>
      rw [hpi] at hi;rw [hqi] at h1
      simp at hi h1;subst hi;subst h2
      obtain ⟨k1,k2⟩:=hparts i q0 p0 hqi hpi
      refine ⟨by simp [k1],?_⟩
      rw [←h1];exact Opd.vr hR k2)
   hzl (fun i x hx=>.rd (hzv g.S w i x hx).1) hfill
  have hbuild:(Instr.build t (parts.map fun (i,x)=>(i,a.eval x))).run P w=.ok (.agg cells') w:=by
   simp only [Instr.build,wT,hzr w,xH,run_underlying hu,a6q hsz w]
   have e2:(parts.map fun (i,x)=>(i,a.eval x)).toList=parts.toList.map fun q=>(q.1,a.eval q.2):=by simp
   rw [e2,r1]
   rfl
  refine z8 hR hF (v:=.agg cells') ?_ (.inl h) (.agg _ _ r2 r3)
  simp only [execOp,ho]
  exact a6b hbuild
 ·exact h.elim
theorem e4c {x:Opd} (hok:(y7.ls2b x).ok P o.op=true) (hR:Rel P c g σ a w) {d0:Nat} (h:o6 P (.ls2b x) d0 [x.ev σ.env] ob K L) (hF:Fin o c g σ a w K L K'):o.wp P a w K' Q':=by
 obtain ⟨d,hcl,hfr⟩:=c2m c σ
 have hok':(y7.s2b x).ok P o.op=true:=by
  cases ho:o.op<;>rw [ho] at hok<;>try (simp [y7.ok] at hok;done)
  exact hok
 simp only [o6,c3q] at h
 split at h
 ·rename_i s hs
  refine e3u (K:=fun e=>e=⟨.osl d 1 0 (s.map a0a).length,[],[(d,.arr 1 (s.map a0a))]⟩) (L:=fun _=>False) (d:=d) (ob:=ob) hok' hR hcl ?_ fun eff he g' v w' h1 h2 h3=>?_
  ·simp only [o6,d5d,hs,wE]
  ·rcases he with rfl|he
   ·obtain ⟨g'',k1,k2⟩:=b5e h1 h3 hfr
    exact hF _ (.inl h) g'' v w' k1 (fun _ _ h=>by simp [evl] at h) k2
   ·exact he.elim
 ·exact h.elim
theorem b8v (i:y7) {d:Nat} (hok:i.ok P o.op=true) (hR:Rel P c g σ a w) (hob:∀id o,ob id=some o→find id σ.heap=some o) (hcl:∀n∈i.creates d,Clean c σ n)
  (h:o6 P i d (i.opds.map (·.ev σ.env)) ob K L) (hF:Fin o c g σ a w K L K'):o.wp P a w K' Q':=by
 cases i with
 | mv x=>exact g1n hok hR h hF
 | pick c a b=>exact e3v hok hR h hF
 | alloc zs=>exact d58 hok hR (hcl d (by simp [y7.creates])) h hF
 | box x=>exact f4j hok hR (hcl d (by simp [y7.creates])) h hF
 | build zs ps =>
  refine d57 (d:=d) (ob:=ob) (L:=L) (K:=K) hok hR ?_ hF
  have:ps.map (fun p=>p.2.2.ev σ.env)=(y7.build zs ps).opds.map (·.ev σ.env):=by simp [y7.opds]
  rw [this];exact h
 | bslice k xs uv=>exact c1r hok hR (hcl d (by simp [y7.creates])) h hF
 | ld n a=>exact g1s hok hR hob h hF
 | st n a v=>exact g1m hok hR hob h hF
 | nck a=>exact f3m hok hR h hF
 | bin ch op x y=>exact f4l hok hR h hF
 | mask m x k=>exact e3z hok hR h hF
 | beq ng x y=>exact f4m hok hR h hF
 | eqs ng ks x y=>exact f4f hok hR h hF
 | not x=>exact f3k hok hR h hF
 | neg ch x=>exact f3l hok hR h hF
 | i2i ch k x=>exact f4a hok hR h hF
 | idc x=>exact f3y hok hR h hF
 | mks x=>exact f3q hok hR hob h hF
 | s2b x=>exact e3u hok hR (hcl d (by simp [y7.creates])) h hF
 | b2s x=>exact f4n hok hR hob h hF
 | mkfn f cap=>exact e3y hok hR h hF
 | mksl k bytes z l c=>exact e3x hok hR (hcl d (by simp [y7.creates])) h hF
 | sls x lo hi=>exact f3f hok hR h hF
 | slc k x lo hi=>exact f3g hok hR h hF
 | fad off x=>exact f4d hok hR h hF
 | fld n off x=>exact f4c hok hR h hF
 | iad k x i=>exact f3z hok hR h hF
 | idx x i=>exact f3x hok hR h hF
 | aix n k cnt x i=>exact f4q hok hR h hF
 | aad k cnt x i=>exact f4r hok hR h hF
 | barr k zs xs=>exact e4d hok hR h hF
 | lsl k xs=>exact e4a hok hR h hF
 | ls2b x=>exact e4c hok hR h hF
 | ext i x=>exact f4e hok hR h hF
 | len s x=>exact f3t hok hR h hF
 | app k bytes x y=>exact e4e hok hR hob (hcl d (by simp [y7.creates])) h hF
 | mm mx x y=>exact g1q hok hR h hF
 | mp m xs=>exact g1p hok hR hob hcl h hF
 | call f args ids news=>exact s_call hok hR hob (fun n hn=>hcl n (by simpa [y7.creates] using hn)) h hF
end
def Lk (p:Prop):Prop:=p
theorem Lk.mk {p:Prop} (h:p):Lk p:=h
theorem Lk.out {p:Prop} (h:Lk p):p:=h
attribute [irreducible] Lk
structure MOp where
 ins:y7
 dst:Option Nat
 guard:Option (Nat×Bool)
def d9z (nt:Nat):Option Nat→Option Nat→Bool
 | none,none=>true
 | some d,some d'=>Nat.beq d d'&&Nat.blt d nt
 | _,_=>false
def c9p:Bool→Bool→Bool
 | true,true=>true
 | false,false=>true
 | _,_=>false
theorem e0k {a b:Bool} (h:c9p a b=true):a=b:=by cases a<;>cases b<;>simp_all [c9p]
def a7e (ops:Array Oper):Option (Nat×Bool)→Option (Nat×Bool)→Bool
 | none,none=>true
 | some (s,b),some (j,b')=>c9p b b'&&(match ops[j]? with|some o=>(match o.dst with|some d=>Nat.beq s d|none=>false)|none=>false)
 | _,_=>false
def MOp.ok (P:Program) (nt:Nat) (ops:Array Oper) (m:MOp) (o:Oper):Bool:=m.ins.ok P o.op&&d9z nt m.dst o.dst&&a7e ops m.guard o.guard
def a15 (P:Program) (nt:Nat) (ops:Array Oper):List MOp→List Oper→Bool
 | [],[]=>true
 | m::r,o::s=>m.ok P nt ops o&&a15 P nt ops r s
 | _,_=>false
def a0x (H0:Heap) (σ:St):List Nat→Bool
 | []=>true
 | n::r=>(match find n H0 with|none=>true|some _=>false)&&a7v n σ.env&&a0w n σ.heap&&a0x H0 σ r
theorem a19 {c:Ctx} {σ:St}:∀{l:List Nat},a0x c.H0 σ l=true→∀n∈l,Clean c σ n
 | [],_,n,h=>by cases h
 | m::r,h,n,hm=>by
  simp only [a0x,xY] at h
  obtain ⟨⟨⟨h1,h2⟩,h3⟩,h4⟩:=h
  rcases wO.1 hm with rfl|hm
  ·refine ⟨?_,h2,h3⟩
   cases hf:find n c.H0 with
   | none=>rfl
   | some _=>rw [hf] at h1;cases h1
  ·exact a19 h4 n hm
def a7h (d:Option Nat) (env:List (Nat×V)):List (Nat×V) :=
 match d with
 | some d=>put d (.tup []) env
 | none=>env
def MOp.d (m:MOp):Nat:=m.dst.getD 0
def a4p (b want:Bool) (A B:Prop):Prop:=(b=want→A)∧(b=(!want)→B)
theorem b07 {A B:Prop}:a4p true true A B=A:=by simp [a4p]
theorem b7o {A B:Prop}:a4p true false A B=B:=by simp [a4p]
theorem b08 {A B:Prop}:a4p false true A B=B:=by simp [a4p]
theorem b7p {A B:Prop}:a4p false false A B=A:=by simp [a4p]
def b8h (P:Program) (H0:Heap) (m:MOp) (σ:St) (K:Eff→Prop):Prop :=
 bif a0x H0 σ (m.ins.creates m.d) then o6 P m.ins m.d (m.ins.opds.map (·.ev σ.env)) (fun id=>find id σ.heap) K (fun e=>Lk (K e)) else False
def b6d (P:Program) (H0:Heap) (m:MOp) (σ:St) (K:St→Prop):Prop :=
 match m.guard with
 | none=>b8h P H0 m σ fun e=>K (σ.app m.dst e)
 | some (s,want) =>
  match get s σ.env with
  | .bool b=>a4p b want (b8h P H0 m ⟨put s (.bool want) σ.env,σ.heap⟩ fun e=>K (St.app ⟨put s (.bool want) σ.env,σ.heap⟩ m.dst e)) (K ⟨a7h m.dst (put s (.bool (!want)) σ.env),σ.heap⟩)
  | .tup []=>K ⟨a7h m.dst σ.env,σ.heap⟩
  | _=>False
def runN (P:Program) (H0:Heap):List MOp→St→(St→Prop)→Prop
 | [],σ,K=>K σ
 | m::r,σ,K=>b6d P H0 m σ fun σ'=>runN P H0 r σ' K
theorem a5y {α:Type} {n:Nat} {x:α}:∀{l:List (Nat×α)},find n l=some x→put n x l=l
 | (m,y)::r,h=>by
  cases hb:Nat.beq n m with
  | true=>simp only [find,hb,vE,xI] at h;simp [put,hb,h]
  | false=>simp only [find,hb,vC] at h;simp [put,hb,a5y h]
theorem b09 {s:Nat} {env:List (Nat×V)} {b:Bool} (h:get s env=.bool b):find s env=some (.bool b):=by
 rw [a1d] at h
 cases hf:find s env with
 | none=>rw [hf] at h;cases h
 | some x=>rw [hf] at h;simp at h;rw [h]
section
variable {P:Program} {c:Ctx} {g:Gh} {σ:St} {a:Act} {w:World}
theorem Rel.undef' (h:Rel P c g σ a w) {d:Option Nat} (hd:∀n,d=some n→n<c.nt):Rel P c g ⟨a7h d σ.env,σ.heap⟩ (a.put d undef) w:=by
 have:=h.put hd (.tup #[] [] rfl fun i c hc=>by simp at hc:VR g w undef (.tup []))
 cases d<;>exact this
theorem d9s {s:Nat} {env:List (Nat×V)} (h:get s env=.tup []):find s env=some (.tup []):=by
 rw [a1d] at h
 cases hf:find s env with
 | none=>rw [hf] at h;cases h
 | some x=>rw [hf] at h;simp at h;rw [h]
theorem b0i {nt:Nat} {d d':Option Nat} (h:d9z nt d d'=true):d=d'∧∀n,d=some n→n<nt:=by
 cases d<;>cases d'<;>simp [d9z] at h
 ·exact ⟨rfl,fun n h=>by cases h⟩
 ·refine ⟨by rw [h.1],fun n hn=>by cases hn;exact h.2⟩
theorem a7z {ops:Array Oper} {o:Oper} {s:Nat} {want b:Bool} (hg:a7e ops (some (s,want)) o.guard=true) (hR:Rel P c g σ a w) (hb:get s σ.env=.bool b) :
  Region.wanted o (yielded ops a.tmps)=c9p b want:=by
 cases hgo:o.guard with
 | none=>rw [hgo] at hg;simp [a7e] at hg
 | some p =>
  obtain ⟨j,b'⟩:=p
  rw [hgo] at hg
  simp only [a7e,xY] at hg
  obtain ⟨h1,h2⟩:=hg
  have e1:=e0k h1;subst e1
  have:∃oj,ops[j]?=some oj∧oj.dst=some s:=by
   cases hj:ops[j]? with
   | none=>rw [hj] at h2;cases h2
   | some oj =>
    rw [hj] at h2
    cases hd:oj.dst with
    | none=>simp [hd] at h2
    | some d=>simp [hd] at h2;subst h2;exact ⟨oj,rfl,hd⟩
  obtain ⟨oj,hj,hd⟩:=this
  obtain ⟨hlt,hv⟩:=hR.env s _ (b09 hb)
  have hbv:=hv.bool_inv
  have hlt':s<a.tmps.size:=by rw [hR.size];exact hlt
  have hy:a.tmps[s]?=some (.bool b):=by
   rw [←hbv];simp [zC,hlt']
  simp only [Region.wanted,hgo,yielded,hj,xQ,hd,hy]
  cases b<;>cases want<;>rfl
theorem b55 {ops:Array Oper} {o:Oper} {s:Nat} {want:Bool} (hg:a7e ops (some (s,want)) o.guard=true) (hR:Rel P c g σ a w) (hb:get s σ.env=.tup []):Region.wanted o (yielded ops a.tmps)=false:=by
 cases hgo:o.guard with
 | none=>rw [hgo] at hg;simp [a7e] at hg
 | some p =>
  obtain ⟨j,b'⟩:=p
  rw [hgo] at hg
  simp only [a7e,xY] at hg
  obtain ⟨h1,h2⟩:=hg
  have:∃oj,ops[j]?=some oj∧oj.dst=some s:=by
   cases hj:ops[j]? with
   | none=>rw [hj] at h2;cases h2
   | some oj =>
    rw [hj] at h2
    cases hd:oj.dst with
    | none=>simp [hd] at h2
    | some d=>simp [hd] at h2;subst h2;exact ⟨oj,rfl,hd⟩
  obtain ⟨oj,hj,hd⟩:=this
  obtain ⟨hlt,hv⟩:=hR.env s _ (d9s hb)
  obtain ⟨vs,hv1,hv2,_⟩:=hv.tup_inv
  have hlt':s<a.tmps.size:=by rw [hR.size];exact hlt
  have hy:a.tmps[s]?=some (.tuple vs):=by
   rw [←hv1];simp [zC,hlt']
  simp only [Region.wanted,hgo,yielded,hj,xQ,hd,hy]
  rfl
theorem b1v {ops:Array Oper} {o:Oper} (hg:a7e ops none o.guard=true) (y:Nat→Option Bool):Region.wanted o y=true:=by
 cases hgo:o.guard with
 | none=>simp [Region.wanted,hgo]
 | some p=>rw [hgo] at hg;simp [a7e] at hg
theorem a5w {ops:Array Oper} {o:Oper} {m:MOp} {Q:Exit→Act→World→Prop} {K:Eff→Prop} {K':Act→World→Prop} (hok:m.ok P c.nt ops o=true) (hR:Rel P c g σ a w)
  (h:b8h P c.H0 m σ K) (hK:∀eff,K eff→∀(g':Gh) (a':Act) (w':World),Rel P c g' (σ.app m.dst eff) a' w'→K' a' w'):o.wp P a w K' Q:=by
 simp only [MOp.ok,xY] at hok
 obtain ⟨⟨h1,h2⟩,h3⟩:=hok
 obtain ⟨hd,hlt⟩:=b0i h2
 unfold b8h at h
 cases hc:a0x c.H0 σ (m.ins.creates m.d) with
 | false=>rw [hc] at h;exact h.elim
 | true =>
  rw [hc] at h
  simp only [vE] at h
  refine b8v m.ins (d:=m.d) h1 hR (fun id o h=>h) (a19 hc) h fun eff he g' v w' hs hf hv=>?_
  have he':K eff:=he.elim id Lk.out
  refine hK eff he' g' _ w' ?_
  rw [←hd]
  exact hR.step hlt hs hf hv
theorem b6e {ops:Array Oper} {Q:Exit→Act→World→Prop} {K:St→Prop} (hK:∀σ' g' a' w',K σ'→Rel P c g' σ' a' w'→Q .normal a' w') :
  ∀(ms:List MOp) (i:Nat) (g:Gh) (σ:St) (a:Act) (w:World),a15 P c.nt ops ms (ops.toList.drop i)=true→Rel P c g σ a w→runN P c.H0 ms σ K→wpOps P ops Q (List.range' i ms.length) a w
 | [],i,g,σ,a,w,_,hR,h=>hK σ g a w h hR
 | m :: r,i,g,σ,a,w,hok,hR,h=>by
  rw [xU,List.range'_succ,wpOps_cons]
  cases hd:ops.toList.drop i with
  | nil=>rw [hd] at hok;simp [a15] at hok
  | cons o s =>
   rw [hd] at hok
   simp only [a15,xY] at hok
   obtain ⟨hm,hr⟩:=hok
   have hi:ops[i]?=some o:=by
    have:(ops.toList.drop i)[0]?=some o:=by rw [hd];rfl
    rw [xD,wY,zU] at this
    exact this
   have hs:ops.toList.drop (i+1)=s:=by
    have:=congrArg List.tail hd
    simpa using this
   rw [←hs] at hr
   have ih:=fun g σ a w=>b6e hK r (i+1) g σ a w hr
   have hm':=hm
   simp only [MOp.ok,xY] at hm'
   obtain ⟨⟨_,h2⟩,h3⟩:=hm'
   obtain ⟨hdd,hlt⟩:=b0i h2
   simp only [wpOp,hi]
   simp only [runN,b6d] at h
   cases hg:m.guard with
   | none =>
    rw [hg] at h h3
    simp only [b1v h3,if_true]
    exact .inl (a5w hm hR h fun eff he g' a' w' hR'=>ih g' _ a' w' hR' he)
   | some p =>
    obtain ⟨t,want⟩:=p
    rw [hg] at h h3
    simp only at h
    split at h
    case h_3=>exact h.elim
    case h_2 hb =>
     rw [b55 h3 hR hb]
     simp only [xF,if_false]
     exact ih g _ _ w (by rw [←hdd];exact hR.undef' hlt) h
    rename_i b hb
    obtain ⟨hx,hy⟩:=h
    rw [a7z h3 hR hb]
    have hf:=b09 hb
    by_cases hbw:b=want
    ·subst hbw
     have hw:c9p b b=true:=by cases b<;>rfl
     simp only [hw,if_true]
     have hx:=hx rfl
     rw [a5y hf] at hx
     exact .inl (a5w hm hR hx fun eff he g' a' w' hR'=>ih g' _ a' w' hR' he)
    ·have hbn:b=(!want):=by cases b<;>cases want<;>first|rfl|exact absurd rfl hbw
     have hw:c9p b want=false:=by rw [hbn];cases want<;>rfl
     simp only [hw,xF,if_false]
     have hy:=hy hbn
     rw [←hbn,a5y hf] at hy
     exact ih g _ _ w (by rw [←hdd];exact hR.undef' hlt) hy
theorem c42 {ops:Array Oper} {ms:List MOp} {Q:Exit→Act→World→Prop} {K:St→Prop} (hK:∀σ' g' a' w',K σ'→Rel P c g' σ' a' w'→Q .normal a' w')
  (hok:a15 P c.nt ops ms ops.toList=true) (hR:Rel P c g σ a w) (h:runN P c.H0 ms σ K):wpOps P ops Q (List.range ops.size) a w:=by
 have hl:∀{ms:List MOp} {l:List Oper},a15 P c.nt ops ms l=true→ms.length=l.length:=by
  intro ms
  induction ms with
  | nil =>
   intro l h
   cases l with
   | nil=>rfl
   | cons o s=>cases h
  | cons m r ih =>
   intro l h
   cases l with
   | nil=>cases h
   | cons o s =>
    simp only [a15,xY] at h
    simp only [xU,ih h.2]
 have:=b6e hK ms 0 g σ a w (by rw [wL];exact hok) hR h
 rw [hl hok,z6] at this
 rwa [List.range_eq_range']
end
def c48 (h:Heap) (id:Nat):Option a03:=find id h
theorem mem_iff {n:Nat}:∀{l:List Nat},mem n l=true↔n∈l
 | []=>by simp [mem]
 | m::r=>by
  simp only [mem,wI,wO]
  rw [mem_iff]
  exact or_congr ⟨zR,fun h=>by rw [h];exact wW m⟩ vF
theorem l9.mono {P:Program} {f:Nat} {args:List V} {H:Heap} {Q Q':V→Heap→Prop} (h:l9 P f args H Q) (hq:∀r H',Q r H'→Q' r H'):l9 P f args H Q' :=
 ⟨h.1,fun g w vals h1 h2 h3=>(h.2 g w vals h1 h2 h3).mono fun _ _ ⟨v,r,H',g',k1,k2,k3⟩=>⟨v,r,H',g',k1,hq _ _ k2,k3⟩⟩
theorem Rel.sub {P:Program} {c:Ctx} {g:Gh} {σ:St} {a:Act} {w:World} {τ:St} (h:Rel P c g σ a w) (he:∀s x,find s τ.env=some x→find s σ.env=some x) (hh:∀s o,find s τ.heap=some o→find s σ.heap=some o):Rel P c g τ a w :=
 ⟨h.size,h.dfr,fun s x hx=>h.env s x (he s x hx),h.hp.sub hh,⟨h.fr.os,h.fr.tape,h.fr.output,h.fr.size,h.fr.old,fun id o ho=>h.fr.own id o (hh id o ho),h.fr.sup,h.fr.sub,h.fr.par,fun id o b ho=>h.fr.own2 id o b (hh id o ho),h.fr.sb⟩⟩
section
variable {K L:V→Prop} {x y z:V}
theorem d0d (h:c08 x y z K):∃v,K v∧c08 x y z (fun u=>u=v):=by
  unfold c08 at *
  split at h
  · split at h
    · exact ⟨_,h,rfl⟩
    · rename_i t _ _ _
      cases t
      · exact ⟨_,h,rfl⟩
      · exact ⟨_,h,rfl⟩
  · exact h.elim
theorem b4m {n:Option Nat} {off:Nat} {cs:List V} (h:part n off cs K):∃v,K v∧part n off cs (fun u=>u=v):=by
  unfold part at *
  cases n with
  | none =>
    simp only at h ⊢
    split at h
    · exact ⟨_,h,rfl⟩
    · exact h.elim
  | some n =>
    simp only at h ⊢
    cases hb:Nat.ble (off+n) cs.length with
    | true=>rw [hb] at h;exact ⟨_,h,rfl⟩
    | false=>rw [hb] at h;exact h.elim
theorem d3z {n:Option Nat} {ob:Nat→Option a03} (h:sLd n x ob K L):∃v,(K v∨L v)∧sLd n x ob (fun u=>u=v) (fun u=>u=v):=by
  cases x<;>try (exact h.elim)
  case ptr id off =>
    cases ho:ob id with
    | none=>simp only [sLd,ho] at h
    | some o =>
      cases o<;>simp only [sLd,ho] at h ⊢
      obtain ⟨v,h1,h2⟩:=b4m h;exact ⟨v,.inl h1,h2⟩
  case eptr y off=>obtain ⟨v,h1,h2⟩:=b4m h;exact ⟨v,.inl h1,h2⟩
  case optr id k i off =>
    cases ho:ob id with
    | none=>simp only [sLd,ho] at h
    | some o =>
      cases o<;>simp only [sLd,ho] at h ⊢
      rename_i k' xs t0
      cases hk:Nat.beq k k' with
      | false=>rw [hk] at h;exact h.elim
      | true =>
        rw [hk] at h
        simp only [vE] at h ⊢
        obtain ⟨q,h1,h2⟩:=h
        obtain ⟨v,h3,h4⟩:=b4m h2
        exact ⟨v,.inr h3,q,h1,h4⟩
theorem e4f {n:Nat} {ob:Nat→Option a03} {K L:Nat→a03→Prop} (h:sSt n x y ob K L):∃id o,(K id o∨L id o)∧sSt n x y ob (fun i p=>i=id∧p=o) (fun i p=>i=id∧p=o):=by
  unfold sSt at *
  cases hc:(Nat.beq y.cells.length n&&y.cells.all V.one) with
  | false=>rw [hc] at h;exact h.elim
  | true =>
    rw [hc] at h
    simp only [vE] at h ⊢
    cases x<;>try (exact h.elim)
    case ptr id off =>
      cases ho:ob id with
      | none=>simp only [ho] at h
      | some o =>
        cases o<;>simp only [ho] at h ⊢
        rename_i cs ty
        cases hb:Nat.ble (off+n) cs.length with
        | false=>rw [hb] at h;exact h.elim
        | true=>rw [hb] at h;exact ⟨_,_,.inl h,rfl,rfl⟩
    case optr id k i off =>
      cases ho:ob id with
      | none=>simp only [ho] at h
      | some o =>
        cases o<;>simp only [ho] at h ⊢
        rename_i k' xs t0
        cases hk:(Nat.beq k k'&&y.sealed) with
        | false=>rw [hk] at h;exact h.elim
        | true =>
          rw [hk] at h
          simp only [vE] at h ⊢
          cases hz:(Nat.beq off 0&&Nat.beq n k) with
          | true=>rw [hz] at h;simp only [vE] at h ⊢;exact ⟨_,_,.inl h.2,h.1,rfl,rfl⟩
          | false =>
            rw [hz] at h;simp only [vC] at h ⊢
            obtain ⟨cs,h1,h2,h3⟩:=h
            exact ⟨_,_,.inr h3,cs,h1,h2,rfl,rfl⟩
theorem d5g (h:e1s x K):∃v,K v∧e1s x (fun u=>u=v):=by
  cases x<;>first|exact h.elim|exact ⟨_,h,rfl⟩
theorem d0f {m:Nat} {k:IntKind} (h:c0c m k x K):∃v,K v∧c0c m k x (fun u=>u=v):=by
  cases x<;>try (exact h.elim)
  rename_i k' a
  simp only [c0c] at h ⊢
  cases hk:kEq k k' with
  | false=>rw [hk] at h;exact h.elim
  | true=>rw [hk] at h;exact ⟨_,h,rfl⟩
theorem d5y {ng:Bool} (h:e1y ng x y K):∃v,K v∧e1y ng x y (fun u=>u=v):=by
  cases x<;>try (exact h.elim)
  cases y<;>try (exact h.elim)
  exact ⟨_,h,rfl⟩
theorem d5t {ng:Bool} {ks:List Nat} (h:d5u ng ks x y K):∃v,K v∧d5u ng ks x y (fun u=>u=v):=by
  cases x<;>try (exact h.elim)
  cases y<;>try (exact h.elim)
  rename_i cs ds
  simp only [d5u] at h ⊢
  cases he:a0o ks cs ds with
  | none=>rw [he] at h;exact h.elim
  | some t=>rw [he] at h;exact ⟨_,h,rfl⟩
theorem d5e (h:e1q x K):∃v,K v∧e1q x (fun u=>u=v):=by
  cases x<;>first|exact h.elim|exact ⟨_,h,rfl⟩
theorem d5f {ch:Bool} (h:e1r ch x K):∃v,K v∧e1r ch x (fun u=>u=v):=by
  cases x<;>try (exact h.elim)
  cases ch
  · exact ⟨_,h,rfl⟩
  · exact ⟨_,h.2,h.1,rfl⟩
theorem d5o {ch:Bool} {k:IntKind} (h:e1v ch k x K):∃v,K v∧e1v ch k x (fun u=>u=v):=by
  cases x<;>try (exact h.elim)
  cases ch
  · exact ⟨_,h,rfl⟩
  · exact ⟨_,h.2,h.1,rfl⟩
theorem d5m (h:e1u x K):∃v,K v∧e1u x (fun u=>u=v):=by
  cases x<;>first|exact h.elim|exact ⟨_,h,rfl⟩
theorem d5q {off:Nat} (h:e1x off x K):∃v,K v∧e1x off x (fun u=>u=v):=by
  cases x<;>first|exact h.elim|exact ⟨_,h,rfl⟩
theorem d5p {n:Option Nat} {off:Nat} (h:e1w n off x K):∃v,K v∧e1w n off x (fun u=>u=v):=by
  cases x<;>try (exact h.elim)
  exact b4m h
theorem d5l (h:e1t x y K):∃v,K v∧e1t x y (fun u=>u=v):=by
  cases x<;>try (exact h.elim)
  cases y<;>try (exact h.elim)
  exact ⟨_,h.2,h.1,rfl⟩
theorem d61 {n:Option Nat} {k cnt:Nat} (h:e1z n k cnt x y K):∃v,K v∧e1z n k cnt x y (fun u=>u=v):=by
  cases x<;>try (exact h.elim)
  cases y<;>try (exact h.elim)
  obtain ⟨h1,h2⟩:=h
  obtain ⟨v,h3,h4⟩:=b4m h2
  exact ⟨v,h3,h1,h4⟩
theorem d62 {k cnt:Nat} (h:e2a k cnt x y K):∃v,K v∧e2a k cnt x y (fun u=>u=v):=by
  cases x<;>try (exact h.elim)
  all_goals
    cases y<;>try (exact h.elim)
    exact ⟨_,h.2,h.1,rfl⟩
theorem d0g (h:c3q x K):∃v,K v∧c3q x (fun u=>u=v):=by
  cases x<;>try (exact h.elim)
  exact ⟨_,h,rfl⟩
theorem d5r {i:Nat} (h:d5s i x K):∃v,K v∧d5s i x (fun u=>u=v):=by
  cases x<;>try (exact h.elim)
  rename_i cs
  simp only [d5s] at h ⊢
  cases hd:cs.drop i with
  | nil=>rw [hd] at h;exact h.elim
  | cons c r=>rw [hd] at h;exact ⟨_,h,rfl⟩
theorem d5k {s:Bool} (h:sLen s x K):∃v,K v∧sLen s x (fun u=>u=v):=by
  cases x<;>cases s<;>first|exact h.elim|exact ⟨_,h,rfl⟩
theorem e4g {mx:Bool} (h:sMm mx x y K):∃v,K v∧sMm mx x y (fun u=>u=v):=by
  cases x<;>try (exact h.elim)
  cases y<;>try (exact h.elim)
  rename_i k a k' b
  simp only [sMm] at h ⊢
  cases hk:kEq k k' with
  | false=>rw [hk] at h;exact h.elim
  | true=>rw [hk] at h;exact ⟨_,h,rfl⟩
theorem d5n {k:Nat} (h:c9k k x y K L):∃v,(K v∨L v)∧c9k k x y (fun u=>u=v) (fun u=>u=v):=by
  cases y<;>try (exact h.elim)
  cases x<;>try (exact h.elim)
  case int.sl =>
    obtain ⟨h1,q,h2,h3,h4⟩:=h
    exact ⟨_,.inr h4,h1,q,h2,h3,rfl⟩
  case int.osl k' n id k2 lo m =>
    simp only [c9k] at h ⊢
    cases hk:Nat.beq k k2 with
    | false=>rw [hk] at h;exact h.elim
    | true=>rw [hk] at h;exact ⟨_,.inl h.2,h.1,rfl⟩
theorem d5z {ob:Nat→Option a03} (h:c65 x ob K L):∃v,(K v∨L v)∧c65 x ob (fun u=>u=v) (fun u=>u=v):=by
  cases x<;>try (exact h.elim)
  case nils=>exact ⟨_,.inl h,rfl⟩
  case sl xs=>obtain ⟨s,h1,h2⟩:=h;exact ⟨_,.inr h2,s,h1,rfl⟩
  case osl id k lo n =>
    cases ho:ob id with
    | none=>simp only [c65,ho] at h
    | some o =>
      cases o<;>simp only [c65,ho] at h ⊢
      rename_i k' xs t0
      cases hk:(Nat.beq k k'&&Nat.beq k 1) with
      | false=>rw [hk] at h;exact h.elim
      | true =>
        rw [hk] at h
        simp only [vE] at h ⊢
        obtain ⟨s,h1,h2,h3⟩:=h
        exact ⟨_,.inr h3,s,h1,h2,rfl⟩
theorem d59 {lo hi:Bool} {r:List V} (h:d5a lo hi x r K):∃v,K v∧d5a lo hi x r (fun u=>u=v):=by
  cases x<;>try (exact h.elim)
  rename_i s
  simp only [d5a] at h ⊢
  cases hb:bounds lo hi s.length r with
  | none=>rw [hb] at h;exact h.elim
  | some p=>rw [hb] at h;exact ⟨_,h.2,h.1,rfl⟩
theorem d5b {k:Nat} {lo hi:Bool} {r:List V} (h:d3y k lo hi x r K):∃v,K v∧d3y k lo hi x r (fun u=>u=v):=by
  cases x<;>try (exact h.elim)
  case sl xs =>
    simp only [d3y] at h ⊢
    cases hb:bounds lo hi xs.length r with
    | none=>rw [hb] at h;exact h.elim
    | some p=>rw [hb] at h;exact ⟨_,h.2.2,h.1,h.2.1,rfl⟩
  case osl id k' l n =>
    simp only [d3y] at h ⊢
    cases hb:bounds lo hi n r with
    | none=>rw [hb] at h;exact h.elim
    | some p =>
      rw [hb] at h
      simp only at h ⊢
      cases hk:Nat.beq k k' with
      | false=>rw [hk] at h;exact h.elim
      | true=>rw [hk] at h;exact ⟨_,h.2,h.1,rfl⟩
theorem d5x {ch:Bool} {op:BinOp} (h:d40 ch op x y K):∃v,K v∧d40 ch op x y (fun u=>u=v):=by
  cases x<;>try (exact h.elim)
  case int k a =>
    cases y<;>try (exact h.elim)
    rename_i k' b
    simp only [d40] at h ⊢
    cases op <;> simp only at h ⊢<;>first
      | exact ⟨_,h.2,h.1,rfl⟩
      | (cases hk:kEq k k'<;>rw [hk] at h<;>first
          | exact h.elim
          | (simp only [vE] at h ⊢
             first
              | exact ⟨_,h,rfl⟩
              | (cases ch
                 · first|exact ⟨_,h,rfl⟩|exact ⟨_,h.2,h.1,rfl⟩
                 · first|exact ⟨_,h,rfl⟩|exact ⟨_,h.2,h.1,rfl⟩)))
  case str a =>
    cases y<;>try (exact h.elim)
    simp only [d40] at h ⊢
    cases op<;>simp only at h ⊢<;>first|exact ⟨_,h,rfl⟩|exact ⟨_,h.2,h.1,rfl⟩|exact h.elim
end
section
variable {K:Eff→Prop} {x y:V} {d:Nat}
theorem d5c (h:d5d d x K):∃v,K v∧d5d d x (fun u=>u=v):=by
  cases x<;>first|exact h.elim|exact ⟨_,h,rfl⟩
theorem d5h {ob:Nat→Option a03} (h:c9j x ob K):∃v,K v∧c9j x ob (fun u=>u=v):=by
  unfold c9j at *
  cases x<;>try (exact h.elim)
  rename_i id k lo n
  cases ho:ob id with
  | none=>simp only [ho] at h
  | some o =>
    cases o<;>simp only [ho] at h ⊢
    rename_i k' xs t
    cases hc:(Nat.beq k k'&&Nat.beq k 1&&Nat.blt 0 n) with
    | false=>rw [hc] at h;exact h.elim
    | true=>rw [hc] at h;exact ⟨_,h,rfl⟩
theorem d5v (h:d5w d x K):∃v,K v∧d5w d x (fun u=>u=v):=by
  cases x<;>first|exact h.elim|exact ⟨_,h,rfl⟩
theorem d0e {k bytes:Nat} {z:V} (h:c09 k bytes d z x y K):∃v,K v∧c09 k bytes d z x y (fun u=>u=v):=by
  unfold c09 at *
  split at h
  · exact ⟨_,h.2,h.1,rfl⟩
  · exact h.elim
theorem d60 {k bytes:Nat} {ty:Option TypeId} {ob:Nat→Option a03} (h:c1u k bytes d ty x y ob K):∃v,K v∧c1u k bytes d ty x y ob (fun u=>u=v):=by
  unfold c1u at *
  cases ha:a5c k y ob with
  | none=>rw [ha] at h;exact h.elim
  | some ys =>
    rw [ha] at h
    simp only at h ⊢
    obtain ⟨h0,h⟩:=h
    cases x<;>try (exact h.elim)
    case nils=>exact ⟨_,h.2,h0,h.1,rfl⟩
    case osl id k' lo n =>
      cases ho:ob id with
      | none=>simp only [ho] at h
      | some o =>
        cases o<;>simp only [ho] at h ⊢
        rename_i k'' xs t0
        cases hk:(Nat.beq k k'&&Nat.beq k k'') with
        | false=>rw [hk] at h;exact h.elim
        | true=>rw [hk] at h;exact ⟨_,h.2,h0,h.1,rfl⟩
theorem c2b {x:V} {ob:Nat→Option a03} {K:KD→List (V×V)→Prop} (h:b1s x ob K):∃kd es,K kd es∧∀K':KD→List (V×V)→Prop,K' kd es→b1s x ob K':=by
  unfold b1s at h
  split at h
  · exact ⟨_,_,h,fun K' h=>h⟩
  · split at h
    · rename_i ho
      refine ⟨_,_,h,fun K' h'=>?_⟩
      simp only [b1s,ho];exact h'
    · rename_i ho
      refine ⟨_,_,h,fun K' h'=>?_⟩
      simp only [b1s,ho];exact h'
    · exact h.elim
  · exact h.elim
theorem d5j {op:b9t} {d:Nat} {vs:List V} {ob:Nat→Option a03} {K L:Eff→Prop} (hn:op≠.nxt) (hn2:∀b,op≠.isn b) (h:a0v op d vs ob K L):∃e,K e∧a0v op d vs ob (fun u=>u=e) (fun u=>u=e):=by
  unfold a0v at h
  split at h
  · exact ⟨_,h,rfl⟩
  · rename_i kd ok z x k
    split at h
    · cases hk:kd.is k with
      | false=>rw [hk] at h;exact h.elim
      | true=>rw [hk] at h;exact ⟨_,h,by simp only [a0v,hk,vE]⟩
    · rename_i m p kd' es
      cases hk:kd.is k&&kd'.is k&&z.isNilS with
      | false=>rw [hk] at h;exact h.elim
      | true=>rw [hk] at h;exact ⟨_,h,by simp only [a0v,hk,vE]⟩
    · rename_i x hx
      obtain ⟨kd',es,h1,h2⟩:=c2b h
      cases hk:kd.is k&&kd'.is k with
      | false=>rw [hk] at h1;exact h1.elim
      | true =>
        rw [hk] at h1
        refine ⟨_,h1,?_⟩
        simp only [a0v]
        exact h2 _ (by simp only [hk,vE])
  · rename_i kd id k v
    split at h
    · rename_i kd' es ho
      cases hk:kd.is k&&kd'.is k&&v.sealed with
      | false=>rw [hk] at h;exact h.elim
      | true=>rw [hk] at h;exact ⟨_,h,by simp only [a0v,ho,hk,vE]⟩
    · exact h.elim
  · rename_i kd id k
    split at h
    · rename_i kd' es ho
      cases hk:kd.is k&&kd'.is k with
      | false=>rw [hk] at h;exact h.elim
      | true=>rw [hk] at h;exact ⟨_,h,by simp only [a0v,ho,hk,vE]⟩
    · exact h.elim
  · rename_i x
    split at h
    · exact ⟨_,h,rfl⟩
    · rename_i x hx
      obtain ⟨kd',es,h1,h2⟩:=c2b h
      refine ⟨_,h1.2,?_⟩
      simp only [a0v]
      exact h2 _ ⟨h1.1,rfl⟩
  · split at h
    · exact ⟨_,h,rfl⟩
    · exact ⟨_,h,rfl⟩
    · exact h.elim
  · exact absurd rfl hn
  · split at h
    · rename_i ho;exact ⟨_,h,by simp only [a0v,ho]⟩
    · exact h.elim
  · exact absurd rfl (hn2 _)
  · split at h
    · rename_i ho;exact ⟨_,h,by simp only [a0v,ho]⟩
    · exact h.elim
  · rename_i kd id k j q n
    split at h
    · rename_i kd' es q' xs ty ho ho2
      cases hk:kd.is k&&kd'.is k&&(Nat.beq q q'&&Nat.beq n xs.length&&!Nat.beq id j) with
      | false=>rw [hk] at h;exact h.elim
      | true=>rw [hk] at h;exact ⟨_,h,by simp only [a0v,ho,ho2,hk,vE]⟩
    · rename_i z p kd' es q' xs ty ho ho2
      cases hk:kd.is k&&kd'.is k&&(Nat.beq q q'&&Nat.beq n xs.length&&!Nat.beq id j)&&Nat.beq q p with
      | false=>rw [hk] at h;exact h.elim
      | true=>rw [hk] at h;exact ⟨_,h,by simp only [a0v,ho,ho2,hk,vE]⟩
    · exact h.elim
  · rename_i id k i j q n
    split at h
    · rename_i k' xs t q' ys ty ho ho2
      cases hk:Nat.beq k 1&&Nat.beq k' 1&&(Nat.beq q q'&&Nat.beq n ys.length&&!Nat.beq id j) with
      | false=>rw [hk] at h;exact h.elim
      | true=>rw [hk] at h;exact ⟨_,h.2,by simp only [a0v,ho,ho2,hk,vE];exact ⟨h.1,trivial⟩⟩
    · exact h.elim
  · split at h
    · rename_i p hp;exact ⟨_,h,by simp only [a0v,hp]⟩
    · exact h.elim
  · exact ⟨_,h,rfl⟩
  · exact ⟨_,h.2,by simp only [a0v];exact ⟨h.1,trivial⟩⟩
  · rename_i q id k n ys
    split at h
    · rename_i k' xs t ho
      cases hk:Nat.beq k q&&Nat.beq k k'&&Nat.beq n xs.length with
      | false=>rw [hk] at h;exact h.elim
      | true=>rw [hk] at h;exact ⟨_,h.2,by simp only [a0v,ho,hk,vE];exact ⟨h.1,trivial⟩⟩
    · exact h.elim
  · exact ⟨_,h,by simp only [a0v]⟩
  · unfold e2h at h
    split at h
    · exact ⟨_,h,rfl⟩
    · exact ⟨_,h,rfl⟩
    · exact h.elim
  · rename_i k a k' b k'' e
    cases hk:kEq k k'&&kEq k k'' with
    | false=>rw [hk] at h;exact h.elim
    | true=>rw [hk] at h;exact ⟨_,h,by simp only [a0v,hk,vE]⟩
  · rename_i k bytes id k' lo n y
    split at h
    · rename_i ys hs
      obtain ⟨h0,h⟩:=h
      split at h
      · rename_i k'' xs t ho
        cases hk:Nat.beq k k'&&Nat.beq k k''&&!y.has id with
        | false=>rw [hk] at h;exact h.elim
        | true=>rw [hk] at h;exact ⟨_,h.2,by simp only [a0v,hs,ho,hk,vE];exact ⟨h0,h.1,trivial⟩⟩
      · exact h.elim
    · exact h.elim
  · rename_i z q i
    split at h
    · rename_i k xss ho
      cases hk:Nat.beq q 1&&!Nat.beq z d with
      | false=>rw [hk] at h;exact h.elim
      | true=>rw [hk] at h;exact ⟨_,h.2,by simp only [a0v,ho,hk,vE];exact ⟨h.1,trivial⟩⟩
    · exact h.elim
  · rename_i z q i e k n
    split at h
    · rename_i k' xss k'' ys t ho ho2
      cases hk:Nat.beq q 1&&Nat.beq k k'&&(Nat.beq k k''&&Nat.beq n ys.length) with
      | false=>rw [hk] at h;exact h.elim
      | true=>rw [hk] at h;exact ⟨_,h.2,by simp only [a0v,ho,ho2,hk,vE];exact ⟨h.1,trivial⟩⟩
    · exact h.elim
  · rename_i k bytes x y
    split at h
    · rename_i ys hs
      obtain ⟨h0,h⟩:=h
      cases hy:b8u ys with
      | false=>rw [hy] at h;exact h.elim
      | true =>
      rw [hy] at h
      simp only [vE] at h
      split at h
      · exact ⟨_,h.2,by simp only [a0v,hs,hy,vE];exact ⟨h0,h.1,trivial⟩⟩
      · rename_i z q n
        split at h
        · rename_i k' xss ho
          cases hk:Nat.beq q 1&&Nat.beq k k'&&Nat.beq n xss.length with
          | false=>rw [hk] at h;exact h.elim
          | true=>rw [hk] at h;exact ⟨_,h.2,by simp only [a0v,hs,ho,hy,hk,vE];exact ⟨h0,h.1,trivial⟩⟩
        · exact h.elim
      · exact h.elim
    · exact h.elim
  · exact h.elim
end
def b4g (P:Program) (f:V) (args:List V) (ids news:List Nat) (ob:Nat→Option a03) (L:Eff→Prop):Prop :=
 match f with
 | .fn (.func n) cap=>match b8c ids ob with
  | some H=>∃r H',l9 P n (args++cap) H (fun r' H''=>r'=r∧H''=H')∧b1t H' ids news=true∧L ⟨r,ids,H'⟩
  | none=>False
 | .fn (.yield n) fs=>match b8c ids ob with
  | some H=>∃r H',l9 P n (fs++args) H (fun r' H''=>r'=r∧H''=H')∧b1t H' ids news=true∧L ⟨r,ids,H'⟩
  | none=>False
 | _=>False
def a0j (P:Program) (i:y7) (d:Nat) (vs:List V) (ob:Nat→Option a03) (K L:Eff→Prop):Prop :=
 match i,vs with
 | .call _ _ ids news,f::args=>b4g P f args ids news ob L
 | .mp .nxt _,_=>False
 | .mp (.isn _) _,_=>False
 | i,vs=>o6 P i d vs ob K L
theorem a11 (v:V):(fun r=>evl r=evl v)=fun u=>u=v:=by
 funext r;simp [evl]
theorem d9y (id:Nat) (o:a03):(fun i p=>eup i p=eup id o)=fun i p=>i=id∧p=o:=by
 funext i p;simp [eup]
theorem c5x {P:Program} {i:y7} {d:Nat} {vs:List V} {ob:Nat→Option a03} {K L:Eff→Prop} (h:a0j P i d vs ob K L) :
  ∃e,(K e∨L e)∧o6 P i d vs ob (fun u=>u=e) (fun u=>u=e):=by
 cases i with
 | mv x =>
  match vs,h with
  | [y],h=>exact ⟨_,.inl h,rfl⟩
  | [],h=>exact h.elim
  | _::_::_,h=>exact h.elim
 | pick a b c =>
  match vs,h with
  | [x,y,z],h=>obtain ⟨v,h1,h2⟩:=d0d (K:=fun x=>K (evl x)) h;exact ⟨evl v,.inl h1,by simp only [o6,a11];exact h2⟩
  | [],h=>exact h.elim
  | [_],h=>exact h.elim
  | [_,_],h=>exact h.elim
  | _::_::_::_::_,h=>exact h.elim
 | alloc zs=>exact ⟨_,.inl (by simpa only [a0j,o6] using h),by simp only [o6]⟩
 | box a =>
  match vs,h with
  | [x],h=>obtain ⟨v,h1,h2⟩:=d5v h;exact ⟨v,.inl h1,h2⟩
  | [],h=>exact h.elim
  | _::_::_,h=>exact h.elim
 | build zs ps =>
  simp only [a0j,o6] at h ⊢
  cases hf:b0g zs ((ps.zip vs).map fun p=>(p.1.1,p.1.2.1,p.2)) with
  | none=>rw [hf] at h;exact h.elim
  | some cs=>rw [hf] at h;exact ⟨_,.inl h,rfl⟩
 | bslice k xs uv =>
  simp only [a0j,o6] at h ⊢
  cases hf:vs.all (a3f k) with
  | false=>rw [hf] at h;exact h.elim
  | true=>rw [hf] at h;exact ⟨_,.inl h,rfl⟩
 | ld n a =>
  match vs,h with
  | [x],h=>obtain ⟨v,h1,h2⟩:=d3z (K:=fun x=>K (evl x)) (L:=fun x=>L (evl x)) h;exact ⟨evl v,h1,by simp only [o6,a11];exact h2⟩
  | [],h=>exact h.elim
  | _::_::_,h=>exact h.elim
 | st n a b =>
  match vs,h with
  | [x,y],h=>obtain ⟨id,o,h1,h2⟩:=e4f (K:=fun i o=>K (eup i o)) (L:=fun i o=>L (eup i o)) h;exact ⟨eup id o,h1,by simp only [o6,d9y];exact h2⟩
  | [],h=>exact h.elim
  | [_],h=>exact h.elim
  | _::_::_::_,h=>exact h.elim
 | nck a =>
  match vs,h with
  | [x],h=>obtain ⟨v,h1,h2⟩:=d5g (K:=fun x=>K (evl x)) h;exact ⟨evl v,.inl h1,by simp only [o6,a11];exact h2⟩
  | [],h=>exact h.elim
  | _::_::_,h=>exact h.elim
 | bin ch op a b =>
  match vs,h with
  | [x,y],h=>obtain ⟨v,h1,h2⟩:=d5x (K:=fun x=>K (evl x)) h;exact ⟨evl v,.inl h1,by simp only [o6,a11];exact h2⟩
  | [],h=>exact h.elim
  | [_],h=>exact h.elim
  | _::_::_::_,h=>exact h.elim
 | mask m a k =>
  match vs,h with
  | [x],h=>obtain ⟨v,h1,h2⟩:=d0f (K:=fun x=>K (evl x)) h;exact ⟨evl v,.inl h1,by simp only [o6,a11];exact h2⟩
  | [],h=>exact h.elim
  | _::_::_,h=>exact h.elim
 | beq ng a b =>
  match vs,h with
  | [x,y],h=>obtain ⟨v,h1,h2⟩:=d5y (K:=fun x=>K (evl x)) h;exact ⟨evl v,.inl h1,by simp only [o6,a11];exact h2⟩
  | [],h=>exact h.elim
  | [_],h=>exact h.elim
  | _::_::_::_,h=>exact h.elim
 | eqs ng ks a b =>
  match vs,h with
  | [x,y],h=>obtain ⟨v,h1,h2⟩:=d5t (K:=fun x=>K (evl x)) h;exact ⟨evl v,.inl h1,by simp only [o6,a11];exact h2⟩
  | [],h=>exact h.elim
  | [_],h=>exact h.elim
  | _::_::_::_,h=>exact h.elim
 | not a =>
  match vs,h with
  | [x],h=>obtain ⟨v,h1,h2⟩:=d5e (K:=fun x=>K (evl x)) h;exact ⟨evl v,.inl h1,by simp only [o6,a11];exact h2⟩
  | [],h=>exact h.elim
  | _::_::_,h=>exact h.elim
 | neg ch a =>
  match vs,h with
  | [x],h=>obtain ⟨v,h1,h2⟩:=d5f (K:=fun x=>K (evl x)) h;exact ⟨evl v,.inl h1,by simp only [o6,a11];exact h2⟩
  | [],h=>exact h.elim
  | _::_::_,h=>exact h.elim
 | i2i ch k a =>
  match vs,h with
  | [x],h=>obtain ⟨v,h1,h2⟩:=d5o (K:=fun x=>K (evl x)) h;exact ⟨evl v,.inl h1,by simp only [o6,a11];exact h2⟩
  | [],h=>exact h.elim
  | _::_::_,h=>exact h.elim
 | idc a =>
  match vs,h with
  | [x],h=>obtain ⟨v,h1,h2⟩:=d5m (K:=fun x=>K (evl x)) h;exact ⟨evl v,.inl h1,by simp only [o6,a11];exact h2⟩
  | [],h=>exact h.elim
  | _::_::_,h=>exact h.elim
 | s2b a =>
  match vs,h with
  | [x],h=>obtain ⟨v,h1,h2⟩:=d5c h;exact ⟨v,.inl h1,h2⟩
  | [],h=>exact h.elim
  | _::_::_,h=>exact h.elim
 | mks a =>
  match vs,h with
  | [x],h=>obtain ⟨v,h1,h2⟩:=d5h h;exact ⟨v,.inl h1,h2⟩
  | [],h=>exact h.elim
  | _::_::_,h=>exact h.elim
 | b2s a =>
  match vs,h with
  | [x],h=>obtain ⟨v,h1,h2⟩:=d5z (K:=fun x=>K (evl x)) (L:=fun x=>L (evl x)) h;exact ⟨evl v,h1,by simp only [o6,a11];exact h2⟩
  | [],h=>exact h.elim
  | _::_::_,h=>exact h.elim
 | mkfn f cap=>exact ⟨_,.inl (by simpa only [a0j,o6] using h),by simp only [o6]⟩
 | mksl k bytes z a b =>
  match vs,h with
  | [x,y],h=>obtain ⟨v,h1,h2⟩:=d0e h;exact ⟨v,.inl h1,h2⟩
  | [],h=>exact h.elim
  | [_],h=>exact h.elim
  | _::_::_::_,h=>exact h.elim
 | sls a lo hi =>
  match vs,h with
  | x::r,h=>obtain ⟨v,h1,h2⟩:=d59 (K:=fun x=>K (evl x)) h;exact ⟨evl v,.inl h1,by simp only [o6,a11];exact h2⟩
  | [],h=>exact h.elim
 | slc k a lo hi =>
  match vs,h with
  | x::r,h=>obtain ⟨v,h1,h2⟩:=d5b (K:=fun x=>K (evl x)) h;exact ⟨evl v,.inl h1,by simp only [o6,a11];exact h2⟩
  | [],h=>exact h.elim
 | fad off a =>
  match vs,h with
  | [x],h=>obtain ⟨v,h1,h2⟩:=d5q (K:=fun x=>K (evl x)) h;exact ⟨evl v,.inl h1,by simp only [o6,a11];exact h2⟩
  | [],h=>exact h.elim
  | _::_::_,h=>exact h.elim
 | fld n off a =>
  match vs,h with
  | [x],h=>obtain ⟨v,h1,h2⟩:=d5p (K:=fun x=>K (evl x)) h;exact ⟨evl v,.inl h1,by simp only [o6,a11];exact h2⟩
  | [],h=>exact h.elim
  | _::_::_,h=>exact h.elim
 | iad k a b =>
  match vs,h with
  | [x,y],h=>obtain ⟨v,h1,h2⟩:=d5n (K:=fun x=>K (evl x)) (L:=fun x=>L (evl x)) h;exact ⟨evl v,h1,by simp only [o6,a11];exact h2⟩
  | [],h=>exact h.elim
  | [_],h=>exact h.elim
  | _::_::_::_,h=>exact h.elim
 | idx a b =>
  match vs,h with
  | [x,y],h=>obtain ⟨v,h1,h2⟩:=d5l (K:=fun x=>K (evl x)) h;exact ⟨evl v,.inl h1,by simp only [o6,a11];exact h2⟩
  | [],h=>exact h.elim
  | [_],h=>exact h.elim
  | _::_::_::_,h=>exact h.elim
 | aix n k cnt a b =>
  match vs,h with
  | [x,y],h=>obtain ⟨v,h1,h2⟩:=d61 (K:=fun x=>K (evl x)) h;exact ⟨evl v,.inl h1,by simp only [o6,a11];exact h2⟩
  | [],h=>exact h.elim
  | [_],h=>exact h.elim
  | _::_::_::_,h=>exact h.elim
 | aad k cnt a b =>
  match vs,h with
  | [x,y],h=>obtain ⟨v,h1,h2⟩:=d62 (K:=fun x=>K (evl x)) h;exact ⟨evl v,.inl h1,by simp only [o6,a11];exact h2⟩
  | [],h=>exact h.elim
  | [_],h=>exact h.elim
  | _::_::_::_,h=>exact h.elim
 | barr k zs xs =>
  simp only [a0j,o6] at h ⊢
  cases hf:b0g zs (a2m k 0 vs) with
  | none=>rw [hf] at h;exact h.elim
  | some cs=>rw [hf] at h;exact ⟨_,.inl h,rfl⟩
 | lsl k xs =>
  simp only [a0j,o6] at h ⊢
  cases hf:vs.all (a3f k) with
  | false=>rw [hf] at h;exact h.elim
  | true=>rw [hf] at h;exact ⟨_,.inl h,rfl⟩
 | ls2b a =>
  match vs,h with
  | [x],h=>obtain ⟨v,h1,h2⟩:=d0g (K:=fun x=>K (evl x)) h;exact ⟨evl v,.inl h1,by simp only [o6,a11];exact h2⟩
  | [],h=>exact h.elim
  | _::_::_,h=>exact h.elim
 | ext i a =>
  match vs,h with
  | [x],h=>obtain ⟨v,h1,h2⟩:=d5r (K:=fun x=>K (evl x)) h;exact ⟨evl v,.inl h1,by simp only [o6,a11];exact h2⟩
  | [],h=>exact h.elim
  | _::_::_,h=>exact h.elim
 | len s a =>
  match vs,h with
  | [x],h=>obtain ⟨v,h1,h2⟩:=d5k (K:=fun x=>K (evl x)) h;exact ⟨evl v,.inl h1,by simp only [o6,a11];exact h2⟩
  | [],h=>exact h.elim
  | _::_::_,h=>exact h.elim
 | app k bytes a b =>
  match vs,h with
  | [x,y],h=>obtain ⟨v,h1,h2⟩:=d60 h;exact ⟨v,.inl h1,h2⟩
  | [],h=>exact h.elim
  | [_],h=>exact h.elim
  | _::_::_::_,h=>exact h.elim
 | mm mx a b =>
  match vs,h with
  | [x,y],h=>obtain ⟨v,h1,h2⟩:=e4g (K:=fun x=>K (evl x)) h;exact ⟨evl v,.inl h1,by simp only [o6,a11];exact h2⟩
  | [],h=>exact h.elim
  | [_],h=>exact h.elim
  | _::_::_::_,h=>exact h.elim
 | mp m xs =>
  by_cases hm:m=.nxt
  ·subst hm;exact h.elim
  ·by_cases hm2:∃b,m=.isn b
   ·obtain ⟨b,rfl⟩:=hm2;exact h.elim
   ·have h':a0v m d vs ob K L:=by
     cases m<;>first|exact h|exact absurd rfl hm|exact absurd ⟨_,rfl⟩ hm2
    obtain ⟨e,h1,h2⟩:=d5j hm (fun b e=>hm2 ⟨b,e⟩) h'
    exact ⟨e,.inl h1,h2⟩
 | call f args ids news =>
  match vs,h with
  | [],h=>exact h.elim
  | g::r,h =>
   simp only [a0j,b4g] at h
   split at h
   ·split at h
    ·rename_i n cap H hH
     obtain ⟨r',H',h1,h2,h3⟩:=h
     refine ⟨_,.inr h3,?_⟩
     simp only [o6,b3n,hH]
     exact h1.mono fun r2 H2 ⟨e1,e2⟩=>by subst e1;subst e2;simp only [h2,vE]
    ·exact h.elim
   ·split at h
    ·rename_i n cap H hH
     obtain ⟨r',H',h1,h2,h3⟩:=h
     refine ⟨_,.inr h3,?_⟩
     simp only [o6,b3n,hH]
     exact h1.mono fun r2 H2 ⟨e1,e2⟩=>by subst e1;subst e2;simp only [h2,vE]
    ·exact h.elim
   ·exact h.elim
theorem c5v {ob ob':Nat→Option a03}:∀{ids:List Nat},(∀id∈ids,ob id=ob' id)→b8c ids ob=b8c ids ob'
 | [],_=>rfl
 | n::r,h=>by
  have h1:=h n xA
  have h2:=c5v (ids:=r) fun id hid=>h id (z3 _ hid)
  simp only [b8c,h1,h2]
theorem b5i {ob ob':Nat→Option a03} {k:Nat} {y:V} (h:∀id∈vid y,ob id=ob' id):a5c k y ob=a5c k y ob':=by
 cases y<;>try rfl
 rename_i id k' lo n
 have:=h id (by simp [vid])
 simp only [a5c,this]
theorem c2a {ob ob':Nat→Option a03} {x:V} {K:KD→List (V×V)→Prop} (h:∀id∈vid x,ob id=ob' id):b1s x ob K=b1s x ob' K:=by
 cases x<;>try rfl
 rename_i id
 have:=h id (by simp [vid])
 simp only [b1s,this]
theorem c1p {ob ob':Nat→Option a03}:∀{vs:List V},(∀id∈vs.flatMap vid,ob id=ob' id)→a9s ob vs=a9s ob' vs
 | [],_=>rfl
 | v::r,h=>by
  have ih:=c1p (vs:=r) fun id hid=>h id (by simp only [xL,wC];exact .inr hid)
  cases v<;>try (unfold a9s;simp only [ih];done)
  rename_i j q lo n
  have:=h j (by simp [vid])
  cases lo<;>simp only [a9s,this,ih]
theorem d5i {ob ob':Nat→Option a03} {op:b9t} {xs:List Opd} {d:Nat} {vs:List V} {K L:Eff→Prop} (h:∀id∈(y7.mp op xs).touch vs,ob id=ob' id):a0v op d vs ob K L=a0v op d vs ob' K L:=by
 unfold a0v
 split
 ·rfl
 ·split
  ·rfl
  ·rfl
  ·exact c2a fun id hid=>h id (by simpa [y7.touch] using hid)
 ·have:=h _ (by simp [y7.touch,vid];rfl)
  simp only [this]
 ·have:=h _ (by simp [y7.touch,vid];rfl)
  simp only [this]
 ·split
  ·rfl
  ·exact c2a fun id hid=>h id (by simpa [y7.touch] using hid)
 ·rfl
 ·have:=h _ (by simp [y7.touch,vid];rfl)
  simp only [this]
 ·have:=h _ (by simp [y7.touch,vid];rfl)
  simp only [this]
 ·rfl
 ·rfl
 ·rename_i kd id k j q n
  have h1:=h id (by simp [y7.touch,vid])
  have h2:=h j (by simp [y7.touch,vid])
  simp only [h1,h2]
 ·rename_i id k i j q n
  have h1:=h id (by simp [y7.touch,vid])
  have h2:=h j (by simp [y7.touch,vid])
  simp only [h1,h2]
 ·have:a9s ob vs=a9s ob' vs:=c1p fun id hid=>h id (by simp only [y7.touch];exact hid)
  simp only [this]
 ·rfl
 ·rfl
 ·have:=h _ (by simp [y7.touch,vid];rfl)
  simp only [this]
 ·rfl
 ·rfl
 ·rfl
 ·rename_i k bytes id k' lo n y
  have h1:=h id (by simp [y7.touch,vid])
  have h2:=b5i (k:=k) (ob:=ob) (ob':=ob') (y:=y) fun i hi=>h i (by simp [y7.touch,hi])
  simp only [h1,h2]
 ·have:=h _ (by simp [y7.touch,vid];rfl)
  simp only [this]
 ·rename_i z q i e k n
  have h1:=h z (by simp [y7.touch,vid])
  have h2:=h e (by simp [y7.touch,vid])
  simp only [h1,h2]
 ·rename_i k bytes x y
  have h2:=b5i (k:=1) (ob:=ob) (ob':=ob') (y:=y) fun i hi=>h i (by simp [y7.touch,hi])
  rw [h2]
  cases x with
  | osl z q lo n =>
   have h1:=h z (by simp [y7.touch,vid])
   cases lo with
   | zero=>simp only [h1]
   | succ lo=>rfl
  | _=>rfl
 ·rfl
theorem d06 {P:Program} {i:y7} {d:Nat} {vs:List V} {ob ob':Nat→Option a03} {K L:Eff→Prop} (ht:∀id∈i.touch vs,ob id=ob' id) (h:o6 P i d vs ob K L):o6 P i d vs ob' K L:=by
 cases i with
 | ld n a =>
  rcases vs with _|⟨x,_|⟨y,r⟩⟩
  ·exact h.elim
  ·change sLd n x ob _ _ at h
   change sLd n x ob' _ _
   cases x<;>try exact h
   ·rename_i id off
    have:=ht id (by simp [y7.touch,vid])
    simp only [sLd,this] at h ⊢;exact h
   ·rename_i id k i off
    have:=ht id (by simp [y7.touch,vid])
    simp only [sLd,this] at h ⊢;exact h
  ·exact h.elim
 | st n a b =>
  rcases vs with _|⟨x,_|⟨y,_|⟨z,r⟩⟩⟩
  ·exact h.elim
  ·exact h.elim
  ·change sSt n x y ob (fun id o=>K (eup id o)) (fun id o=>L (eup id o)) at h
   change sSt n x y ob' (fun id o=>K (eup id o)) (fun id o=>L (eup id o))
   cases x<;>try exact h
   ·rename_i id off
    have:=ht id (by simp [y7.touch,vid])
    simp only [sSt,this] at h ⊢;exact h
   ·rename_i id k i off
    have:=ht id (by simp [y7.touch,vid])
    simp only [sSt,this] at h ⊢;exact h
  ·exact h.elim
 | b2s a =>
  rcases vs with _|⟨x,_|⟨y,r⟩⟩
  ·exact h.elim
  ·change c65 x ob (fun r=>K (evl r)) (fun r=>L (evl r)) at h
   change c65 x ob' (fun r=>K (evl r)) (fun r=>L (evl r))
   cases x<;>try exact h
   ·rename_i id k lo n
    have:=ht id (by simp [y7.touch,vid])
    simp only [c65,this] at h ⊢;exact h
  ·exact h.elim
 | mks a =>
  rcases vs with _|⟨x,_|⟨y,r⟩⟩
  ·exact h.elim
  ·change c9j x ob _ at h
   change c9j x ob' _
   cases x<;>try exact h
   ·rename_i id k lo n
    have:=ht id (by simp [y7.touch,vid])
    simp only [c9j,this] at h ⊢;exact h
  ·exact h.elim
 | app k bytes a b ty =>
  rcases vs with _|⟨x,_|⟨y,_|⟨z,r⟩⟩⟩
  ·exact h.elim
  ·exact h.elim
  ·change c1u k bytes d ty x y ob _ at h
   change c1u k bytes d ty x y ob' _
   have hy:=b5i (k:=k) (ob:=ob) (ob':=ob') (y:=y) fun id hid=>ht id (by simp [y7.touch,hid])
   unfold c1u at h ⊢
   rw [←hy]
   cases ha:a5c k y ob with
   | none=>rw [ha] at h;exact h
   | some ys =>
    rw [ha] at h
    simp only at h ⊢
    obtain ⟨h0,h⟩:=h
    refine ⟨h0,?_⟩
    cases x<;>try exact h
    rename_i id k' lo n
    have:=ht id (by simp [y7.touch,vid])
    simp only [this] at h ⊢;exact h
  ·exact h.elim
 | call f args ids news =>
  rcases vs with _|⟨x,r⟩
  ·exact h.elim
  ·change b3n P x r ids news ob _ at h
   change b3n P x r ids news ob' _
   have:=c5v (ids:=ids) (ob:=ob) (ob':=ob') fun id hid=>ht id (by simpa [y7.touch] using hid)
   unfold b3n at h ⊢
   rw [this] at h
   exact h
 | mp m xs =>
  change a0v m d vs ob K L at h
  change a0v m d vs ob' K L
  rwa [d5i (xs:=xs) (ob:=ob) (ob':=ob') ht] at h
 | alloc zs=>simp only [o6] at h ⊢;exact h
 | mkfn f cap=>simp only [o6] at h ⊢;exact h
 | build zs ps=>simp only [o6] at h ⊢;exact h
 | bslice k xs uv=>simp only [o6] at h ⊢;exact h
 | barr k zs xs=>simp only [o6] at h ⊢;exact h
 | lsl k xs=>simp only [o6] at h ⊢;exact h
 | sls a lo hi=>rcases vs with _|⟨x,r⟩<;>exact h
 | slc k a lo hi=>rcases vs with _|⟨x,r⟩<;>exact h
 | _=>rcases vs with _|⟨x,_|⟨y,_|⟨z,_|⟨u,r⟩⟩⟩⟩<;>exact h
structure Ent where
 dst:Option Nat
 eff:Option Eff
 uses:List Nat
 touch:List Nat
 made:List Nat
def Ent.app (e:Ent) (σ:St):St :=
 match e.eff with
 | some f=>σ.app e.dst f
 | none=>⟨a7h e.dst σ.env,σ.heap⟩
def Ent.ids (e:Ent):List Nat :=
 match e.eff with
 | some f=>f.ids
 | none=>[]
def slotsOf:List Opd→List Nat
 | []=>[]
 | .t n::r=>n::slotsOf r
 | _::r=>slotsOf r
def f0f (P:Program) (H0:Heap) (m:MOp) (σ:St) (gs:List Nat) (k:Ent→Prop):Prop :=
 bif a0x H0 σ (m.ins.creates m.d) then
  a0j P m.ins m.d (m.ins.opds.map (·.ev σ.env)) (c48 σ.heap) (fun f=>k ⟨m.dst,some f,gs++slotsOf m.ins.opds,m.ins.touch (m.ins.opds.map (·.ev σ.env)),m.ins.creates m.d⟩)
   (fun f=>k ⟨m.dst,some f,gs++slotsOf m.ins.opds,m.ins.touch (m.ins.opds.map (·.ev σ.env)),m.ins.creates m.d⟩)
 else False
def c69 (P:Program) (H0:Heap):List MOp→List Ent→St→(List Ent→St→Prop)→Prop
 | [],log,σ,K=>K log σ
 | m :: r,log,σ,K =>
  match m.guard with
  | none=>f0f P H0 m σ [] fun e=>c69 P H0 r (e::log) (e.app σ) K
  | some (s,want) =>
   match get s σ.env with
   | .bool b=>a4p b want (f0f P H0 m ⟨put s (.bool want) σ.env,σ.heap⟩ [s] fun e=>c69 P H0 r (e::log) (e.app ⟨put s (.bool want) σ.env,σ.heap⟩) K)
     (c69 P H0 r (⟨m.dst,none,[s],[],[]⟩::log) (Ent.app ⟨m.dst,none,[s],[],[]⟩ ⟨put s (.bool (!want)) σ.env,σ.heap⟩) K)
   | .tup []=>c69 P H0 r (⟨m.dst,none,[s],[],[]⟩::log) (Ent.app ⟨m.dst,none,[s],[],[]⟩ σ) K
   | _=>False
def c6g (x:Ent):List Nat→Bool
 | []=>true
 | n::r=>(match x.eff with|some f=>!f.val.has n&&a0w n f.new|none=>true)&&c6g x r
def d4e:List Nat→List Nat→Bool
 | [],_=>true
 | n::r,l=>!mem n l&&d4e r l
def oneOf (d:Option Nat) (l:List Nat):Bool :=
 match d with
 | some n=>mem n l
 | none=>false
def apart (x y:Ent):Bool :=
 !oneOf x.dst y.uses&&!oneOf y.dst x.uses&&(match x.dst,y.dst with|some a,some b=>!Nat.beq a b|_,_=>true)&&d4e x.ids y.touch&&d4e y.ids x.touch&&d4e x.ids y.ids
def b60 (i d:Nat):List Ent→Nat
 | []=>0
 | z::r=>(bif mem i z.ids||mem d z.ids then 1 else 0)+b60 i d r
def late (r:List Ent) (x y:Ent):Bool :=
 !oneOf x.dst y.uses&&!oneOf y.dst x.uses&&(match x.dst,y.dst with|some a,some b=>!Nat.beq a b|_,_=>true)&&d4e x.ids y.touch&&d4e x.ids y.ids &&
  match y.eff with
  | some f=>match f.drop,f.new with
   | [i],[(d,_)]=>!mem d x.touch&&Nat.ble (b60 i d r) 1&&!Nat.beq i d
   | _,_=>false
  | none=>false
def b2u (ord lat:Bool) (r:List Ent) (x y:Ent):Bool:=c6g x y.made&&(ord||((apart x y||(lat&&late r x y))&&c6g y x.made))
def b6s (i:Nat) (x:Ent) (all:List Ent):List (List Nat)→List Ent→Bool
 | _,[]=>true
 | a::anc,y::r=>b2u (Nat.blt i 1000000&&mem i a) (mem (1000000+i) a) all x y&&b6s i x all anc r
 | [],_::_=>false
def a3u (H0:Heap) (σ:St):Nat→List (List Nat)→List Ent→Bool
 | _,_,[]=>true
 | i,_::anc,x::r=>a0x H0 σ x.made&&b6s i x r anc r&&a3u H0 σ (i+1) anc r
 | _,[],_::_=>false
def y7.isLd:y7→Bool
 | .ld ..=>true
 | _=>false
def y7.isApp:y7→Bool
 | .app ..=>true
 | _=>false
def b7m (all:List MOp) (m:MOp):List Nat→Bool
 | []=>true
 | x::r=>(Nat.blt x 1000000||(m.ins.isApp&&(match all[x - 1000000]? with|some l=>l.ins.isLd|none=>false)))&&b7m all m r
def b05 (all:List MOp):List MOp→List (List Nat)→Bool
 | m::r,a::s=>b7m all m a&&b05 all r s
 | _,_=>true
def b9p (aft:List Nat) (anc:List (List Nat)):List Nat→Bool
 | []=>true
 | k::r=>(Nat.ble 1000000 k||mem k aft||aft.any fun l=>mem k (anc.getD l []))&&b9p aft anc r
def below (j:Nat):List Nat→Bool
 | []=>true
 | k::r=>Nat.blt k j&&below j r
def b0p (all:List (List Nat)):Nat→List (List Nat)→List (List Nat)→Bool
 | _,[],[]=>true
 | j,a::aft,b::anc=>below j a&&b9p a all b&&b0p all (j+1) aft anc
 | _,_,_=>false
def b4s:List Nat→List Nat→Bool
 | [],[]=>true
 | a::r,b::s=>Nat.beq a b&&b4s r s
 | _,_=>false
def b3r:List (List Nat)→List Oper→Bool
 | [],[]=>true
 | a::r,o::s=>b4s a ((o.after.toList.filter (Region.binds .any)).map (·.on))&&b3r r s
 | _,_=>false
def Ran (P:Program) (H0:Heap) (m:MOp) (e:Ent) (σ:St) (gs:List Nat):Prop :=
 ∃f,e.eff=some f∧o6 P m.ins m.d (m.ins.opds.map (·.ev σ.env)) (c48 σ.heap) (fun u=>u=f) (fun u=>u=f)∧e.uses=gs++slotsOf m.ins.opds ∧
  e.touch=m.ins.touch (m.ins.opds.map (·.ev σ.env))∧e.made=m.ins.creates m.d
def Ev (P:Program) (H0:Heap) (m:MOp) (e:Ent) (σ:St):Prop :=
 e.dst=m.dst∧((m.guard=none∧Ran P H0 m e σ [])∨(∃s want b,m.guard=some (s,want)∧get s σ.env=.bool b∧s∈e.uses∧((b=want∧Ran P H0 m e σ [s])∨(b=(!want)∧e.eff=none)))∨∃s want,m.guard=some (s,want)∧get s σ.env=.tup []∧s∈e.uses∧e.eff=none)
def Evs (P:Program) (H0:Heap):List MOp→List Ent→St→Prop
 | [],[],_=>True
 | m::r,e::s,σ=>Ev P H0 m e σ∧Evs P H0 r s (e.app σ)
 | _,_,_=>False
def b61:List Ent→St→St
 | [],σ=>σ
 | e::r,σ=>b61 r (e.app σ)
theorem c2h {P:Program} {H0:Heap} {m:MOp} {σ:St} {gs:List Nat} {k:Ent→Prop} (h:f0f P H0 m σ gs k):∃e,e.dst=m.dst∧Ran P H0 m e σ gs∧k e:=by
 unfold f0f at h
 cases hc:a0x H0 σ (m.ins.creates m.d) with
 | false=>rw [hc] at h;exact h.elim
 | true =>
  rw [hc] at h
  simp only [vE] at h
  obtain ⟨f,h1,h2⟩:=c5x h
  exact ⟨_,rfl,⟨f,rfl,h2,rfl,rfl,rfl⟩,h1.elim id id⟩
theorem a9w {P:Program} {H0:Heap} {K:List Ent→St→Prop}:∀{ms:List MOp} {log:List Ent} {σ:St},c69 P H0 ms log σ K→∃es,Evs P H0 ms es σ∧K (es.reverse++log) (b61 es σ)
 | [],log,σ,h=>⟨[],trivial,by simpa [b61,c69] using h⟩
 | m::r,log,σ,h=>by
  simp only [c69] at h
  cases hg:m.guard with
  | none =>
   rw [hg] at h
   obtain ⟨e,h1,h2,h3⟩:=c2h h
   obtain ⟨es,h4,h5⟩:=a9w h3
   exact ⟨e::es,⟨⟨h1,.inl ⟨hg,h2⟩⟩,h4⟩,by simpa [b61] using h5⟩
  | some p =>
   obtain ⟨s,want⟩:=p
   rw [hg] at h
   simp only at h
   split at h
   case h_3=>exact h.elim
   case h_2 hb =>
    obtain ⟨es,h4,h5⟩:=a9w h
    exact ⟨_::es,⟨⟨rfl,.inr (.inr ⟨s,want,hg,hb,by simp,rfl⟩)⟩,h4⟩,by simpa [b61] using h5⟩
   rename_i b hb
   obtain ⟨hx,hy⟩:=h
   have hf:=b09 hb
   by_cases hbw:b=want
   ·subst hbw
    have hx:=hx rfl
    rw [a5y hf] at hx
    obtain ⟨e,h1,h2,h3⟩:=c2h hx
    obtain ⟨es,h4,h5⟩:=a9w h3
    obtain ⟨f,k1,k2,k3,k4,k5⟩:=h2
    exact ⟨e::es,⟨⟨h1,.inr (.inl ⟨s,b,b,hg,hb,by rw [k3];simp,.inl ⟨rfl,f,k1,k2,k3,k4,k5⟩⟩)⟩,h4⟩,by simpa [b61] using h5⟩
   ·have hbn:b=(!want):=by cases b<;>cases want<;>first|rfl|exact absurd rfl hbw
    have hy:=hy hbn
    rw [←hbn,a5y hf] at hy
    obtain ⟨es,h4,h5⟩:=a9w hy
    exact ⟨_::es,⟨⟨rfl,.inr (.inl ⟨s,want,b,hg,hb,by simp,.inr ⟨hbn,rfl⟩⟩)⟩,h4⟩,by simpa [b61] using h5⟩
def fold (E:Nat→Bool):Nat→List Ent→St→St
 | _,[],σ=>σ
 | i,e::r,σ=>fold E (i+1) r (bif E i then e.app σ else σ)
def Ent.wr (e:Ent) (s:Nat):Prop:=e.dst=some s
theorem a9j {e:Ent} {σ:St} {s:Nat}:find s (e.app σ).env=if e.dst=some s then (match e.eff with|some f=>some f.val|none=>some (.tup [])) else find s σ.env:=by
 unfold Ent.app
 cases he:e.eff with
 | some f =>
  cases hd:e.dst with
  | none=>simp [St.app,c3o]
  | some d =>
   simp only [St.app,c3o,a0i,xI]
   by_cases h:s=d
   ·simp [h]
   ·have:¬d=s:=fun e=>h e.symm
    simp [h,this]
 | none =>
  cases hd:e.dst with
  | none=>simp [a7h]
  | some d =>
   simp only [a7h,a0i,xI]
   by_cases h:s=d
   ·simp [h]
   ·have:¬d=s:=fun e=>h e.symm
    simp [h,this]
theorem b6f {n:Nat}:∀{l:List (Nat×a03)} {H H':Heap},(find n H=find n H'∨∃o,(n,o)∈l)→find n (puts l H)=find n (puts l H')
 | [],H,H',h=>by
  rcases h with h|⟨o,h⟩
  ·exact h
  ·cases h
 | (m,o)::r,H,H',h=>by
  simp only [puts]
  refine b6f ?_
  rw [a0i,a0i]
  by_cases e:n=m
  ·exact .inl (by simp [e])
  ·rcases h with h|⟨o',h⟩
   ·exact .inl (by simp [e,h])
   ·rcases wO.1 h with h|h
    ·cases h;exact absurd rfl e
    ·exact .inr ⟨o',h⟩
theorem c1e {f:Eff} {n:Nat} {H H':Heap} (h:n∈f.ids):find n (f.heap H)=find n (f.heap H'):=by
 unfold Eff.heap
 refine b6f ?_
 simp only [Eff.ids,wC,wZ] at h
 rcases h with h|⟨p,hp,rfl⟩
 ·exact .inl (by rw [a6u,a6u];simp [h])
 ·exact .inr ⟨p.2,hp⟩
theorem b9i {f:Eff} {n:Nat} {H:Heap} (h:n∉f.ids):find n (f.heap H)=find n H:=by
 unfold Eff.heap
 simp only [Eff.ids,wC,wZ,not_or,not_exists,not_and] at h
 rw [a1m (fun o ho=>h.2 (n,o) ho rfl),a6u]
 simp [h.1]
theorem b5h {e:Ent} {σ τ:St} {n:Nat} (h:n∈e.ids):find n (e.app σ).heap=find n (e.app τ).heap:=by
 unfold Ent.app
 cases he:e.eff with
 | some f=>exact c1e (by simpa [Ent.ids,he] using h)
 | none=>simp [Ent.ids,he] at h
theorem a2y {e:Ent} {σ:St} {n:Nat} (h:n∉e.ids):find n (e.app σ).heap=find n σ.heap:=by
 unfold Ent.app
 cases he:e.eff with
 | some f=>exact b9i (by simpa [Ent.ids,he] using h)
 | none=>rfl
theorem b44 {E E':Nat→Bool} {s:Nat}:∀{es:List Ent} {i:Nat} {σ τ:St},find s σ.env=find s τ.env→(∀k e,es[k]?=some e→E (i+k)≠E' (i+k)→e.dst≠some s) →
  find s (fold E i es σ).env=find s (fold E' i es τ).env
 | [],i,σ,τ,h,_=>h
 | e::r,i,σ,τ,h,hk=>by
  simp only [fold]
  refine b44 ?_ fun k e' hk' hne=>hk (k+1) e' (by simpa using hk') (by rw [show i+(k+1)=i+1+k from by omega];exact hne)
  have h0:=hk 0 e rfl
  rw [wY] at h0
  cases hE:E i<;>cases hE':E' i<;>simp only [vE,vC]
  ·exact h
  ·rw [a9j,if_neg (h0 (by simp [hE,hE']))];exact h
  ·rw [a9j,if_neg (h0 (by simp [hE,hE']))];exact h
  ·rw [a9j,a9j,h]
theorem a81 {E E':Nat→Bool} {n:Nat}:∀{es:List Ent} {i:Nat} {σ τ:St},find n σ.heap=find n τ.heap→(∀k e,es[k]?=some e→E (i+k)≠E' (i+k)→n∉e.ids) →
  find n (fold E i es σ).heap=find n (fold E' i es τ).heap
 | [],i,σ,τ,h,_=>h
 | e::r,i,σ,τ,h,hk=>by
  simp only [fold]
  refine a81 ?_ fun k e' hk' hne=>hk (k+1) e' (by simpa using hk') (by rw [show i+(k+1)=i+1+k from by omega];exact hne)
  have h0:=hk 0 e rfl
  rw [wY] at h0
  cases hE:E i<;>cases hE':E' i<;>simp only [vE,vC]
  ·exact h
  ·rw [a2y (h0 (by simp [hE,hE']))];exact h
  ·rw [a2y (h0 (by simp [hE,hE']))];exact h
  ·by_cases hm:n∈e.ids
   ·exact b5h hm
   ·rw [a2y hm,a2y hm];exact h
theorem b0b {E:Nat→Bool} {s j:Nat} {e:Ent}:∀{es:List Ent} {i:Nat} {σ τ:St},es[j]?=some e→E (i+j)=true→e.dst=some s→(∀k e',es[k]?=some e'→j<k→E (i+k)=true→e'.dst≠some s) →
  find s (fold E i es σ).env=find s (e.app τ).env
 | [],i,σ,τ,h,_,_,_=>by simp at h
 | e0::r,i,σ,τ,h,hE,hd,hk=>by
  simp only [fold]
  cases j with
  | zero =>
   simp at h;subst h
   rw [wY] at hE
   rw [hE,vE]
   have:find s (fold E (i+1) r (e0.app σ)).env=find s (fold (fun _=>false) (i+1) r (e0.app σ)).env :=
    b44 rfl fun k e' hk' hne=>hk (k+1) e' (by simpa using hk') (by omega) (by rw [show i+(k+1)=i+1+k from by omega];simpa using hne)
   rw [this]
   have none':∀(l:List Ent) (i:Nat) (σ:St),fold (fun _=>false) i l σ=σ:=by
    intro l
    induction l with
    | nil=>intro i σ;rfl
    | cons a l ih=>intro i σ;simp only [fold,vC];exact ih _ _
   rw [none',a9j,a9j,if_pos hd,if_pos hd]
  | succ j =>
   exact b0b (by simpa using h) (by rw [show i+1+j=i+(j+1) from by omega];exact hE) hd fun k e' hk' hlt he=>hk (k+1) e' (by simpa using hk') (by omega) (by rw [show i+(k+1)=i+1+k from by omega];exact he)
theorem a8x {E:Nat→Bool} {n j:Nat} {e:Ent}:∀{es:List Ent} {i:Nat} {σ τ:St},es[j]?=some e→E (i+j)=true→n∈e.ids→(∀k e',es[k]?=some e'→j<k→E (i+k)=true→n∉e'.ids) →
  find n (fold E i es σ).heap=find n (e.app τ).heap
 | [],i,σ,τ,h,_,_,_=>by simp at h
 | e0::r,i,σ,τ,h,hE,hd,hk=>by
  simp only [fold]
  cases j with
  | zero =>
   simp at h;subst h
   rw [wY] at hE
   rw [hE,vE]
   have:find n (fold E (i+1) r (e0.app σ)).heap=find n (fold (fun _=>false) (i+1) r (e0.app σ)).heap :=
    a81 rfl fun k e' hk' hne=>hk (k+1) e' (by simpa using hk') (by omega) (by rw [show i+(k+1)=i+1+k from by omega];simpa using hne)
   rw [this]
   have none':∀(l:List Ent) (i:Nat) (σ:St),fold (fun _=>false) i l σ=σ:=by
    intro l
    induction l with
    | nil=>intro i σ;rfl
    | cons a l ih=>intro i σ;simp only [fold,vC];exact ih _ _
   rw [none']
   exact b5h hd
  | succ j =>
   exact a8x (by simpa using h) (by rw [show i+1+j=i+(j+1) from by omega];exact hE) hd fun k e' hk' hlt he=>hk (k+1) e' (by simpa using hk') (by omega) (by rw [show i+(k+1)=i+1+k from by omega];exact he)
theorem c2n:∀{es:List Ent} {E:Nat→Bool} {i:Nat} {σ:St},(∀k,k<es.length→E (i+k)=true)→fold E i es σ=b61 es σ
 | [],_,_,_,_=>rfl
 | e::r,E,i,σ,h=>by
  have h0:=h 0 (by simp)
  rw [wY] at h0
  simp only [fold,b61,h0,vE]
  exact c2n fun k hk=>by
   have:=h (k+1) (by simpa using hk)
   rw [show i+(k+1)=i+1+k from by omega] at this;exact this
theorem b57:∀{es:List Ent} {E:Nat→Bool} {i:Nat} {σ:St},(∀k,E (i+k)=false)→fold E i es σ=σ
 | [],_,_,_,_=>rfl
 | e::r,E,i,σ,h=>by
  have h0:=h 0
  rw [wY] at h0
  simp only [fold,h0,vC]
  exact b57 fun k=>by
   have:=h (k+1)
   rw [show i+(k+1)=i+1+k from by omega] at this;exact this
theorem b7y {a b:Nat}:Nat.blt a b=true↔a<b:=by
 unfold Nat.blt;exact ⟨zQ,Nat.ble_eq_true_of_le⟩
theorem c81 {P:Program} {H0:Heap}:∀{ms:List MOp} {es:List Ent} {i k:Nat} {σ:St} {m:MOp} {e:Ent},Evs P H0 ms es σ→ms[k]?=some m→es[k]?=some e→Ev P H0 m e (fold (fun j=>decide (j<i+k)) i es σ)
 | [],[],_,k,_,_,_,_,h,_=>by simp at h
 | m0::r,e0::s,i,0,σ,m,e,h,hm,he=>by
  simp at hm he;subst hm;subst he
  rw [b57 (fun k=>by simp)]
  exact h.1
 | m0::r,e0::s,i,k+1,σ,m,e,h,hm,he=>by
  have ih:=c81 (i:=i+1) (k:=k) h.2 (by simpa using hm) (by simpa using he)
  have hE:decide (i<i+(k+1))=true:=by simp
  simp only [fold,hE,vE]
  rw [show i+(k+1)=i+1+k from by omega]
  exact ih
 | [],_::_,_,_,_,_,_,h,_,_=>h.elim
 | _::_,[],_,_,_,_,_,h,_,_=>h.elim
theorem c0z {P:Program} {H0:Heap}:∀{ms:List MOp} {es:List Ent} {σ:St},Evs P H0 ms es σ→es.length=ms.length
 | [],[],_,_=>rfl
 | _::_,_::_,_,h=>by simp [c0z h.2]
 | [],_::_,_,h=>h.elim
 | _::_,[],_,h=>h.elim
theorem b0j {l q:List Nat} (h:d4e l q=true) {n:Nat} (h1:n∈l) (h2:n∈q):False:=by
 induction l with
 | nil=>cases h1
 | cons m r ih =>
  simp only [d4e,xY,xO] at h
  rcases wO.1 h1 with rfl|h1
  ·have:=mem_iff.2 h2;rw [h.1] at this;cases this
  ·exact ih h.2 h1
structure Apart (x y:Ent):Prop where
 du:∀d,x.dst=some d→d∉y.uses
 ud:∀d,y.dst=some d→d∉x.uses
 dd:∀d,x.dst=some d→y.dst≠some d
 it:∀n,n∈x.ids→n∉y.touch
 ti:∀n,n∈y.ids→n∉x.touch
 ii:∀n,n∈x.ids→n∉y.ids
theorem b0o {x y:Ent} (h:apart x y=true):Apart x y:=by
 simp only [apart,xY,xO] at h
 obtain ⟨⟨⟨⟨⟨h1,h2⟩,h3⟩,h4⟩,h5⟩,h6⟩:=h
 refine ⟨fun d hd hm=>?_,fun d hd hm=>?_,fun d hd he=>?_,fun n a b=>b0j h4 a b,fun n a b=>b0j h5 a b,fun n a b=>b0j h6 a b⟩
 ·rw [hd] at h1;simp only [oneOf] at h1;rw [mem_iff.2 hm] at h1;cases h1
 ·rw [hd] at h2;simp only [oneOf] at h2;rw [mem_iff.2 hm] at h2;cases h2
 ·rw [hd,he] at h3;simp at h3
theorem Apart.symm {x y:Ent} (h:Apart x y):Apart y x :=
 ⟨h.ud,h.du,fun d h1 h2=>h.dd d h2 h1,h.ti,h.it,fun n h1 h2=>h.ii n h2 h1⟩
structure b3m (x y:Ent):Prop where
 du:∀d,x.dst=some d→d∉y.uses
 ud:∀d,y.dst=some d→d∉x.uses
 dd:∀d,x.dst=some d→y.dst≠some d
 ii:∀n,n∈x.ids→n∉y.ids
theorem Apart.a0 {x y:Ent} (h:Apart x y):b3m x y:=⟨h.du,h.ud,h.dd,h.ii⟩
theorem b3m.symm {x y:Ent} (h:b3m x y):b3m y x:=⟨h.ud,h.du,fun d h1 h2=>h.dd d h2 h1,fun n h1 h2=>h.ii n h2 h1⟩
theorem a7d {r:List Ent} {x y:Ent} (h:late r x y=true):b3m x y∧(∀n,n∈x.ids→n∉y.touch)∧∃v i d o,y.eff=some ⟨v,[i],[(d,o)]⟩∧d∉x.touch∧b60 i d r≤1∧i≠d:=by
 simp only [late,xY,xO] at h
 obtain ⟨⟨⟨⟨⟨h1,h2⟩,h3⟩,h4⟩,h5⟩,h6⟩:=h
 refine ⟨⟨fun d hd hm=>?_,fun d hd hm=>?_,fun d hd he=>?_,fun n a b=>b0j h5 a b⟩,fun n a b=>b0j h4 a b,?_⟩
 ·rw [hd] at h1;simp only [oneOf] at h1;rw [mem_iff.2 hm] at h1;cases h1
 ·rw [hd] at h2;simp only [oneOf] at h2;rw [mem_iff.2 hm] at h2;cases h2
 ·simp only [hd,he] at h3;simp at h3
 ·split at h6
  ·rename_i f hf
   obtain ⟨v,dr,nw⟩:=f
   simp only at h6
   split at h6
   ·rename_i i d o
    simp only [xY,xO] at h6
    refine ⟨v,_,_,_,hf,fun hm=>?_,zQ h6.1.2,fun he=>?_⟩
    ·have:=mem_iff.2 hm
     rw [h6.1.1] at this;cases this
    ·rw [he] at h6;simp at h6
   ·cases h6
  ·cases h6
theorem b7l {i d:Nat}:∀{r:List Ent} {j:Nat} {x:Ent},r[j]?=some x→(i∈x.ids∨d∈x.ids)→1≤b60 i d r
 | [],_,_,h,_=>by simp at h
 | z::r,0,x,h,hm=>by
  simp at h;subst h
  have:(mem i z.ids||mem d z.ids)=true:=by
   rcases hm with hm|hm
   ·simp [mem_iff.2 hm]
   ·simp [mem_iff.2 hm]
  simp only [b60,this,vE];omega
 | z::r,j+1,x,h,hm=>by
  have:=b7l (r:=r) (j:=j) (by simpa using h) hm
  simp only [b60];omega
theorem b4u {i d:Nat}:∀{r:List Ent} {j k:Nat} {x y:Ent},b60 i d r≤1→r[j]?=some x→r[k]?=some y→(i∈x.ids∨d∈x.ids)→(i∈y.ids∨d∈y.ids)→j=k
 | [],_,_,_,_,_,h,_,_,_=>by simp at h
 | z::r,0,0,_,_,_,_,_,_,_=>rfl
 | z::r,0,k+1,x,y,hl,hx,hy,h1,h2=>by
  exfalso
  simp at hx;subst hx
  have a:=b7l (r:=r) (j:=k) (by simpa using hy) h2
  have b:(mem i z.ids||mem d z.ids)=true:=by
   rcases h1 with hm|hm
   ·simp [mem_iff.2 hm]
   ·simp [mem_iff.2 hm]
  simp only [b60,b,vE] at hl;omega
 | z::r,j+1,0,x,y,hl,hx,hy,h1,h2=>by
  exfalso
  simp at hy;subst hy
  have a:=b7l (r:=r) (j:=j) (by simpa using hx) h1
  have b:(mem i z.ids||mem d z.ids)=true:=by
   rcases h2 with hm|hm
   ·simp [mem_iff.2 hm]
   ·simp [mem_iff.2 hm]
  simp only [b60,b,vE] at hl;omega
 | z::r,j+1,k+1,x,y,hl,hx,hy,h1,h2=>by
  simp only [b60] at hl
  have:j=k:=b4u (r:=r) (j:=j) (k:=k) (x:=x) (y:=y) (by omega) (by simpa using hx) (by simpa using hy) h1 h2
  rw [this]
theorem b4y {all:List MOp} {m:MOp} {l:Nat}:∀{r:List Nat},b7m all m r=true→mem (1000000+l) r=true→m.ins.isApp=true∧∃q,all[l]?=some q∧q.ins.isLd=true
 | [],_,h=>by simp [mem] at h
 | x::r,h,hm=>by
  simp only [b7m,xY] at h
  rcases wO.1 (mem_iff.1 hm) with e|hm
  ·subst e
   have hb:Nat.blt (1000000+l) 1000000=false:=by
    cases hb:Nat.blt (1000000+l) 1000000 with
    | false=>rfl
    | true=>have:=b7y.1 hb;omega
   have h1:=h.1
   rw [hb,wQ,xY] at h1
   refine ⟨h1.1,?_⟩
   have e:1000000+l - 1000000=l:=by omega
   rw [e] at h1
   cases hq:all[l]? with
   | none=>rw [hq] at h1;cases h1.2
   | some q=>rw [hq] at h1;exact ⟨q,rfl,h1.2⟩
  ·exact b4y h.2 (mem_iff.2 hm)
theorem b4z {all:List MOp} {l:Nat}:∀{ms:List MOp} {anc:List (List Nat)} {k:Nat} {a:List Nat} {m:MOp},b05 all ms anc=true→anc[k]?=some a→ms[k]?=some m→mem (1000000+l) a=true→m.ins.isApp=true∧∃q,all[l]?=some q∧q.ins.isLd=true
 | [],_,_,_,_,_,_,h,_=>by simp at h
 | _::_,[],_,_,_,_,h,_,_=>by simp at h
 | m0::r,a0::s,0,a,m,h,ha,hm,hl=>by
  simp only [b05,xY] at h
  simp at ha hm;subst ha;subst hm
  exact b4y h.1 hl
 | m0::r,a0::s,k+1,a,m,h,ha,hm,hl=>by
  simp only [b05,xY] at h
  exact b4z h.2 (by simpa using ha) (by simpa using hm) hl
def e0x (x:Ent) (l:List Nat):Prop:=∀n∈l,∀f,x.eff=some f→f.val.has n=false∧a0w n f.new=true
theorem a9y {x:Ent}:∀{l:List Nat},c6g x l=true→e0x x l
 | [],_,n,hn=>by cases hn
 | m::r,h,n,hn=>by
  simp only [c6g,xY] at h
  rcases wO.1 hn with rfl|hn
  ·intro f hf
   rw [hf] at h
   simp only [xY,xO] at h
   exact h.1
  ·exact a9y h.2 n hn
theorem b9l {i:Nat} {x:Ent} {all:List Ent}:∀{anc:List (List Nat)} {r:List Ent} {k:Nat} {a:List Nat} {y:Ent},b6s i x all anc r=true→anc[k]?=some a→r[k]?=some y→b2u (Nat.blt i 1000000&&mem i a) (mem (1000000+i) a) all x y=true
 | _,[],k,_,_,_,_,h=>by simp at h
 | [],_::_,k,_,_,_,h,_=>by simp at h
 | a0::anc,y0::r,0,a,y,h,ha,hy=>by
  simp only [b6s,xY (b6s _ _ _ _ _),xY (b2u _ _ _ _ _)] at h
  simp at ha hy;subst ha;subst hy;exact h.1
 | a0::anc,y0::r,k+1,a,y,h,ha,hy=>by
  simp only [b6s,xY (b2u _ _ _ _ _)] at h
  exact b9l h.2 (by simpa using ha) (by simpa using hy)
theorem b0k {H0:Heap} {σ:St}:∀{i:Nat} {anc:List (List Nat)} {es:List Ent} {j k:Nat} {a:List Nat} {x y:Ent},a3u H0 σ i anc es=true→j<k→anc[k]?=some a→es[j]?=some x→es[k]?=some y →
  b2u (Nat.blt (i+j) 1000000&&mem (i+j) a) (mem (1000000+(i+j)) a) (es.drop (j+1)) x y=true
 | _,_,[],j,_,_,_,_,_,_,_,h,_=>by simp at h
 | _,[],_::_,_,k,_,_,_,_,_,h,_,_=>by simp at h
 | i,a0::anc,x0::r,0,k,a,x,y,h,hlt,ha,hx,hy=>by
  simp only [a3u,xY] at h
  simp at hx;subst hx
  cases k with
  | zero=>omega
  | succ k=>exact b9l h.1.2 (by simpa using ha) (by simpa using hy)
 | i,a0::anc,x0::r,j+1,k,a,x,y,h,hlt,ha,hx,hy=>by
  simp only [a3u,xY] at h
  cases k with
  | zero=>omega
  | succ k =>
   have:=b0k (i:=i+1) (j:=j) (k:=k) h.2 (by omega) (by simpa using ha) (by simpa using hx) (by simpa using hy)
   rw [show i+(j+1)=i+1+j from by omega];exact this
theorem b3c {c:Ctx} {σ:St}:∀{i:Nat} {anc:List (List Nat)} {es:List Ent} {j:Nat} {x:Ent},a3u c.H0 σ i anc es=true→es[j]?=some x→∀n∈x.made,Clean c σ n
 | _,_,[],j,_,_,h=>by simp at h
 | _,[],_::_,_,_,h,_=>by simp [a3u] at h
 | i,a0::anc,x0::r,0,x,h,hx=>by
  simp only [a3u,xY] at h
  simp at hx;subst hx
  exact a19 h.1.1
 | i,a0::anc,x0::r,j+1,x,h,hx=>by
  simp only [a3u,xY] at h
  exact b3c h.2 (by simpa using hx)
theorem b4q {n d:Nat} {x:V}:∀{env:List (Nat×V)},a7v n env=true→x.has n=false→a7v n (put d x env)=true
 | [],_,hx=>by simp [put,a7v,hx]
 | (m,y)::r,h,hx=>by
  simp only [a7v,xY] at h
  simp only [put]
  cases Nat.beq d m with
  | true=>simp only [vE,a7v,hx,h.2,wM,wR]
  | false=>simp only [vC,a7v,h.1,b4q h.2 hx,wR]
theorem b6i {n d:Nat} {x:a03}:∀{H:Heap},a0w n H=true→x.has n=false→a0w n (put d x H)=true
 | [],_,hx=>by simp [put,a0w,hx]
 | (m,y)::r,h,hx=>by
  simp only [a0w,xY] at h
  simp only [put]
  cases Nat.beq d m with
  | true=>simp only [vE,a0w,hx,h.2,wM,wR]
  | false=>simp only [vC,a0w,h.1,b6i h.2 hx,wR]
theorem b1r {n d:Nat}:∀{H:Heap},a0w n H=true→a0w n (del d H)=true
 | [],_=>rfl
 | (m,y)::r,h=>by
  simp only [a0w,xY] at h
  simp only [del]
  cases Nat.beq d m with
  | true=>exact b1r h.2
  | false=>simp only [vC,a0w,h.1,b1r h.2,wR]
theorem b4p {n:Nat}:∀{l:List Nat} {H:Heap},a0w n H=true→a0w n (c84 l H)=true
 | [],_,h=>h
 | d::r,_,h=>b4p (l:=r) (b1r h)
theorem b4o {n:Nat}:∀{l:List (Nat×a03)} {H:Heap},a0w n H=true→a0w n l=true→a0w n (puts l H)=true
 | [],_,h,_=>h
 | (d,o)::r,_,h,hl=>by
  simp only [a0w,xY,xO] at hl
  exact b4o (l:=r) (b6i h hl.1) hl.2
theorem c8a {c:Ctx} {σ:St} {e:Ent} {n:Nat} (h:Clean c σ n) (hm:∀f,e.eff=some f→f.val.has n=false∧a0w n f.new=true):Clean c (e.app σ) n:=by
 unfold Ent.app
 cases he:e.eff with
 | none =>
  refine ⟨h.1,?_,h.2.2⟩
  cases hd:e.dst with
  | none=>exact h.2.1
  | some d=>exact b4q h.2.1 rfl
 | some f =>
  obtain ⟨h1,h2⟩:=hm f he
  refine ⟨h.1,?_,b4o (b4p h.2.2) h2⟩
  cases hd:e.dst with
  | none=>exact h.2.1
  | some d=>exact b4q h.2.1 h1
theorem b6r {c:Ctx} {n:Nat} {E:Nat→Bool}:∀{es:List Ent} {i:Nat} {σ:St},Clean c σ n→(∀k e,es[k]?=some e→E (i+k)=true→∀f,e.eff=some f→f.val.has n=false∧a0w n f.new=true)→Clean c (fold E i es σ) n
 | [],_,_,h,_=>h
 | e::r,i,σ,h,hk=>by
  simp only [fold]
  refine b6r ?_ fun k e' he' hE=>hk (k+1) e' (by simpa using he') (by rw [show i+(k+1)=i+1+k from by omega];exact hE)
  have h0:=hk 0 e rfl
  rw [wY] at h0
  cases hE:E i with
  | true=>exact c8a h (h0 hE)
  | false=>exact h
theorem b4r:∀{a b:List Nat},b4s a b=true→a=b
 | [],[],_=>rfl
 | x::a,y::b,h=>by
  simp only [b4s,xY] at h
  rw [zR h.1,b4r h.2]
 | [],_::_,h=>by simp [b4s] at h
 | _::_,[],h=>by simp [b4s] at h
theorem c3b:∀{aft:List (List Nat)} {os:List Oper} {k:Nat} {o:Oper},b3r aft os=true→os[k]?=some o→∃a,aft[k]?=some a∧a=(o.after.toList.filter (Region.binds .any)).map (·.on)
 | [],[],k,o,_,h=>by simp at h
 | a::r,o'::s,0,o,h,ho=>by
  simp only [b3r,xY] at h
  simp at ho;subst ho
  exact ⟨a,rfl,b4r h.1⟩
 | a::r,o'::s,k+1,o,h,ho=>by
  simp only [b3r,xY] at h
  obtain ⟨b,h1,h2⟩:=c3b h.2 (k:=k) (by simpa using ho)
  exact ⟨b,by simpa using h1,h2⟩
 | [],_::_,_,_,h,_=>by simp [b3r] at h
 | _::_,[],_,_,h,_=>by simp [b3r] at h
theorem b0n {j:Nat}:∀{l:List Nat},below j l=true→∀n∈l,n<j
 | [],_,n,h=>by cases h
 | m::r,h,n,hn=>by
  simp only [below,xY] at h
  rcases wO.1 hn with rfl|hn
  ·exact b7y.1 h.1
  ·exact b0n h.2 n hn
theorem b6x {aft:List Nat} {anc:List (List Nat)}:∀{l:List Nat},b9p aft anc l=true→∀n∈l,n<1000000→n∈aft∨∃m∈aft,n∈anc.getD m []
 | [],_,n,h,_=>by cases h
 | m::r,h,n,hn,hlt=>by
  simp only [b9p,xY,wI,List.any_eq_true] at h
  rcases wO.1 hn with rfl|hn
  ·rcases h.1 with (h1|h1)|⟨m,h1,h2⟩
   ·exact absurd (zQ h1) (by omega)
   ·exact .inl (mem_iff.1 h1)
   ·exact .inr ⟨m,h1,mem_iff.1 h2⟩
  ·exact b6x h.2 n hn hlt
theorem a7i {all:List (List Nat)}:∀{j:Nat} {aft anc:List (List Nat)} {k:Nat} {a:List Nat},b0p all j aft anc=true→aft[k]?=some a→∃b,anc[k]?=some b∧below (j+k) a=true∧b9p a all b=true
 | j,[],[],k,a,_,h=>by simp at h
 | j,a0::aft,b0::anc,0,a,h,ha=>by
  simp only [b0p,xY] at h
  simp at ha;subst ha
  exact ⟨b0,rfl,h.1.1,h.1.2⟩
 | j,a0::aft,b0::anc,k+1,a,h,ha=>by
  simp only [b0p,xY] at h
  obtain ⟨b,h1,h2,h3⟩:=a7i h.2 (k:=k) (by simpa using ha)
  exact ⟨b,by simpa using h1,by rw [show j+(k+1)=j+1+k from by omega];exact h2,h3⟩
 | _,[],_::_,_,_,h,_=>by simp [b0p] at h
 | _,_::_,[],_,_,h,_=>by simp [b0p] at h
theorem b6w {all:List (List Nat)} {aft:List (List Nat)} {E:Nat→Bool} (hok:b0p all 0 aft all=true) (hE:∀k a,aft[k]?=some a→E k=true→∀x∈a,E x=true) :
  ∀(k:Nat) (a b:List Nat),aft[k]?=some a→all[k]?=some b→(∀x∈a,E x=true)→∀x∈b,x<1000000→E x=true:=by
 intro k
 induction k using Nat.strongRecOn with
 | _ k ih =>
  intro a b ha hb hall x hx hxl
  obtain ⟨b',h1,h2,h3⟩:=a7i hok ha
  rw [hb] at h1;cases h1
  rw [wU] at h2
  rcases b6x h3 x hx hxl with h|⟨m,h4,h5⟩
  ·exact hall x h
  ·have hm:=b0n h2 m h4
   cases hbm:all[m]? with
   | none=>rw [zE,hbm] at h5;simp at h5
   | some bm =>
    rw [zE,hbm] at h5
    have hmk:m<aft.length:=Nat.lt_trans hm (zG.1 ha).1
    exact ih m hm aft[m] bm (zJ hmk) hbm (hE m _ (zJ hmk) (hall m h4)) x h5 hxl
def a7a (E:Nat→Bool) (i:Nat):Nat→Bool:=fun k=>bif Nat.beq k i then true else E k
theorem a4x {E:Nat→Bool} {i:Nat}:a7a E i i=true:=by simp [a7a]
theorem a3d {E:Nat→Bool} {i k:Nat} (h:k≠i):a7a E i k=E k:=by
 have:Nat.beq k i=false:=by
  cases hb:Nat.beq k i with
  | true=>exact absurd (zR hb) h
  | false=>rfl
 simp [a7a,this]
theorem Rel.congr {P:Program} {c:Ctx} {g:Gh} {σ τ:St} {a:Act} {w:World} (h:Rel P c g σ a w) (he:∀s,find s τ.env=find s σ.env) (hh:∀s,find s τ.heap=find s σ.heap):Rel P c g τ a w :=
 h.sub (fun s x hx=>by rw [←he];exact hx) fun s o ho=>by rw [←hh];exact ho
theorem b04 {n:Nat}:∀{l:List Opd},Opd.t n∈l→n∈slotsOf l
 | .t m::r,h=>by
  rcases wO.1 h with h|h
  ·cases h;exact xA
  ·exact z3 _ (b04 h)
 | .c _::r,h=>by
  rcases wO.1 h with h|h
  ·cases h
  ·exact b04 (l:=r) h
 | .f _::r,h=>by
  rcases wO.1 h with h|h
  ·cases h
  ·exact b04 (l:=r) h
theorem d2n {env env':List (Nat×V)}:∀{l:List Opd},(∀n∈slotsOf l,find n env=find n env')→l.map (·.ev env)=l.map (·.ev env'):=by
 intro l h
 refine List.map_congr_left fun x hx=>?_
 cases x with
 | t n=>simp only [Opd.ev,a1d,h n (b04 hx)]
 | c v=>rfl
 | f n=>rfl
theorem b8p {P:Program} {nt:Nat} {ops:Array Oper}:∀{ms:List MOp} {os:List Oper} {k:Nat} {o:Oper},a15 P nt ops ms os=true→os[k]?=some o→∃m,ms[k]?=some m∧m.ok P nt ops o=true
 | [],[],k,o,_,h=>by simp at h
 | m::r,o'::s,0,o,h,ho=>by
  simp only [a15,xY] at h
  simp at ho;subst ho
  exact ⟨m,rfl,h.1⟩
 | m::r,o'::s,k+1,o,h,ho=>by
  simp only [a15,xY] at h
  obtain ⟨b,h1,h2⟩:=b8p h.2 (k:=k) (by simpa using ho)
  exact ⟨b,by simpa using h1,h2⟩
 | [],_::_,_,_,h,_=>by cases h
 | _::_,[],_,_,h,_=>by cases h
theorem b6k {P:Program} {nt:Nat} {ops:Array Oper}:∀{ms:List MOp} {l:List Oper},a15 P nt ops ms l=true→ms.length=l.length
 | [],[],_=>rfl
 | m::r,o::s,h=>by
  simp only [a15,xY] at h
  simp only [xU,b6k h.2]
 | [],_::_,h=>by cases h
 | _::_,[],h=>by cases h
section
variable {P:Program} {c:Ctx} {ops:Array Oper} {ms:List MOp} {es:List Ent} {aft anc:List (List Nat)} {σ0:St} {Q:Exit→Act→World→Prop}
structure Part (aft:List (List Nat)) (E:Nat→Bool) (i:Nat):Prop where
 down:∀k a,aft[k]?=some a→E k=true→∀x∈a,E x=true
 out:E i=false
 ready:∀a,aft[i]?=some a→∀x∈a,E x=true
structure b5k (anc:List (List Nat)) (es:List Ent) (l k:Nat) (x y:Ent):Prop where
 lt:l<k
 fst:es[l]?=some x
 snd:es[k]?=some y
 mark:∃a,anc[k]?=some a∧mem (1000000+l) a=true
 ok:late (es.drop (l+1)) x y=true
theorem b1m {E:Nat→Bool} {i:Nat} {e:Ent} (hanc:b0p anc 0 aft anc=true) (hchk:a3u c.H0 σ0 0 anc es=true) (hl:aft.length=es.length) (hp:Part aft E i) (hi:es[i]?=some e)
  {k:Nat} {e':Ent} (hk:es[k]?=some e') (hne:k≠i) (hE:E k≠decide (k<i)):b3m e e'∧e0x e' e.made∧((∀n,n∈e'.ids→n∉e.touch)∨b5k anc es i k e e'):=by
 have hil:i<aft.length:=by rw [hl];exact (zG.1 hi).1
 have hkl:k<aft.length:=by rw [hl];exact (zG.1 hk).1
 have hai:=zJ hil
 have hak:=zJ hkl
 obtain ⟨bi,hbi,_,_⟩:=a7i hanc hai
 obtain ⟨bk,hbk,_,_⟩:=a7i hanc hak
 by_cases hlt:k<i
 ·have hEk:E k=false:=by
   cases h:E k with
   | false=>rfl
   | true=>rw [h] at hE;simp [hlt] at hE
  have hno:(Nat.blt (0+k) 1000000&&mem (0+k) bi)=false:=by
   cases h:(Nat.blt (0+k) 1000000&&mem (0+k) bi) with
   | false=>rfl
   | true =>
    rw [xY] at h
    have:=b6w hanc hp.down i _ bi hai hbi (hp.ready _ hai) k (by simpa using mem_iff.1 h.2) (by have:=b7y.1 h.1;omega)
    rw [hEk] at this;cases this
  have:=b0k hchk hlt hbi hk hi
  rw [hno] at this
  simp only [b2u,wQ,xY,wI] at this
  refine ⟨?_,a9y this.1,.inl ?_⟩
  ·rcases this.2.1 with h|h
   ·exact (b0o h).a0.symm
   ·exact (a7d h.2).1.symm
  ·rcases this.2.1 with h|h
   ·exact (b0o h).it
   ·exact (a7d h.2).2.1
 ·have hEk:E k=true:=by
   cases h:E k with
   | true=>rfl
   | false=>rw [h] at hE;simp [hlt] at hE
  have hik:i<k:=by omega
  have hno:(Nat.blt (0+i) 1000000&&mem (0+i) bk)=false:=by
   cases h:(Nat.blt (0+i) 1000000&&mem (0+i) bk) with
   | false=>rfl
   | true =>
    rw [xY] at h
    have:=b6w hanc hp.down k _ bk hak hbk (hp.down k _ hak hEk) i (by simpa using mem_iff.1 h.2) (by have:=b7y.1 h.1;omega)
    rw [hp.out] at this;cases this
  have:=b0k hchk hik hbk hi hk
  rw [hno] at this
  simp only [b2u,wQ,xY,wI] at this
  refine ⟨?_,a9y this.2.2,?_⟩
  ·rcases this.2.1 with h|h
   ·exact (b0o h).a0
   ·exact (a7d h.2).1
  ·rcases this.2.1 with h|h
   ·exact .inl (b0o h).ti
   ·exact .inr ⟨hik,hi,hk,⟨bk,hbk,by rw [←h.1,wU]⟩,h.2⟩
theorem c45 {E:Nat→Bool} {i:Nat} {e:Ent} (hanc:b0p anc 0 aft anc=true) (hchk:a3u c.H0 σ0 0 anc es=true) (hl:aft.length=es.length) (hp:Part aft E i) (hi:es[i]?=some e)
  {k:Nat} {e':Ent} (hk:es[k]?=some e') (hE:E k=true):e0x e' e.made:=by
 have hne:k≠i:=fun h=>by rw [h,hp.out] at hE;cases hE
 by_cases hlt:k<i
 ·have hil:i<aft.length:=by rw [hl];exact (zG.1 hi).1
  obtain ⟨bi,hbi,_,_⟩:=a7i hanc (zJ hil)
  have:=b0k hchk hlt hbi hk hi
  simp only [b2u,xY] at this
  exact a9y this.1
 ·exact (b1m hanc hchk hl hp hi hk hne (by rw [hE];simp [hlt])).2.1
def c9x (H:Heap) (g:Gh) (w:World) (id k:Nat) (xs:List V) (d:Nat):Prop :=
 xs=[]∨∃(cur:Array Value) (e:TypeId) (fz:Nat×Nat),w.heap[g.ρ id]?=some (.cells cur e fz)∧(∀i x,xs[i]?=some x→(g.base id+i)*k+x.cells.length≤cur.size) ∧
  (∀(i j:Nat) (x y:V),xs[i]?=some x→x.cells[j]?=some y→Rd g.S w (cur.getD ((g.base id+i)*k+j) undef) y)∧(g.S (g.ρ id)∨((∃o,find d H=some o)∧¬g.nil d∧g.ρ d=g.ρ id))
theorem c9x.congr {H H':Heap} {g:Gh} {w:World} {id k d:Nat} {xs:List V} (h:c9x H g w id k xs d) (he:find d H'=find d H):c9x H' g w id k xs d:=by
 rcases h with h|⟨cur,e,fz,h1,h2,h3,h4⟩
 ·exact .inl h
 ·exact .inr ⟨cur,e,fz,h1,h2,h3,h4.imp (fun h=>h) fun h=>⟨by rw [he];exact h.1,h.2⟩⟩
theorem c9x.step {H:Heap} {g g':Gh} {w w':World} {id k d:Nat} {xs:List V} {f:Eff} (h:c9x H g w id k xs d) (hH:a2o P g w H) (hs:q9 g H w f g' w') (hi:id∉f.ids) (hd:d∉f.ids):c9x (f.heap H) g' w' id k xs d:=by
 have hkeep:a1l g.S w w':=fun b hb=>hs.keep b (hH.lt b hb) fun id o _ ho hn=>not_or.1 fun he=>hH.owS ho hn he hb
 have nn:∀{n},n∉f.ids→∀o,(n,o)∉f.new:=fun hn o ho=>hn (by simp only [Eff.ids,wC,wZ];exact .inr ⟨_,ho,rfl⟩)
 rcases h with h|⟨cur,e,fz,h1,h2,h3,h4⟩
 ·exact .inl h
 ·obtain ⟨a1,a2,a3,a4⟩:=hs.agree id (nn hi)
  obtain ⟨b1,b2,b3,b4⟩:=hs.agree d (nn hd)
  refine .inr ⟨cur,e,fz,?_,fun i x hx=>by rw [a2];exact h2 i x hx,fun i j x y hx hy=>by rw [a2];exact (h3 i j x y hx hy).mono hkeep hs.sup,?_⟩
  ·rw [a1]
   rcases h4 with h4|⟨⟨o,h5⟩,h6,h7⟩
   ·exact (hkeep _ h4).trans h1
   ·refine (hs.keep _ (zF.1 h1).1 fun id0 o0 hid0 ho0 hn0=>not_or.1 fun he=>?_).trans h1
    exact hd (hH.ow ho0 h5 hn0 h6 he (.inl h7)▸hid0)
  ·rw [a1,b1]
   rcases h4 with h4|⟨h5,h6,h7⟩
   ·exact .inl (hs.sup _ h4)
   ·exact .inr ⟨by rw [Eff.find_other hd];exact h5,fun h=>h6 (b4.1 h),h7⟩
theorem c9y.w {g g':Gh} {w':World} {H:Heap} {id k d:Nat} {xs:List V} (h:c9y g g' w' id k xs d) (ha:g.agree g' id) (hd:∃o,find d H=some o):c9x H g' w' id k xs d:=by
 obtain ⟨a1,a2,a3,a4⟩:=ha
 rcases h with h|⟨cur,e,fz,h1,h2,h3,h4⟩
 ·exact .inl h
 ·refine .inr ⟨cur,e,fz,by rw [a1];exact h1,by rw [a2];exact h2,by rw [a2];exact h3,?_⟩
  rw [a1]
  exact h4.imp (fun h=>h) fun h=>⟨hd,h⟩
theorem f3u {o:Oper} {g:Gh} {σ:St} {a:Act} {w:World} {K L:Eff→Prop} {K':Act→World→Prop} {Q':Exit→Act→World→Prop} {n:Option Nat} {x:Opd} (hok:(y7.ld n x).ok P o.op=true) (hR:Rel P c g σ a w) {H:Heap} {id k i off d:Nat} {xs:List V} {q:V} (hx:x.ev σ.env=.optr id k i off)
  (hp:c9x H g w id k xs d) (hq:xs[i]?=some q) (h:part n off q.cells (fun r=>K (evl r))) (hF:Fin o c g σ a w K L K'):o.wp P a w K' Q':=by
 have:∃t y,o.op=.load t y∧x.ok y=true∧b89 P t=some n:=by
  cases ho:o.op<;>rw [ho] at hok<;>try (simp [y7.ok] at hok;done)
  simp [y7.ok] at hok
  exact ⟨_,_,rfl,hok.1,hok.2⟩
 obtain ⟨t,y,ho,hx',ht⟩:=this
 have vx:=Opd.vr hR hx'
 rw [hx] at vx
 rcases hp with hp|⟨cur,e,fz,h1,h2,h3,h4⟩
 ·rw [hp] at hq;simp at hq
 ·obtain ⟨v,x'',hrun,hk,hv'⟩:=a1p (P:=P) (g:=g) (w:=w) ht (o':=(g.base id+i)*k) (off:=off) h1 (cs:=q.cells) (h2 i q hq) (fun j y hj=>.rd (h3 i j q y hq hj)) h
  exact z8 hR hF (by simp [execOp,ho,Instr.loadAt,vx.optr_inv,Instr.sureAddr,hrun]) (.inl hk) hv'
def b9s (anc:List (List Nat)) (es:List Ent) (σ0:St) (E:Nat→Bool) (g:Gh) (w:World):Prop :=
 ∀l k x y,b5k anc es l k x y→E l=false→E k=true→∀v id d o,y.eff=some ⟨v,[id],[(d,o)]⟩→∀kk xs t,find id (fold (fun j=>decide (j<k)) 0 es σ0).heap=some (.arr kk xs t)→c9x (fold E 0 es σ0).heap g w id kk xs d
theorem d4h {k bytes d:Nat} {ty:Option TypeId} {x y:V} {ob:Nat→Option a03} {v:V} {id d':Nat} {o:a03} (h:c1u k bytes d ty x y ob (fun u=>u=⟨v,[id],[(d',o)]⟩)) :
  d'=d∧∃lo n xs t0,x=.osl id k lo n∧ob id=some (.arr k xs t0):=by
 unfold c1u at h
 split at h
 ·obtain ⟨_,h⟩:=h
  split at h
  ·obtain ⟨_,h⟩:=h;simp at h
  ·split at h
   ·rename_i id' k' lo n _ k'' xs t0 hob
    by_cases hb:(Nat.beq k k'&&Nat.beq k k'')=true
    case neg=>simp [hb] at h
    simp only [hb,vE] at h
    simp only [xY] at hb
    have q1:=zR hb.1;subst q1
    have q2:=zR hb.2;subst q2
    obtain ⟨_,h⟩:=h
    simp only [Eff.mk.injEq,wG,Prod.mk.injEq,and_true] at h
    obtain ⟨_,h1,h2,_⟩:=h
    subst h1;subst h2
    exact ⟨rfl,_,_,_,_,rfl,hob⟩
   ·exact h.elim
  ·exact h.elim
 ·exact h.elim
theorem d05 {E:Nat→Bool} {i:Nat} {o:Oper} {m:MOp} {e:Ent} {g:Gh} {a:Act} {w:World} {K':Act→World→Prop} (hlate:b05 ms ms anc=true) (hevs:Evs P c.H0 ms es σ0) (hms:ms[i]?=some m) (hanc:b0p anc 0 aft anc=true) (hchk:a3u c.H0 σ0 0 anc es=true) (hl:aft.length=es.length)
  (hp:Part aft E i) (ho:ops[i]?=some o) (hm:m.ok P c.nt ops o=true) (hi:es[i]?=some e) (hev:Ev P c.H0 m e (fold (fun j=>decide (j<i)) 0 es σ0)) (hR:Rel P c g (fold E 0 es σ0) a w) (hP:b9s anc es σ0 E g w)
  (hK:∀g' a' w',Rel P c g' (fold (a7a E i) 0 es σ0) a' w'→b9s anc es σ0 (a7a E i) g' w'→K' a' w'):wpOp P ops Q i K' a w:=by
 have hm':=hm
 simp only [MOp.ok,xY] at hm'
 obtain ⟨⟨hins,h2⟩,h3⟩:=hm'
 obtain ⟨hdd,hlt⟩:=b0i h2
 obtain ⟨hdst,hev⟩:=hev
 have apt:∀{k:Nat} {e':Ent},es[k]?=some e'→k≠i→E k≠decide (k<i)→b3m e e':=fun hk hne hE=>(b1m hanc hchk hl hp hi hk hne hE).1
 have henv:∀s∈e.uses,find s (fold E 0 es σ0).env=find s (fold (fun j=>decide (j<i)) 0 es σ0).env:=fun s hs=>b44 rfl fun k e' hk hne hd=>by
  rw [wU] at hne
  by_cases hki:k=i
  ·subst hki;rw [hp.out] at hne;simp at hne
  ·exact (apt hk hki hne).ud s hd hs
 have hheap:∀n∈e.touch,find n (fold E 0 es σ0).heap=find n (fold (fun j=>decide (j<i)) 0 es σ0).heap∨∃k e',n∈e'.ids∧E k=true∧b5k anc es i k e e':=fun n hn=>by
  by_cases hx:∃k e',n∈e'.ids∧E k=true∧b5k anc es i k e e'
  ·exact .inr hx
  ·refine .inl (a81 rfl fun k e' hk hne hd=>?_)
   rw [wU] at hne
   by_cases hki:k=i
   ·subst hki;rw [hp.out] at hne;simp at hne
   ·rcases (b1m hanc hchk hl hp hi hk hki hne).2.2 with h|h
    ·exact h n hd hn
    ·refine hx ⟨k,e',hd,?_,h⟩
     have:=h.lt
     cases hE:E k with
     | true=>rfl
     | false=>rw [hE] at hne;simp at hne;omega
 have later:∀k e',es[k]?=some e'→i<k→a7a E i (0+k)=true→b3m e e':=fun k e' hk hik hE=>by
  rw [wU,a3d (by omega)] at hE
  exact apt hk (by omega) (by rw [hE];simp;omega)
 have hsameE:∀s,find s (fold (a7a E i) 0 es σ0).env=find s (e.app (fold E 0 es σ0)).env:=fun s=>by
  by_cases hd:e.dst=some s
  ·rw [b0b (τ:=fold E 0 es σ0) hi (by rw [wU];exact a4x) hd fun k e' hk hik hE=>(later k e' hk hik hE).dd s hd]
  ·rw [a9j,if_neg hd]
   refine b44 rfl fun k e' hk hne hd'=>?_
   rw [wU] at hne
   by_cases hki:k=i
   ·subst hki;rw [hi] at hk;cases hk;exact hd hd'
   ·rw [a3d hki] at hne;exact hne rfl
 have hsameH:∀n,find n (fold (a7a E i) 0 es σ0).heap=find n (e.app (fold E 0 es σ0)).heap:=fun n=>by
  by_cases hd:n∈e.ids
  ·rw [a8x (τ:=fold E 0 es σ0) hi (by rw [wU];exact a4x) hd fun k e' hk hik hE=>(later k e' hk hik hE).ii n hd]
  ·rw [a2y hd]
   refine a81 rfl fun k e' hk hne hd'=>?_
   rw [wU] at hne
   by_cases hki:k=i
   ·subst hki;rw [hi] at hk;cases hk;exact hd hd'
   ·rw [a3d hki] at hne;exact hne rfl
 have one:∀{g':Gh} {a':Act} {w':World},Rel P c g' (e.app (fold E 0 es σ0)) a' w'→Rel P c g' (fold (a7a E i) 0 es σ0) a' w':=fun hr=>hr.congr hsameE hsameH
 have away:∀{l k:Nat} {x y:Ent},b5k anc es l k x y→k≠i→E l=false→l≠i→E k=true→∀v id d o,y.eff=some ⟨v,[id],[(d,o)]⟩→id∉e.ids∧d∉e.ids:=fun {l k x y} hla hki hEl hli hEk v id d o hy=>by
  have hyid:id∈y.ids∧d∈y.ids:=by simp [Ent.ids,hy,Eff.ids]
  by_cases hlt:i<k
  ·have h0:=apt hla.snd (by omega) (by rw [hEk];simp;omega)
   exact ⟨fun h=>h0.ii _ h hyid.1,fun h=>h0.ii _ h hyid.2⟩
  ·obtain ⟨_,_,v',id',d',o',hy',_,hlone,_⟩:=a7d hla.ok
   rw [hy] at hy';cases hy'
   have hlk:=hla.lt
   have hik:k<i:=by omega
   have e1:(es.drop (l+1))[k - (l+1)]?=some y:=by rw [xD,show l+1+(k - (l+1))=k from by omega];exact hla.snd
   have e2:(es.drop (l+1))[i - (l+1)]?=some e:=by rw [xD,show l+1+(i - (l+1))=i from by omega];exact hi
   have no:¬(id∈e.ids∨d∈e.ids):=fun h=>by
    have:=b4u hlone e1 e2 (.inl hyid.1) h
    omega
   exact ⟨fun h=>no (.inl h),fun h=>no (.inr h)⟩
 have keepP:∀{f:Eff} {g':Gh} {w':World},e.eff=some f→q9 g (fold E 0 es σ0).heap w f g' w'→∀l k x y,b5k anc es l k x y→k≠i→a7a E i l=false→a7a E i k=true→∀v id d o,y.eff=some ⟨v,[id],[(d,o)]⟩→∀kk xs t,find id (fold (fun j=>decide (j<k)) 0 es σ0).heap=some (.arr kk xs t) →
   c9x (fold (a7a E i) 0 es σ0).heap g' w' id kk xs d:=fun {f g' w'} hf hs l k x y hla hki hEl hEk v id d o hy kk xs t hfd=>by
  have hli:l≠i:=fun h=>by subst h;rw [a4x] at hEl;cases hEl
  rw [a3d hli] at hEl
  rw [a3d hki] at hEk
  have ids:e.ids=f.ids:=by simp [Ent.ids,hf]
  obtain ⟨h1,h2⟩:=away hla hki hEl hli hEk v id d o hy
  rw [ids] at h1 h2
  refine ((hP l k x y hla hEl hEk v id d o hy kk xs t hfd).step hR.hp hs h1 h2).congr ?_
  rw [hsameH]
  unfold Ent.app
  rw [hf]
  rfl
 have idle:e.eff=none→b9s anc es σ0 (a7a E i) g w:=fun hn l k x y hla hEl hEk v id d o hy kk xs t hfd=>by
  have hli:l≠i:=fun h=>by subst h;rw [a4x] at hEl;cases hEl
  have hki:k≠i:=fun h=>by
   subst h
   have:=hla.snd
   rw [hi] at this;cases this
   rw [hn] at hy;cases hy
  rw [a3d hli] at hEl
  rw [a3d hki] at hEk
  refine (hP l k x y hla hEl hEk v id d o hy kk xs t hfd).congr ?_
  rw [hsameH,a2y (by simp [Ent.ids,hn])]
 have ran:∀gs,Ran P c.H0 m e (fold (fun j=>decide (j<i)) 0 es σ0) gs→o.wp P a w K' Q:=by
  rintro gs ⟨f,k1,k2,k3,k4,k5⟩
  have hvals:m.ins.opds.map (·.ev (fold E 0 es σ0).env)=m.ins.opds.map (·.ev (fold (fun j=>decide (j<i)) 0 es σ0).env):=d2n fun n hn=>henv n (by rw [k3];exact zT _ hn)
  have fin0:∀{g':Gh} {v:Value} {w':World},q9 g (fold E 0 es σ0).heap w f g' w'→a0l c.H0 g g' (fold E 0 es σ0) f→VR g' w' v f.val→b9s anc es σ0 (a7a E i) g' w'→K' (a.put o.dst v) w':=fun {g' v w'} hs hf hv hpin=>by
   refine hK g' _ w' (one ?_) hpin
   have:e.app (fold E 0 es σ0)=(fold E 0 es σ0).app m.dst f:=by unfold Ent.app;rw [k1,hdst]
   rw [this,←hdd]
   exact hR.step hlt hs hf hv
  by_cases hsp:∃n k e',n∈e.touch∧n∈e'.ids∧E k=true∧b5k anc es i k e e'
  · -- a load behind the append that consumes its row
   obtain ⟨n,k,y,hn,hny,hEk,hla⟩:=hsp
   obtain ⟨q,hq1,hq2⟩:=hla.mark
   have hkl:k<ms.length:=by rw [←c0z hevs];exact (zG.1 hla.snd).1
   obtain ⟨happ,ml,hml,hld⟩:=b4z (all:=ms) (l:=i) hlate hq1 (zJ hkl) hq2
   rw [hms] at hml;cases hml
   obtain ⟨_,_,v,id,d,ob',hy,hdt,hlone,_⟩:=a7d hla.ok
   have hyids:y.ids=[id,d]:=by simp [Ent.ids,hy,Eff.ids]
   have hnid:n=id:=by
    rw [hyids] at hny
    rcases wO.1 hny with h|h
    ·exact h
    ·exact absurd (by rw [z9.1 h] at hn;exact hn) hdt
   subst hnid
   have hevk:=c81 (i:=0) (k:=k) hevs (zJ hkl) hla.snd
   rw [wU] at hevk
   obtain ⟨_,hevk⟩:=hevk
   have hrk:∃gs,Ran P c.H0 ms[k] y (fold (fun j=>decide (j<k)) 0 es σ0) gs:=by
    rcases hevk with ⟨_,hr⟩|⟨s,want,b,_,_,_,⟨_,hr⟩|⟨_,hr⟩⟩|⟨s,want,_,_,_,hr⟩
    ·exact ⟨_,hr⟩
    ·exact ⟨_,hr⟩
    ·rw [hy] at hr;cases hr
    ·rw [hy] at hr;cases hr
   obtain ⟨gs',f',r1,r2,r3,r4,r5⟩:=hrk
   rw [hy] at r1;cases r1
   cases hik:ms[k].ins<;>rw [hik] at happ<;>try (cases happ;done)
   rename_i ka by' xa ya tya
   rw [hik] at r2
   obtain ⟨_,lo,nn,xs,t0,hxa,hob⟩:=d4h r2
   have hob':find n (fold (fun j=>decide (j<k)) 0 es σ0).heap=some (.arr ka xs t0):=hob
   cases hil:m.ins<;>rw [hil] at hld<;>try (cases hld;done)
   rename_i nl al
   rw [hil] at k2 k4 hins hvals
   have hf0:f.ids=[]:=by
    obtain ⟨r,hr1,hr2⟩:=d3z (K:=fun r=>evl r=f) (L:=fun r=>evl r=f) k2
    have:evl r=f:=hr1.elim id id
    rw [←this];rfl
   have heids:e.ids=[]:=by simp [Ent.ids,k1,hf0]
   have hsame:find n (fold (fun j=>decide (j<i)) 0 es σ0).heap=find n (fold (fun j=>decide (j<k)) 0 es σ0).heap:=a81 rfl fun q e' hqe hne hd=>by
    rw [wU] at hne
    have hik':=hla.lt
    have hq1:i≤q∧q<k:=by
     by_cases h1:q<i<;>by_cases h2:q<k<;>simp [h1,h2] at hne<;>omega
    by_cases hqi:q=i
    ·subst hqi;rw [hi] at hqe;cases hqe;rw [heids] at hd;cases hd
    ·have e1:(es.drop (i+1))[k - (i+1)]?=some y:=by rw [xD,show i+1+(k - (i+1))=k from by omega];exact hla.snd
     have e2:(es.drop (i+1))[q - (i+1)]?=some e':=by rw [xD,show i+1+(q - (i+1))=q from by omega];exact hqe
     have:=b4u hlone e1 e2 (.inl (by rw [hyids];exact xA)) (.inl hd)
     omega
   have hobi:c48 (fold (fun j=>decide (j<i)) 0 es σ0).heap n=some (.arr ka xs t0):=hsame.trans hob'
   have hvals':al.ev (fold E 0 es σ0).env=al.ev (fold (fun j=>decide (j<i)) 0 es σ0).env:=by simpa [y7.opds] using hvals
   rw [k4] at hn
   simp only [y7.opds,wP,w4,y7.touch] at hn k2
   have k2:sLd nl (al.ev (fold (fun j=>decide (j<i)) 0 es σ0).env) (c48 (fold (fun j=>decide (j<i)) 0 es σ0).heap) (fun r=>evl r=f) (fun r=>evl r=f):=k2
   cases hal:al.ev (fold (fun j=>decide (j<i)) 0 es σ0).env<;>rw [hal] at hn k2<;>try (exact (List.not_mem_nil hn).elim)
   case ptr id0 off =>
    simp only [vid,z9] at hn;subst hn
    simp only [sLd,hobi] at k2
   case osl id0 _ _ _=>exact k2.elim
   case omap id0=>exact k2.elim
   case bptr id0=>exact k2.elim
   case optr id0 k0 i0 off =>
    simp only [vid,z9] at hn;subst hn
    simp only [sLd,hobi] at k2
    by_cases hkk:Nat.beq k0 ka=true
    case neg=>simp [hkk] at k2
    simp only [hkk,vE] at k2
    have:=zR hkk;subst this
    obtain ⟨q,hq,hpt⟩:=k2
    have pin:=hP i k e y hla hp.out hEk v n d ob' hy k0 xs t0 hob'
    refine f3u hins hR (by rw [hvals'];exact hal) pin hq (K:=fun u=>u=f) (L:=fun u=>u=f) hpt fun eff he g' v' w' hs hf hv=>?_
    have he':eff=f:=he.elim id id
    subst he'
    refine fin0 hs hf hv fun l k' x' y' hla' hEl hEk'=>?_
    by_cases hki:k'=i
    ·exfalso
     subst hki
     have:=hla'.snd
     rw [hi] at this;cases this
     obtain ⟨_,_,_,_,_,_,hy2,_,_⟩:=a7d hla'.ok
     have:e.ids≠[]:=by simp [Ent.ids,hy2,Eff.ids]
     exact this heids
    ·exact keepP k1 hs l k' x' y' hla' hki hEl hEk'
  ·have hheap:∀n∈e.touch,find n (fold E 0 es σ0).heap=find n (fold (fun j=>decide (j<i)) 0 es σ0).heap:=fun n hn=>(hheap n hn).elim id fun ⟨k,e',h1,h2,h3⟩=>absurd ⟨n,k,e',hn,h1,h2,h3⟩ hsp
   rw [←hvals] at k2
   have k2':=d06 (ob':=c48 (fold E 0 es σ0).heap) (fun id hid=>(by
    have:=hheap id (by rw [k4,←hvals];exact hid)
    unfold c48;exact this.symm)) k2
   have hcl:∀n∈m.ins.creates m.d,Clean c (fold E 0 es σ0) n:=fun n hn=>by
    rw [←k5] at hn
    exact b6r (b3c hchk hi n hn) fun k e' hk hE f' hf'=>by
     rw [wU] at hE
     exact c45 hanc hchk hl hp hi hk hE n hn f' hf'
   by_cases happ:m.ins.isApp=true
   · -- an append: its row can still be read
    cases hia:m.ins<;>rw [hia] at happ<;>try (cases happ;done)
    rename_i ka by' xa ya tya
    rw [hia] at hins k2' hcl k4 hvals
    refine d3x (K:=fun u=>u=f) (L:=fun u=>u=f) (d:=m.d) hins hR (fun id o h=>h) (hcl m.d (by simp [y7.creates])) k2' fun eff he g' v w' hs hf hv hpa=>?_
    have he':eff=f:=he
    subst he'
    refine fin0 hs hf hv fun l k x y hla hEl hEk v0 id d o0 hy kk xs t hfd=>?_
    by_cases hki:k=i
    ·subst hki
     have:=hla.snd
     rw [hi] at this;cases this
     rw [hy] at k1;cases k1
     have k2'':c1u ka by' m.d tya (xa.ev (fold E 0 es σ0).env) (ya.ev (fold E 0 es σ0).env) (c48 (fold E 0 es σ0).heap) (fun u=>u=⟨v0,[id],[(d,o0)]⟩):=k2'
     obtain ⟨hd,lo,n,xs',t0,hxa,hob⟩:=d4h k2''
     subst hd
     have hid:id∈e.touch:=by
      rw [k4,←hvals]
      simp [y7.opds,y7.touch,hxa,vid]
     have h8:=hheap id hid
     have h9:find id (fold E 0 es σ0).heap=_:=hob
     rw [h8,hfd] at h9
     cases h9
     have h7:=hpa id ka lo n ka xs t hxa hob
     have hne:id≠m.d:=by
      obtain ⟨_,_,_,_,_,_,hy2,_,_,hne⟩:=a7d hla.ok
      rw [hy] at hy2;cases hy2;exact hne
     refine h7.w (hs.agree id fun o' ho'=>?_) ?_
     ·simp at ho';exact hne ho'.1
     ·rw [hsameH]
      unfold Ent.app
      rw [hy]
      exact ⟨o0,by simp [St.app,Eff.heap,puts,a0i]⟩
    ·exact keepP k1 hs l k x y hla hki hEl hEk v0 id d o0 hy kk xs t hfd
   ·refine b8v m.ins (d:=m.d) hins hR (fun id o h=>h) hcl k2' fun eff he g' v w' hs hf hv=>?_
    have he':eff=f:=he.elim id id
    subst he'
    refine fin0 hs hf hv fun l k x y hla hEl hEk=>?_
    by_cases hki:k=i
    ·exfalso
     subst hki
     obtain ⟨q,hq1,hq2⟩:=hla.mark
     exact happ (b4z (all:=ms) (l:=l) hlate hq1 hms hq2).1
    ·exact keepP k1 hs l k x y hla hki hEl hEk
 simp only [wpOp,ho]
 rcases hev with ⟨hg,hr⟩|⟨s,want,b,hg,hb,hsu,hr⟩|⟨s,want,hg,hb,hsu,hr⟩
 ·rw [hg] at h3
  simp only [b1v h3,if_true]
  exact .inl (ran _ hr)
 ·rw [hg] at h3
  have hb':get s (fold E 0 es σ0).env=.bool b:=by rw [a1d,henv s hsu,←a1d];exact hb
  rw [a7z h3 hR hb']
  rcases hr with ⟨rfl,hr⟩|⟨hbn,hr⟩
  ·have hw:c9p b b=true:=by cases b<;>rfl
   simp only [hw,if_true]
   exact .inl (ran _ hr)
  ·have hw:c9p b want=false:=by rw [hbn];cases want<;>rfl
   simp only [hw,xF,if_false]
   refine hK g _ w (one ?_) (idle hr)
   have:e.app (fold E 0 es σ0)=⟨a7h m.dst (fold E 0 es σ0).env,(fold E 0 es σ0).heap⟩:=by unfold Ent.app;rw [hr,hdst]
   rw [this,←hdd]
   exact hR.undef' hlt
 ·rw [hg] at h3
  have hb':get s (fold E 0 es σ0).env=.tup []:=by rw [a1d,henv s hsu,←a1d];exact hb
  rw [b55 h3 hR hb']
  simp only [xF,if_false]
  refine hK g _ w (one ?_) (idle hr)
  have:e.app (fold E 0 es σ0)=⟨a7h m.dst (fold E 0 es σ0).env,(fold E 0 es σ0).heap⟩:=by unfold Ent.app;rw [hr,hdst]
  rw [this,←hdd]
  exact hR.undef' hlt
theorem c8t (hlate:b05 ms ms anc=true) (hok:a15 P c.nt ops ms ops.toList=true) (haft:b3r aft ops.toList=true) (hanc:b0p anc 0 aft anc=true) (hchk:a3u c.H0 σ0 0 anc es=true) (hevs:Evs P c.H0 ms es σ0)
  (hK:∀g a w,Rel P c g (b61 es σ0) a w→Q .normal a w):∀(fuel:Nat) (E:Nat→Bool) (listed:Array Bool) (g:Gh) (a:Act) (w:World),listed.size=ops.size→(∀i,i<ops.size→listed.getD i true=E i∧listed.getD i false=E i) →
   (∀k a,aft[k]?=some a→E k=true→∀x∈a,E x=true)→((List.range ops.size).filter fun i=>!E i).length≤fuel→Rel P c g (fold E 0 es σ0) a w→b9s anc es σ0 E g w→wpAny P .any ops Q fuel listed a w:=by
 have hml:ms.length=ops.size:=by rw [b6k hok,z6]
 have hel:es.length=ops.size:=by rw [c0z hevs,hml]
 have hat:∀{i:Nat} {o:Oper},ops[i]?=some o→∃b,aft[i]?=some b∧b=(o.after.toList.filter (Region.binds .any)).map (·.on):=fun ho=>c3b haft (by rw [zU];exact ho)
 have hal:aft.length=ops.size:=by
  have:∀{aft:List (List Nat)} {os:List Oper},b3r aft os=true→aft.length=os.length:=by
   intro aft
   induction aft with
   | nil=>intro os h;cases os with|nil=>rfl|cons _ _=>cases h
   | cons a r ih =>
    intro os h
    cases os with
    | nil=>cases h
    | cons o s=>simp only [b3r,xY] at h;simp only [xU,ih h.2]
  rw [this haft,z6]
 have done:∀(E:Nat→Bool) (listed:Array Bool),(∀i,i<ops.size→listed.getD i true=E i∧listed.getD i false=E i)→Region.ready .any ops listed=[]→∀i,i<ops.size→E i=true:=by
  intro E listed hls hr i
  induction i using Nat.strongRecOn with
  | _ i ih =>
   intro hi
   cases hE:E i with
   | true=>rfl
   | false =>
    exfalso
    have ho:ops[i]?=some ops[i]:=zI hi
    have:i∈Region.ready .any ops listed:=by
     rw [mem_ready]
     refine ⟨by rw [(hls i hi).1];exact hE,ops[i],ho,fun ed hed hb=>?_⟩
     obtain ⟨b,hb1,hb2⟩:=hat ho
     obtain ⟨_,_,hbel,_⟩:=a7i hanc hb1
     have hmem:ed.on∈b:=by rw [hb2];exact wZ.2 ⟨ed,wB.2 ⟨by simpa using hed,hb⟩,rfl⟩
     have hlt:=b0n hbel _ hmem
     rw [wU] at hlt
     rw [(hls ed.on (by omega)).2]
     exact ih ed.on hlt (by omega)
    rw [hr] at this;cases this
 have fin:∀(E:Nat→Bool) (listed:Array Bool) g a w,(∀i,i<ops.size→listed.getD i true=E i∧listed.getD i false=E i)→Rel P c g (fold E 0 es σ0) a w→Region.ready .any ops listed=[]→Q .normal a w:=fun E listed g a w hls hR hr=>by
  have hall:=done E listed hls hr
  rw [c2n fun k hk=>by rw [wU];exact hall k (by omega)] at hR
  exact hK g a w hR
 intro fuel
 induction fuel with
 | zero =>
  intro E listed g a w hsz hls hdown hcard hR hP
  have hr:Region.ready .any ops listed=[]:=by
   cases hrr:Region.ready .any ops listed with
   | nil=>rfl
   | cons i r =>
    exfalso
    have hmem:i∈Region.ready .any ops listed:=by rw [hrr];exact xA
    obtain ⟨h1,o,ho,_⟩:=mem_ready.1 hmem
    have hi:=(zF.1 ho).1
    rw [(hls i hi).1] at h1
    have:i∈(List.range ops.size).filter fun i=>!E i:=wB.2 ⟨List.mem_range.2 hi,by simp [h1]⟩
    rw [zB (Nat.le_zero.1 hcard)] at this
    cases this
  exact ⟨hr,fin E listed g a w hls hR hr⟩
 | succ fuel ih =>
  intro E listed g a w hsz hls hdown hcard hR hP
  refine ⟨fun hr=>fin E listed g a w hls hR hr,fun i hmem=>?_⟩
  obtain ⟨h1,o,ho,hedges⟩:=mem_ready.1 hmem
  have hi:=(zF.1 ho).1
  rw [(hls i hi).1] at h1
  obtain ⟨m,hms,hmok⟩:=b8p hok (by rw [zU];exact ho)
  have hie:es[i]?=some es[i]:=zJ (by omega)
  obtain ⟨b,hb1,hb2⟩:=hat ho
  obtain ⟨_,_,hbel,_⟩:=a7i hanc hb1
  have hbE:∀x∈b,E x=true:=fun x hx=>by
   have hlt:=b0n hbel _ hx
   rw [wU] at hlt
   rw [hb2] at hx
   obtain ⟨ed,hed,rfl⟩:=wZ.1 hx
   obtain ⟨hed1,hed2⟩:=wB.1 hed
   rw [←(hls ed.on (by omega)).2]
   exact hedges ed (by simpa using hed1) hed2
  have hp:Part aft E i:=⟨hdown,h1,fun a' ha'=>by rw [hb1] at ha';cases ha';exact hbE⟩
  have hev:=c81 (i:=0) (k:=i) hevs hms hie
  rw [wU] at hev
  refine d05 hlate hevs hms hanc hchk (by omega) hp ho hmok hie hev hR hP fun g' a' w' hR' hP'=>?_
  refine ih (a7a E i) _ g' a' w' (by simpa using hsz) (fun k hk=>?_) (fun k a' ha' hE x hx=>?_) ?_ hR' hP'
  ·by_cases hki:k=i
   ·subst hki
    rw [a4x]
    have:k<listed.size:=by omega
    simp [this]
   ·rw [a3d hki,getD_set_ne true (Ne.symm hki),getD_set_ne false (Ne.symm hki)]
    exact hls k hk
  ·by_cases hki:k=i
   ·subst hki
    rw [hb1] at ha';cases ha'
    have hne:x≠k:=fun h=>by have:=hbE x hx;rw [h,h1] at this;cases this
    rw [a3d hne];exact hbE x hx
   ·rw [a3d hki] at hE
    have:=hdown k a' ha' hE x hx
    by_cases hxi:x=i
    ·rw [hxi];exact a4x
    ·rw [a3d hxi];exact this
  ·have hlt:((List.range ops.size).filter fun k=>!a7a E i k).length<((List.range ops.size).filter fun k=>!E k).length:=by
    have hsub:((List.range ops.size).filter fun k=>!a7a E i k)=(((List.range ops.size).filter fun k=>!E k).filter fun k=>!Nat.beq k i):=by
     rw [List.filter_filter]
     refine List.filter_congr fun k _=>?_
     unfold a7a
     cases Nat.beq k i<;>cases E k<;>rfl
    rw [hsub]
    refine List.length_filter_lt_length_iff_exists.2 ⟨i,wB.2 ⟨List.mem_range.2 hi,by simp [h1]⟩,by simp⟩
   omega
theorem c0h {K:St→Prop} {g:Gh} {a:Act} {w:World} (hmix:P.follows .mixedOrders=true) (hK:∀σ' g' a' w',K σ'→Rel P c g' σ' a' w'→Q .normal a' w') (hok:a15 P c.nt ops ms ops.toList=true) (haft:b3r aft ops.toList=true)
  (hanc:b0p anc 0 aft anc=true) (hlate:b05 ms ms anc=true) (hR:Rel P c g σ0 a w) (h:c69 P c.H0 ms [] σ0 fun log σ'=>a3u c.H0 σ0 0 anc log.reverse=true∧K σ') (t:Nat):wpOps P ops Q (Region.schedule (P.follows .mixedOrders) ops t) a { w with drawn:=w.drawn+1 }:=by
 obtain ⟨es,hevs,hchk,hk⟩:=a9w h
 rw [wH,List.reverse_reverse] at hchk
 simp only [Region.schedule,hmix,Bool.true_or,if_true]
 refine wpAny_sound ops.size t _ a _ (c8t hlate hok haft hanc hchk hevs (fun g a w hr=>hK _ g a w hk hr) ops.size (fun _=>false) _ g a _ (by simp) (fun i hi=>by simp [hi]) (fun _ _ _ h=>by cases h) ?_ ?_ (fun _ _ _ _ _ _ h=>by cases h))
 ·exact wV (List.length_filter_le _ _) (by simp)
 ·rw [b57 (fun _=>rfl)]
  exact hR.drew
end
end Go.Ab