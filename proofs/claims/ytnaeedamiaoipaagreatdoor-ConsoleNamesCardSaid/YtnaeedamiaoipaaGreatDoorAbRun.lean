/- The abstract layer, part 13: the same reckoning, in steps that can be rewritten one by one. -/
import Derived.Test.YtnaeedamiaoipaaGreatDoorAbCall
set_option linter.all false
namespace Go.Ab
open Go.RowKit
structure Cfg where
 P:Program
 H0:Heap
 K:St→Prop
 X:Nat→St→Prop
 R:St→Prop
inductive Fr where
 | sq (b:MC)
 | bl (id:Nat)
 | it (its:List It)
mutual
def kN (c:Cfg):List Fr→St→Prop
 | [],σ=>c.K σ
 | .sq b::s,σ=>MWP c.P c.H0 b (kN c s) (kX c s) c.R σ
 | .bl _::s,σ=>kN c s σ
 | .it its::s,σ=>runI c.P c.H0 its σ (kN c s)
def kX (c:Cfg):List Fr→Nat→St→Prop
 | [],i,σ=>c.X i σ
 | .sq _::s,i,σ=>kX c s i σ
 | .it _::s,i,σ=>kX c s i σ
 | .bl id::s,i,σ=>bif Nat.beq i id then kN c s σ else kX c s i σ
end
def compK (K:Eff→Prop) (v:V):Prop:=K (evl v)
def compU (K:Eff→Prop) (id:Nat) (o:Obj'):Prop:=K (eup id o)
def go (c:Cfg) (m:MC) (s:List Fr) (σ:St):Prop:=MWP c.P c.H0 m (kN c s) (kX c s) c.R σ
def ops (c:Cfg) (ms:List MOp) (s:List Fr) (σ:St):Prop:=runN c.P c.H0 ms σ (kN c s)
def aft (c:Cfg) (d:Option Nat) (r:List MOp) (s:List Fr) (e:List (Nat×V)) (h:Heap) (f:Eff):Prop:=ops c r s (St.app ⟨e,h⟩ d f)
def lok (c:Cfg) (d:Option Nat) (r:List MOp) (s:List Fr) (e:List (Nat×V)) (h:Heap) (f:Eff):Prop:=aft c d r s e h f
def grpC (c:Cfg) (ms:List MOp) (its:List It) (s:List Fr) (σ:St):Prop :=
 Lk (∃(α:Type) (I:α→St) (p:α→Prop),runN c.P c.H0 ms σ (fun σ'=>Lk (∃y,p y∧SubSt (I y) σ'))∧∀y,p y→factsSt (I y)→kN c (.it its::s) (I y))
theorem lok_eq {c:Cfg} {d:Option Nat} {r:List MOp} {s:List Fr} {e:List (Nat×V)} {h:Heap} {f:Eff}:lok c d r s e h f=aft c d r s e h f:=propext Iff.rfl
def opsG (c:Cfg) (i:MIns) (d:Option Nat) (t:Nat) (want:Bool) (r:List MOp) (s:List Fr) (e:List (Nat×V)) (h:Heap) (v:V):Prop :=
 match v with
 | .bool b=>gfork b want (ops c (⟨i,d,none⟩::r) s ⟨put t (.bool want) e,h⟩) (ops c r s ⟨delE d (put t (.bool (!want)) e),h⟩)
 | .tup []=>ops c r s ⟨delE d e,h⟩
 | _=>False
def goC (c:Cfg) (x:Opd) (a b:MC) (s:List Fr) (e:List (Nat×V)) (h:Heap) (v:V):Prop :=
 match v with
 | .bool t=>gfork t true (go c a s (cslot x true ⟨e,h⟩)) (go c b s (cslot x false ⟨e,h⟩))
 | _=>False
section
variable {c:Cfg} {e:List (Nat×V)} {h:Heap} {s:List Fr} {r:List MOp} {d:Option Nat} {i:MIns}
theorem go_seq {a b:MC}:go c (.seq a b) s ⟨e,h⟩=go c a (.sq b::s) ⟨e,h⟩:=by simp only [go,MWP,kN,kX]
theorem go_block {id:Nat} {b:MC}:go c (.block id b) s ⟨e,h⟩=go c b (.bl id::s) ⟨e,h⟩:=by simp only [go,MWP,kN,kX]
theorem go_skip:go c .skip s ⟨e,h⟩=kN c s ⟨e,h⟩:=propext Iff.rfl
theorem go_ret:go c .ret s ⟨e,h⟩=c.R ⟨e,h⟩:=propext Iff.rfl
theorem go_exit {id:Nat}:go c (.exit id) s ⟨e,h⟩=kX c s id ⟨e,h⟩:=propext Iff.rfl
theorem go_reg {ms:List MOp}:go c (.reg ms) s ⟨e,h⟩=ops c ms s ⟨e,h⟩:=propext Iff.rfl
theorem go_cond {x:Opd} {a b:MC}:go c (.cond x a b) s ⟨e,h⟩=goC c x a b s e h (x.ev e):=by
 unfold go MWP goC;rfl
theorem go_note {n:Note} {b:MC}:go c (.note n b) s ⟨e,h⟩=stepNote c.H0 n ⟨e,h⟩ (go c b s):=propext Iff.rfl
theorem go_hnote {T:St→(St→Prop)→Prop} {b:MC}:go c (.hnote T b) s ⟨e,h⟩=T ⟨e,h⟩ (go c b s):=propext Iff.rfl
theorem kN_nil:kN c [] ⟨e,h⟩=c.K ⟨e,h⟩:=by simp only [kN]
theorem kN_sq {b:MC}:kN c (.sq b::s) ⟨e,h⟩=go c b s ⟨e,h⟩:=by simp only [kN,go]
theorem kN_bl {id:Nat}:kN c (.bl id::s) ⟨e,h⟩=kN c s ⟨e,h⟩:=by simp only [kN]
theorem kX_nil {n:Nat}:kX c [] n ⟨e,h⟩=c.X n ⟨e,h⟩:=by simp only [kX]
theorem kX_sq {b:MC} {n:Nat}:kX c (.sq b::s) n ⟨e,h⟩=kX c s n ⟨e,h⟩:=by simp only [kX]
theorem kX_bl {id n:Nat}:kX c (.bl id::s) n ⟨e,h⟩=bif Nat.beq n id then kN c s ⟨e,h⟩ else kX c s n ⟨e,h⟩:=by simp only [kX]
theorem go_regI {its:List It}:go c (.regI its) s ⟨e,h⟩=kN c (.it its::s) ⟨e,h⟩:=by simp only [go,MWP,kN]
theorem kN_it_nil:kN c (.it []::s) ⟨e,h⟩=kN c s ⟨e,h⟩:=by simp only [kN,runI]
theorem kN_it_op {m:MOp} {its:List It}:kN c (.it (.op m::its)::s) ⟨e,h⟩=ops c [m] (.it its::s) ⟨e,h⟩:=by simp only [kN,runI,ops,runN]
theorem kN_it_nt {n:Note} {its:List It}:kN c (.it (.nt n::its)::s) ⟨e,h⟩=stepNote c.H0 n ⟨e,h⟩ (kN c (.it its::s)):=by
 have:kN c (.it its::s)=fun σ'=>runI c.P c.H0 its σ' (kN c s):=by funext σ';simp only [kN]
 rw [this];simp only [kN,runI]
theorem kN_it_grp {ms:List MOp} {its:List It}:kN c (.it (.grp ms::its)::s) ⟨e,h⟩=grpC c ms its s ⟨e,h⟩:=by
 have:kN c (.it its::s)=fun σ'=>runI c.P c.H0 its σ' (kN c s):=by funext σ';simp only [kN]
 unfold grpC;rw [this];simp only [kN,runI]
theorem kX_it {its:List It} {n:Nat}:kX c (.it its::s) n ⟨e,h⟩=kX c s n ⟨e,h⟩:=by simp only [kX]
theorem ops_nil:ops c [] s ⟨e,h⟩=kN c s ⟨e,h⟩:=propext Iff.rfl
theorem ops_guard {t:Nat} {w:Bool}:ops c (⟨i,d,some (t,w)⟩::r) s ⟨e,h⟩=opsG c i d t w r s e h (get t e):=propext Iff.rfl
theorem lk_eq (K:Eff→Prop):(fun e=>Lk (K e))=K:=funext fun e=>propext ⟨Lk.out,Lk.mk⟩
theorem ops_ins:ops c (⟨i,d,none⟩::r) s ⟨e,h⟩=bif cleanL c.H0 ⟨e,h⟩ (i.creates (d.getD 0)) then stepV c.P i (d.getD 0) (i.opds.map (·.ev e)) (obOf h) (aft c d r s e h) (lok c d r s e h) else False:=by
 simp only [ops,runN,runOne,runIns,lk_eq];rfl
theorem aft_eq {v:V} {dr:List Nat} {nw:List (Nat×Obj')}:aft c d r s e h ⟨v,dr,nw⟩=ops c r s ⟨setE d v e,puts nw (dels dr h)⟩:=propext Iff.rfl
theorem aft_some {n:Nat} {v:V}:compK (aft c (some n) r s e h) v=ops c r s ⟨put n v e,h⟩:=propext Iff.rfl
theorem aft_none {v:V}:compK (aft c none r s e h) v=ops c r s ⟨e,h⟩:=propext Iff.rfl
theorem aft_up {n:Nat} {id:Nat} {o:Obj'}:compU (aft c (some n) r s e h) id o=ops c r s ⟨put n .any e,put id o h⟩:=propext Iff.rfl
theorem aft_upn {id:Nat} {o:Obj'}:compU (aft c none r s e h) id o=ops c r s ⟨e,put id o h⟩:=propext Iff.rfl
theorem lok_comp {v:V}:compK (lok c d r s e h) v=compK (aft c d r s e h) v:=propext Iff.rfl
theorem lok_compU {id:Nat} {o:Obj'}:compU (lok c d r s e h) id o=compU (aft c d r s e h) id o:=propext Iff.rfl
theorem opsG_bool {t:Nat} {w b:Bool}:opsG c i d t w r s e h (.bool b)=gfork b w (ops c (⟨i,d,none⟩::r) s ⟨put t (.bool w) e,h⟩) (ops c r s ⟨delE d (put t (.bool (!w)) e),h⟩):=propext Iff.rfl
theorem opsG_tup {t:Nat} {w:Bool}:opsG c i d t w r s e h (.tup [])=ops c r s ⟨delE d e,h⟩:=propext Iff.rfl
theorem opsG_lit_tt {t:Nat}:opsG c i d t true r s e h (.bool true)=ops c (⟨i,d,none⟩::r) s ⟨put t (.bool true) e,h⟩:=by rw [opsG_bool,gfork_tt]
theorem opsG_lit_ff {t:Nat}:opsG c i d t false r s e h (.bool false)=ops c (⟨i,d,none⟩::r) s ⟨put t (.bool false) e,h⟩:=by rw [opsG_bool,gfork_ff]
theorem opsG_lit_tf {t:Nat}:opsG c i d t false r s e h (.bool true)=ops c r s ⟨delE d (put t (.bool true) e),h⟩:=by rw [opsG_bool,gfork_tf];rfl
theorem opsG_lit_ft {t:Nat}:opsG c i d t true r s e h (.bool false)=ops c r s ⟨delE d (put t (.bool false) e),h⟩:=by rw [opsG_bool,gfork_ft];rfl
theorem opsG_dec_t {t:Nat} {p:Prop} [Decidable p]:opsG c i d t true r s e h (.bool (decide p)) =
  ((p→ops c (⟨i,d,none⟩::r) s ⟨put t (.bool true) e,h⟩)∧(¬p→ops c r s ⟨delE d (put t (.bool false) e),h⟩)):=by
 rw [opsG_bool];simp [gfork]
theorem opsG_dec_f {t:Nat} {p:Prop} [Decidable p]:opsG c i d t false r s e h (.bool (decide p)) =
  ((¬p→ops c (⟨i,d,none⟩::r) s ⟨put t (.bool false) e,h⟩)∧(p→ops c r s ⟨delE d (put t (.bool true) e),h⟩)):=by
 rw [opsG_bool];simp [gfork]
theorem goC_bool {x:Opd} {a b:MC} {t:Bool}:goC c x a b s e h (.bool t)=gfork t true (go c a s (cslot x true ⟨e,h⟩)) (go c b s (cslot x false ⟨e,h⟩)):=propext Iff.rfl
theorem goC_t {n:Nat} {a b:MC}:goC c (.t n) a b s e h (.bool true)=go c a s ⟨put n (.bool true) e,h⟩:=by rw [goC_bool,gfork_tt];rfl
theorem goC_f {n:Nat} {a b:MC}:goC c (.t n) a b s e h (.bool false)=go c b s ⟨put n (.bool false) e,h⟩:=by rw [goC_bool,gfork_ft];rfl
theorem goC_dec {n:Nat} {a b:MC} {p:Prop} [Decidable p]:goC c (.t n) a b s e h (.bool (decide p)) =
  ((p→go c a s ⟨put n (.bool true) e,h⟩)∧(¬p→go c b s ⟨put n (.bool false) e,h⟩)):=by
 rw [goC_bool];simp [gfork,cslot]
theorem goC_any {n:Nat} {a b:MC} (t:Bool):goC c (.t n) a b s e h (.bool t) =
  ((t=true→go c a s ⟨put n (.bool true) e,h⟩)∧(t=false→go c b s ⟨put n (.bool false) e,h⟩)):=by
 rw [goC_bool];simp [gfork,cslot]
theorem opsG_any {t:Nat} {w:Bool} (b:Bool):opsG c i d t w r s e h (.bool b) =
  ((b=w→ops c (⟨i,d,none⟩::r) s ⟨put t (.bool w) e,h⟩)∧(b=(!w)→ops c r s ⟨delE d (put t (.bool (!w)) e),h⟩)):=propext Iff.rfl
section
variable {vs:List V} {P:Program} {n0:Nat} {ob:Nat→Option Obj'} {K L:Eff→Prop}
theorem at_mv {x:Opd} {v:V}:stepV P (.mv x) n0 [v] ob K L=compK K v:=propext Iff.rfl
theorem at_pick {x y z:Opd} {a b t:V}:stepV P (.pick x y z) n0 [t,a,b] ob K L=sPick t a b (compK K):=propext Iff.rfl
theorem at_ld {n:Option Nat} {x:Opd} {a:V}:stepV P (.ld n x) n0 [a] ob K L=sLd n a ob (compK K) (compK L):=propext Iff.rfl
theorem at_st {n:Nat} {x y:Opd} {a v:V}:stepV P (.st n x y) n0 [a,v] ob K L=sSt n a v ob (compU K) (compU L):=propext Iff.rfl
theorem at_nck {x:Opd} {a:V}:stepV P (.nck x) n0 [a] ob K L=sNck a (compK K):=propext Iff.rfl
theorem at_bin {ch:Bool} {op:BinOp} {x y:Opd} {a b:V}:stepV P (.bin ch op x y) n0 [a,b] ob K L=sBin ch op a b (compK K):=propext Iff.rfl
theorem at_mask {m:Nat} {x:Opd} {k:IntKind} {a:V}:stepV P (.mask m x k) n0 [a] ob K L=sMask m k a (compK K):=propext Iff.rfl
theorem at_beq {ng:Bool} {x y:Opd} {a b:V}:stepV P (.beq ng x y) n0 [a,b] ob K L=sBeq ng a b (compK K):=propext Iff.rfl
theorem at_eqs {ng:Bool} {ks:List Nat} {x y:Opd} {a b:V}:stepV P (.eqs ng ks x y) n0 [a,b] ob K L=sEqs ng ks a b (compK K):=propext Iff.rfl
theorem at_not {x:Opd} {a:V}:stepV P (.not x) n0 [a] ob K L=sNot a (compK K):=propext Iff.rfl
theorem at_neg {ch:Bool} {x:Opd} {a:V}:stepV P (.neg ch x) n0 [a] ob K L=sNeg ch a (compK K):=propext Iff.rfl
theorem at_i2i {ch:Bool} {k:IntKind} {x:Opd} {a:V}:stepV P (.i2i ch k x) n0 [a] ob K L=sI2i ch k a (compK K):=propext Iff.rfl
theorem at_idc {x:Opd} {a:V}:stepV P (.idc x) n0 [a] ob K L=sIdc a (compK K):=propext Iff.rfl
theorem at_b2s {x:Opd} {a:V}:stepV P (.b2s x) n0 [a] ob K L=sB2s a ob (compK K) (compK L):=propext Iff.rfl
theorem at_mkfn {f:Nat} {cap:List Opd}:stepV P (.mkfn f cap) n0 vs ob K L=compK K (.fn (.func f) vs):=by unfold stepV;rfl
theorem at_sls {x:Opd} {lo hi:Option Opd} {v:V}:stepV P (.sls x lo hi) n0 (v::vs) ob K L=sSls lo.isSome hi.isSome v vs (compK K):=propext Iff.rfl
theorem at_slc {k:Nat} {x:Opd} {lo hi:Option Opd} {v:V}:stepV P (.slc k x lo hi) n0 (v::vs) ob K L=sSlc k lo.isSome hi.isSome v vs (compK K):=propext Iff.rfl
theorem at_fad {off:Nat} {x:Opd} {a:V}:stepV P (.fad off x) n0 [a] ob K L=sFad off a (compK K):=propext Iff.rfl
theorem at_fld {n:Option Nat} {off:Nat} {x:Opd} {a:V}:stepV P (.fld n off x) n0 [a] ob K L=sFld n off a (compK K):=propext Iff.rfl
theorem at_iad {k:Nat} {x i:Opd} {a b:V}:stepV P (.iad k x i) n0 [a,b] ob K L=sIad k a b (compK K) (compK L):=propext Iff.rfl
theorem at_idx {x i:Opd} {a b:V}:stepV P (.idx x i) n0 [a,b] ob K L=sIdx a b (compK K):=propext Iff.rfl
theorem at_aix {n:Option Nat} {k q:Nat} {x i:Opd} {a b:V}:stepV P (.aix n k q x i) n0 [a,b] ob K L=sAix n k q a b (compK K):=propext Iff.rfl
theorem at_aad {k q:Nat} {x i:Opd} {a b:V}:stepV P (.aad k q x i) n0 [a,b] ob K L=sAad k q a b (compK K):=propext Iff.rfl
theorem at_ext {i:Nat} {x:Opd} {a:V}:stepV P (.ext i x) n0 [a] ob K L=sExt i a (compK K):=propext Iff.rfl
theorem at_len {t:Bool} {x:Opd} {a:V}:stepV P (.len t x) n0 [a] ob K L=sLen t a (compK K):=propext Iff.rfl
theorem at_mm {mx:Bool} {x y:Opd} {a b:V}:stepV P (.mm mx x y) n0 [a,b] ob K L=sMm mx a b (compK K):=propext Iff.rfl
theorem at_alloc {zs:List V} {t:Option TypeId}:stepV P (.alloc zs t) n0 vs ob K L=K ⟨.ptr n0 0,[],[(n0,.cells zs t)]⟩:=by unfold stepV;rfl
theorem at_box {x:Opd} {a:V}:stepV P (.box x) n0 [a] ob K L=sBox n0 a K:=propext Iff.rfl
theorem at_bslice {k:Nat} {xs:List Opd} {uv:Bool}:stepV P (.bslice k xs uv) n0 vs ob K L=bif vs.all (okElem k) then K ⟨.osl n0 k 0 vs.length,[],[(n0,.arr k vs (uvT uv))]⟩ else False:=by unfold stepV;rfl
theorem at_mks {x:Opd} {a:V}:stepV P (.mks x) n0 [a] ob K L=sMks a ob K:=propext Iff.rfl
theorem at_s2b {x:Opd} {a:V}:stepV P (.s2b x) n0 [a] ob K L=sS2b n0 a K:=propext Iff.rfl
theorem at_mksl {k bytes:Nat} {z:V} {l m:Opd} {a b:V}:stepV P (.mksl k bytes z l m) n0 [a,b] ob K L=sMksl k bytes n0 z a b K:=propext Iff.rfl
theorem at_app {k bytes:Nat} {x y:Opd} {ty:Option TypeId} {a b:V}:stepV P (.app k bytes x y ty) n0 [a,b] ob K L=sApp k bytes n0 ty a b ob K:=propext Iff.rfl
theorem at_call {f:Opd} {args:List Opd} {ids news:List Nat} {g:V}:stepV P (.call f args ids news) n0 (g::vs) ob K L=sCall P g vs ids news ob (L):=propext Iff.rfl
def fillB (K:Eff→Prop):Option (List V)→Prop
 | some cs=>compK K (.agg cs)
 | none=>False
theorem at_lsl {k:Nat} {xs:List Opd}:stepV P (.lsl k xs) n0 vs ob K L=bif vs.all (okElem k) then compK K (.sl vs) else False:=by unfold stepV;rfl
theorem at_ls2b {x:Opd} {a:V}:stepV P (.ls2b x) n0 [a] ob K L=sLs2b a (compK K):=propext Iff.rfl
theorem at_barr {k:Nat} {zs:List V} {xs:List Opd}:stepV P (.barr k zs xs) n0 vs ob K L=fillB K (fillV zs (arrParts k 0 vs)):=by
 unfold stepV fillB;rfl
theorem at_build {zs:List V} {ps:List (Nat×Nat×Opd)}:stepV P (.build zs ps) n0 vs ob K L=fillB K (fillV zs ((ps.zip vs).map fun p=>(p.1.1,p.1.2.1,p.2))):=by
 unfold stepV fillB;rfl
end
theorem beqq (n m:Nat):Nat.beq n m=(n==m):=by
 cases hb:Nat.beq n m with
 | true=>rw [Nat.eq_of_beq_eq_true hb];simp
 | false =>
  have:n≠m:=fun e=>by rw [e,Nat.beq_refl] at hb;cases hb
  simp [this]
theorem bleq (n m:Nat):Nat.ble n m=decide (n≤m):=by
 cases hb:Nat.ble n m with
 | true=>have:=Nat.le_of_ble_eq_true hb;simp [this]
 | false =>
  have:¬n≤m:=fun e=>by rw [Nat.ble_eq_true_of_le e] at hb;cases hb
  simp [this]
theorem get_cons {n m:Nat} {x:V} {r:List (Nat×V)}:get n ((m,x)::r)=bif n==m then x else get n r:=by simp only [get,beqq]
theorem get_nil {n:Nat}:get n []=.any:=rfl
theorem find_cons {α:Type} {n m:Nat} {x:α} {r:List (Nat×α)}:find n ((m,x)::r)=bif n==m then some x else find n r:=by simp only [find,beqq]
theorem find_nil {α:Type} {n:Nat}:find n ([]:List (Nat×α))=none:=rfl
theorem put_cons {α:Type} {n m:Nat} {x y:α} {r:List (Nat×α)}:put n x ((m,y)::r)=bif n==m then (m,x)::r else (m,y)::put n x r:=by simp only [put,beqq]
theorem put_nil {α:Type} {n:Nat} {x:α}:put n x []=[(n,x)]:=rfl
theorem del_cons {α:Type} {n m:Nat} {x:α} {r:List (Nat×α)}:del n ((m,x)::r)=bif n==m then del n r else (m,x)::del n r:=by simp only [del,beqq]
theorem del_nil {α:Type} {n:Nat}:del n ([]:List (Nat×α))=[]:=rfl
theorem obOf_eq {n:Nat}:obOf h n=find n h:=rfl
theorem has_ptr {n id o:Nat}:(V.ptr id o).has n=(n==id):=by simp only [V.has,beqq]
theorem has_osl {n id k l m:Nat}:(V.osl id k l m).has n=(n==id):=by simp only [V.has,beqq]
theorem has_optr {n id k l m:Nat}:(V.optr id k l m).has n=(n==id):=by simp only [V.has,beqq]
theorem has_bptr {n id:Nat}:(V.bptr id).has n=(n==id):=by simp only [V.has,beqq]
theorem has_omap {n id:Nat}:(V.omap id).has n=(n==id):=by simp only [V.has,beqq]
theorem has_agg {n:Nat} {cs:List V}:(V.agg cs).has n=V.hasL n cs:=by simp only [V.has]
theorem has_tup {n:Nat} {cs:List V}:(V.tup cs).has n=V.hasL n cs:=by simp only [V.has]
theorem has_fn {n:Nat} {f:Fn} {cs:List V}:(V.fn f cs).has n=V.hasL n cs:=by simp only [V.has]
theorem has_bool {n:Nat} {b:Bool}:(V.bool b).has n=false:=by simp only [V.has]
theorem has_int {n:Nat} {k:IntKind} {x:Int}:(V.int k x).has n=false:=by simp only [V.has]
theorem has_str {n:Nat} {x:List UInt8}:(V.str x).has n=false:=by simp only [V.has]
theorem has_sl {n:Nat} {x:List V}:(V.sl x).has n=false:=by simp only [V.has]
theorem has_nils {n:Nat}:V.nils.has n=false:=by simp only [V.has]
theorem has_nilp {n:Nat}:V.nilp.has n=false:=by simp only [V.has]
theorem has_nilm {n:Nat}:V.nilm.has n=false:=by simp only [V.has]
theorem has_nilf {n:Nat}:V.nilf.has n=false:=by simp only [V.has]
theorem has_nili {n:Nat}:V.nili.has n=false:=by simp only [V.has]
theorem has_any {n:Nat}:V.any.has n=false:=by simp only [V.has]
theorem has_eptr {n o:Nat} {x:V}:(V.eptr x o).has n=false:=by simp only [V.has]
theorem hasL_nil {n:Nat}:V.hasL n []=false:=by simp only [V.hasL]
theorem hasL_cons {n:Nat} {x:V} {l:List V}:V.hasL n (x::l)=(x.has n||V.hasL n l):=by simp only [V.hasL]
theorem cleanL_nil {σ:St} {H:Heap}:cleanL H σ []=true:=rfl
theorem cleanL_cons {n:Nat} {l:List Nat} {H:Heap}:cleanL H ⟨e,h⟩ (n::l)=((find n H).isNone&&noEnv n e&&noHeap n h&&cleanL H ⟨e,h⟩ l):=by
 simp only [cleanL];cases find n H<;>rfl
theorem kX_bl' {id n:Nat}:kX c (.bl id::s) n ⟨e,h⟩=bif n==id then kN c s ⟨e,h⟩ else kX c s n ⟨e,h⟩:=by rw [kX_bl,beqq]
theorem mem_nil {n:Nat}:mem n []=false:=rfl
theorem mem_cons' {n m:Nat} {l:List Nat}:mem n (m::l)=(n==m||mem n l):=by simp only [mem,beqq]
def ChkD (H:Heap) (σ:St) (i:Nat) (a:List (List Nat)) (l:List Ent):Prop:=chkAll H σ i a l=true
theorem chkD_of {H:Heap} {σ:St} {i:Nat} {a:List (List Nat)} {l:List Ent} (h:chkAll H σ i a l=true):ChkD H σ i a l:=h
def opsD (c:Cfg) (anc:List (List Nat)) (e0:List (Nat×V)) (h0:Heap) (ms:List MOp) (log:List Ent) (s:List Fr) (σ:St):Prop :=
 runD c.P c.H0 ms log σ fun log σ'=>chkAll c.H0 ⟨e0,h0⟩ 0 anc log.reverse=true∧kN c s σ'
def aftD (c:Cfg) (anc:List (List Nat)) (e0:List (Nat×V)) (h0:Heap) (d:Option Nat) (u t m:List Nat) (r:List MOp) (log:List Ent) (s:List Fr) (e:List (Nat×V)) (h:Heap) (f:Eff):Prop :=
 opsD c anc e0 h0 r (⟨d,some f,u,t,m⟩::log) s (St.app ⟨e,h⟩ d f)
def lokD (c:Cfg) (anc:List (List Nat)) (e0:List (Nat×V)) (h0:Heap) (d:Option Nat) (u t m:List Nat) (r:List MOp) (log:List Ent) (s:List Fr) (e:List (Nat×V)) (h:Heap) (f:Eff):Prop :=
 aftD c anc e0 h0 d u t m r log s e h f
def insG (c:Cfg) (anc:List (List Nat)) (e0:List (Nat×V)) (h0:Heap) (i:MIns) (d:Option Nat) (gs:List Nat) (r:List MOp) (log:List Ent) (s:List Fr) (e:List (Nat×V)) (h:Heap):Prop :=
 bif cleanL c.H0 ⟨e,h⟩ (i.creates (d.getD 0)) then
  stepD c.P i (d.getD 0) (i.opds.map (·.ev e)) (obOf h) (aftD c anc e0 h0 d (gs++slotsOf i.opds) (i.touch (i.opds.map (·.ev e))) (i.creates (d.getD 0)) r log s e h)
   (lokD c anc e0 h0 d (gs++slotsOf i.opds) (i.touch (i.opds.map (·.ev e))) (i.creates (d.getD 0)) r log s e h)
 else False
def opsDG (c:Cfg) (anc:List (List Nat)) (e0:List (Nat×V)) (h0:Heap) (i:MIns) (d:Option Nat) (t:Nat) (want:Bool) (r:List MOp) (log:List Ent) (s:List Fr) (e:List (Nat×V)) (h:Heap) (v:V):Prop :=
 match v with
 | .bool b=>gfork b want (insG c anc e0 h0 i d [t] r log s (put t (.bool want) e) h) (opsD c anc e0 h0 r (⟨d,none,[t],[],[]⟩::log) s ⟨delE d (put t (.bool (!want)) e),h⟩)
 | .tup []=>opsD c anc e0 h0 r (⟨d,none,[t],[],[]⟩::log) s ⟨delE d e,h⟩
 | _=>False
section
variable {P:Program} {n0:Nat} {vs:List V} {ob:Nat→Option Obj'} {K L:Eff→Prop}
theorem dD_mv {x:Opd}:stepD P (.mv x) n0 vs ob K L=stepV P (.mv x) n0 vs ob K L:=propext Iff.rfl
theorem dD_pick {x y z:Opd}:stepD P (.pick x y z) n0 vs ob K L=stepV P (.pick x y z) n0 vs ob K L:=propext Iff.rfl
theorem dD_alloc {zs:List V} {t:Option TypeId}:stepD P (.alloc zs t) n0 vs ob K L=stepV P (.alloc zs t) n0 vs ob K L:=propext Iff.rfl
theorem dD_box {x:Opd}:stepD P (.box x) n0 vs ob K L=stepV P (.box x) n0 vs ob K L:=propext Iff.rfl
theorem dD_build {zs:List V} {ps:List (Nat×Nat×Opd)}:stepD P (.build zs ps) n0 vs ob K L=stepV P (.build zs ps) n0 vs ob K L:=propext Iff.rfl
theorem dD_bslice {k:Nat} {xs:List Opd} {uv:Bool}:stepD P (.bslice k xs uv) n0 vs ob K L=stepV P (.bslice k xs uv) n0 vs ob K L:=propext Iff.rfl
theorem dD_ld {n:Option Nat} {x:Opd}:stepD P (.ld n x) n0 vs ob K L=stepV P (.ld n x) n0 vs ob K L:=propext Iff.rfl
theorem dD_st {n:Nat} {x y:Opd}:stepD P (.st n x y) n0 vs ob K L=stepV P (.st n x y) n0 vs ob K L:=propext Iff.rfl
theorem dD_nck {x:Opd}:stepD P (.nck x) n0 vs ob K L=stepV P (.nck x) n0 vs ob K L:=propext Iff.rfl
theorem dD_bin {ch:Bool} {op:BinOp} {x y:Opd}:stepD P (.bin ch op x y) n0 vs ob K L=stepV P (.bin ch op x y) n0 vs ob K L:=propext Iff.rfl
theorem dD_mask {m:Nat} {x:Opd} {k:IntKind}:stepD P (.mask m x k) n0 vs ob K L=stepV P (.mask m x k) n0 vs ob K L:=propext Iff.rfl
theorem dD_beq {ng:Bool} {x y:Opd}:stepD P (.beq ng x y) n0 vs ob K L=stepV P (.beq ng x y) n0 vs ob K L:=propext Iff.rfl
theorem dD_eqs {ng:Bool} {ks:List Nat} {x y:Opd}:stepD P (.eqs ng ks x y) n0 vs ob K L=stepV P (.eqs ng ks x y) n0 vs ob K L:=propext Iff.rfl
theorem dD_not {x:Opd}:stepD P (.not x) n0 vs ob K L=stepV P (.not x) n0 vs ob K L:=propext Iff.rfl
theorem dD_neg {ch:Bool} {x:Opd}:stepD P (.neg ch x) n0 vs ob K L=stepV P (.neg ch x) n0 vs ob K L:=propext Iff.rfl
theorem dD_i2i {ch:Bool} {k:IntKind} {x:Opd}:stepD P (.i2i ch k x) n0 vs ob K L=stepV P (.i2i ch k x) n0 vs ob K L:=propext Iff.rfl
theorem dD_idc {x:Opd}:stepD P (.idc x) n0 vs ob K L=stepV P (.idc x) n0 vs ob K L:=propext Iff.rfl
theorem dD_mks {x:Opd}:stepD P (.mks x) n0 vs ob K L=stepV P (.mks x) n0 vs ob K L:=propext Iff.rfl
theorem dD_s2b {x:Opd}:stepD P (.s2b x) n0 vs ob K L=stepV P (.s2b x) n0 vs ob K L:=propext Iff.rfl
theorem dD_b2s {x:Opd}:stepD P (.b2s x) n0 vs ob K L=stepV P (.b2s x) n0 vs ob K L:=propext Iff.rfl
theorem dD_mkfn {f:Nat} {cap:List Opd}:stepD P (.mkfn f cap) n0 vs ob K L=stepV P (.mkfn f cap) n0 vs ob K L:=propext Iff.rfl
theorem dD_mksl {k bytes:Nat} {z:V} {l m:Opd}:stepD P (.mksl k bytes z l m) n0 vs ob K L=stepV P (.mksl k bytes z l m) n0 vs ob K L:=propext Iff.rfl
theorem dD_sls {x:Opd} {lo hi:Option Opd}:stepD P (.sls x lo hi) n0 vs ob K L=stepV P (.sls x lo hi) n0 vs ob K L:=propext Iff.rfl
theorem dD_slc {k:Nat} {x:Opd} {lo hi:Option Opd}:stepD P (.slc k x lo hi) n0 vs ob K L=stepV P (.slc k x lo hi) n0 vs ob K L:=propext Iff.rfl
theorem dD_fad {off:Nat} {x:Opd}:stepD P (.fad off x) n0 vs ob K L=stepV P (.fad off x) n0 vs ob K L:=propext Iff.rfl
theorem dD_fld {n:Option Nat} {off:Nat} {x:Opd}:stepD P (.fld n off x) n0 vs ob K L=stepV P (.fld n off x) n0 vs ob K L:=propext Iff.rfl
theorem dD_iad {k:Nat} {x y:Opd}:stepD P (.iad k x y) n0 vs ob K L=stepV P (.iad k x y) n0 vs ob K L:=propext Iff.rfl
theorem dD_idx {x y:Opd}:stepD P (.idx x y) n0 vs ob K L=stepV P (.idx x y) n0 vs ob K L:=propext Iff.rfl
theorem dD_aix {n:Option Nat} {k q:Nat} {x i:Opd}:stepD P (.aix n k q x i) n0 vs ob K L=stepV P (.aix n k q x i) n0 vs ob K L:=propext Iff.rfl
theorem dD_aad {k q:Nat} {x i:Opd}:stepD P (.aad k q x i) n0 vs ob K L=stepV P (.aad k q x i) n0 vs ob K L:=propext Iff.rfl
theorem dD_lsl {k:Nat} {xs:List Opd}:stepD P (.lsl k xs) n0 vs ob K L=stepV P (.lsl k xs) n0 vs ob K L:=propext Iff.rfl
theorem dD_ls2b {x:Opd}:stepD P (.ls2b x) n0 vs ob K L=stepV P (.ls2b x) n0 vs ob K L:=propext Iff.rfl
theorem dD_barr {k:Nat} {zs:List V} {xs:List Opd}:stepD P (.barr k zs xs) n0 vs ob K L=stepV P (.barr k zs xs) n0 vs ob K L:=propext Iff.rfl
theorem dD_ext {i:Nat} {x:Opd}:stepD P (.ext i x) n0 vs ob K L=stepV P (.ext i x) n0 vs ob K L:=propext Iff.rfl
theorem dD_len {t:Bool} {x:Opd}:stepD P (.len t x) n0 vs ob K L=stepV P (.len t x) n0 vs ob K L:=propext Iff.rfl
theorem dD_app {k bytes:Nat} {x y:Opd} {ty:Option TypeId}:stepD P (.app k bytes x y ty) n0 vs ob K L=stepV P (.app k bytes x y ty) n0 vs ob K L:=propext Iff.rfl
theorem dD_mm {mx:Bool} {x y:Opd}:stepD P (.mm mx x y) n0 vs ob K L=stepV P (.mm mx x y) n0 vs ob K L:=propext Iff.rfl
end
section
variable {anc aft0:List (List Nat)} {e0:List (Nat×V)} {h0:Heap} {log:List Ent} {u t m gs:List Nat}
theorem go_regD {ms:List MOp}:go c (.regD ms aft0 anc) s ⟨e,h⟩=opsD c anc e h ms [] s ⟨e,h⟩:=propext Iff.rfl
theorem opsD_nil:opsD c anc e0 h0 [] log s ⟨e,h⟩=(ChkD c.H0 ⟨e0,h0⟩ 0 anc log.reverse∧kN c s ⟨e,h⟩):=propext Iff.rfl
theorem opsD_ins:opsD c anc e0 h0 (⟨i,d,none⟩::r) log s ⟨e,h⟩=insG c anc e0 h0 i d [] r log s e h:=propext Iff.rfl
theorem opsD_guard {n:Nat} {w:Bool}:opsD c anc e0 h0 (⟨i,d,some (n,w)⟩::r) log s ⟨e,h⟩=opsDG c anc e0 h0 i d n w r log s e h (get n e):=propext Iff.rfl
theorem insG_eq:insG c anc e0 h0 i d gs r log s e h=bif cleanL c.H0 ⟨e,h⟩ (i.creates (d.getD 0)) then
  stepD c.P i (d.getD 0) (i.opds.map (·.ev e)) (obOf h) (aftD c anc e0 h0 d (gs++slotsOf i.opds) (i.touch (i.opds.map (·.ev e))) (i.creates (d.getD 0)) r log s e h)
   (lokD c anc e0 h0 d (gs++slotsOf i.opds) (i.touch (i.opds.map (·.ev e))) (i.creates (d.getD 0)) r log s e h)
 else False:=propext Iff.rfl
theorem stepD_call {P:Program} {n0:Nat} {vs:List V} {ob:Nat→Option Obj'} {K L:Eff→Prop} {f:Opd} {args:List Opd} {ids news:List Nat} {g:V} :
  stepD P (.call f args ids news) n0 (g::vs) ob K L=sCallD P g vs ids news ob L:=rfl
theorem aftD_eq {v:V} {dr:List Nat} {nw:List (Nat×Obj')}:aftD c anc e0 h0 d u t m r log s e h ⟨v,dr,nw⟩=opsD c anc e0 h0 r (⟨d,some ⟨v,dr,nw⟩,u,t,m⟩::log) s ⟨setE d v e,puts nw (dels dr h)⟩:=propext Iff.rfl
theorem aftD_comp {v:V}:compK (aftD c anc e0 h0 d u t m r log s e h) v=opsD c anc e0 h0 r (⟨d,some ⟨v,[],[]⟩,u,t,m⟩::log) s ⟨setE d v e,h⟩:=propext Iff.rfl
theorem aftD_up {id:Nat} {o:Obj'}:compU (aftD c anc e0 h0 d u t m r log s e h) id o=opsD c anc e0 h0 r (⟨d,some ⟨.any,[],[(id,o)]⟩,u,t,m⟩::log) s ⟨setE d .any e,put id o h⟩:=propext Iff.rfl
theorem lokD_eq {f:Eff}:lokD c anc e0 h0 d u t m r log s e h f=aftD c anc e0 h0 d u t m r log s e h f:=propext Iff.rfl
theorem lokD_comp {v:V}:compK (lokD c anc e0 h0 d u t m r log s e h) v=compK (aftD c anc e0 h0 d u t m r log s e h) v:=propext Iff.rfl
theorem lokD_compU {id:Nat} {o:Obj'}:compU (lokD c anc e0 h0 d u t m r log s e h) id o=compU (aftD c anc e0 h0 d u t m r log s e h) id o:=propext Iff.rfl
theorem opsDG_bool {n:Nat} {w b:Bool}:opsDG c anc e0 h0 i d n w r log s e h (.bool b) =
  gfork b w (insG c anc e0 h0 i d [n] r log s (put n (.bool w) e) h) (opsD c anc e0 h0 r (⟨d,none,[n],[],[]⟩::log) s ⟨delE d (put n (.bool (!w)) e),h⟩):=propext Iff.rfl
theorem opsDG_tup {n:Nat} {w:Bool}:opsDG c anc e0 h0 i d n w r log s e h (.tup [])=opsD c anc e0 h0 r (⟨d,none,[n],[],[]⟩::log) s ⟨delE d e,h⟩:=propext Iff.rfl
theorem opsDG_tt {n:Nat}:opsDG c anc e0 h0 i d n true r log s e h (.bool true)=insG c anc e0 h0 i d [n] r log s (put n (.bool true) e) h:=by rw [opsDG_bool,gfork_tt]
theorem opsDG_ff {n:Nat}:opsDG c anc e0 h0 i d n false r log s e h (.bool false)=insG c anc e0 h0 i d [n] r log s (put n (.bool false) e) h:=by rw [opsDG_bool,gfork_ff]
theorem opsDG_tf {n:Nat}:opsDG c anc e0 h0 i d n false r log s e h (.bool true)=opsD c anc e0 h0 r (⟨d,none,[n],[],[]⟩::log) s ⟨delE d (put n (.bool true) e),h⟩:=by rw [opsDG_bool,gfork_tf];rfl
theorem opsDG_ft {n:Nat}:opsDG c anc e0 h0 i d n true r log s e h (.bool false)=opsD c anc e0 h0 r (⟨d,none,[n],[],[]⟩::log) s ⟨delE d (put n (.bool false) e),h⟩:=by rw [opsDG_bool,gfork_ft];rfl
theorem opsDG_dec_t {n:Nat} {p:Prop} [Decidable p]:opsDG c anc e0 h0 i d n true r log s e h (.bool (decide p)) =
  ((p→insG c anc e0 h0 i d [n] r log s (put n (.bool true) e) h)∧(¬p→opsD c anc e0 h0 r (⟨d,none,[n],[],[]⟩::log) s ⟨delE d (put n (.bool false) e),h⟩)):=by
 rw [opsDG_bool];simp [gfork]
theorem opsDG_dec_f {n:Nat} {p:Prop} [Decidable p]:opsDG c anc e0 h0 i d n false r log s e h (.bool (decide p)) =
  ((¬p→insG c anc e0 h0 i d [n] r log s (put n (.bool false) e) h)∧(p→opsD c anc e0 h0 r (⟨d,none,[n],[],[]⟩::log) s ⟨delE d (put n (.bool true) e),h⟩)):=by
 rw [opsDG_bool];simp [gfork]
end
theorem go_loop {b:MC} {α:Type} (I:α→St) (p:α→Prop) (μ:α→Nat) (ns:List Note) (h0:stepNs c.H0 ns ⟨e,h⟩ fun σ'=>∃x,p x∧SubSt (I x) σ')
  (round:∀x,p x→factsSt (I x)→go ⟨c.P,c.H0,fun σ'=>Lk (stepNs c.H0 ns σ' fun σ'=>∃y,p y∧μ y<μ x∧SubSt (I y) σ'),kX c s,c.R⟩ b [] (I x)):go c (.loop b) s ⟨e,h⟩:=by
 unfold go MWP
 refine Lk.mk ⟨α,I,p,μ,ns,h0,fun x hp hf=>?_⟩
 have:=round x hp hf
 unfold go at this
 have e1:kN ⟨c.P,c.H0,fun σ'=>Lk (stepNs c.H0 ns σ' fun σ'=>∃y,p y∧μ y<μ x∧SubSt (I y) σ'),kX c s,c.R⟩ []=fun σ'=>Lk (stepNs c.H0 ns σ' fun σ'=>∃y,p y∧μ y<μ x∧SubSt (I y) σ'):=by funext σ;simp only [kN]
 have e2:kX ⟨c.P,c.H0,fun σ'=>Lk (stepNs c.H0 ns σ' fun σ'=>∃y,p y∧μ y<μ x∧SubSt (I y) σ'),kX c s,c.R⟩ []=kX c s:=by funext n σ;simp only [kX]
 rw [e1,e2] at this
 exact this
theorem go_grp {ms:List MOp} {its:List It} {α:Type} (I:α→St) (p:α→Prop) (h1:ops ⟨c.P,c.H0,fun σ'=>Lk (∃y,p y∧SubSt (I y) σ'),fun _ _=>False,fun _=>False⟩ ms [] ⟨e,h⟩)
  (h2:∀y,p y→factsSt (I y)→kN c (.it its::s) (I y)):grpC c ms its s ⟨e,h⟩:=by
 unfold grpC
 refine Lk.mk ⟨α,I,p,?_,h2⟩
 unfold ops at h1
 have e1:kN ⟨c.P,c.H0,fun σ'=>Lk (∃y,p y∧SubSt (I y) σ'),fun _ _=>False,fun _=>False⟩ []=fun σ'=>Lk (∃y,p y∧SubSt (I y) σ'):=by funext σ;simp only [kN]
 rw [e1] at h1
 exact h1
end
theorem go_cut {c:Cfg} {e:List (Nat×V)} {h:Heap} {s:List Fr} {a b:MC} {α:Type} (I:α→St) (p:α→Prop) (ns:List Note)
  (h1:go ⟨c.P,c.H0,fun σ'=>Lk (stepNs c.H0 ns σ' fun σ'=>∃y,p y∧SubSt (I y) σ'),kX c s,c.R⟩ a [] ⟨e,h⟩) (h2:∀y,p y→factsSt (I y)→go c b s (I y)):go c (.cut a b) s ⟨e,h⟩:=by
 unfold go MWP
 refine Lk.mk ⟨α,I,p,ns,?_,h2⟩
 unfold go at h1
 have e1:kN ⟨c.P,c.H0,fun σ'=>Lk (stepNs c.H0 ns σ' fun σ'=>∃y,p y∧SubSt (I y) σ'),kX c s,c.R⟩ []=fun σ'=>Lk (stepNs c.H0 ns σ' fun σ'=>∃y,p y∧SubSt (I y) σ'):=by funext σ;simp only [kN]
 have e2:kX ⟨c.P,c.H0,fun σ'=>Lk (stepNs c.H0 ns σ' fun σ'=>∃y,p y∧SubSt (I y) σ'),kX c s,c.R⟩ []=kX c s:=by funext n σ;simp only [kX]
 rw [e1,e2] at h1
 exact h1
def MC.straight:MC→Bool
 | .skip=>true
 | .reg _=>true
 | .regI _=>true
 | .regD _ _ _=>true
 | .seq a b=>a.straight&&b.straight
 | _=>false
theorem MWP_straight {P:Program} {H0:Heap} {X X':Nat→St→Prop} {R R':St→Prop}:∀{a:MC} {K:St→Prop} {σ:St},a.straight=true→MWP P H0 a K X R σ=MWP P H0 a K X' R' σ
 | .skip,_,_,_=>by simp only [MWP]
 | .reg _,_,_,_=>by simp only [MWP]
 | .regI _,_,_,_=>by simp only [MWP]
 | .regD _ _ _,_,_,_=>by simp only [MWP]
 | .seq a b,K,σ,h=>by
  simp only [MC.straight,Bool.and_eq_true] at h
  simp only [MWP]
  rw [MWP_straight (a:=a) h.1]
  congr 1
  funext σ'
  exact MWP_straight (a:=b) h.2
 | .cut _ _,_,_,h=>by simp [MC.straight] at h
 | .cond _ _ _,_,_,h=>by simp [MC.straight] at h
 | .block _ _,_,_,h=>by simp [MC.straight] at h
 | .loop _,_,_,h=>by simp [MC.straight] at h
 | .note _ _,_,_,h=>by simp [MC.straight] at h
 | .hnote _ _,_,_,h=>by simp [MC.straight] at h
 | .no,_,_,h=>by simp [MC.straight] at h
 | .rngF _ _ _ _,_,_,h=>by simp [MC.straight] at h
 | .ret,_,_,h=>by simp [MC.straight] at h
 | .exit _,_,_,h=>by simp [MC.straight] at h
theorem go_rngF {c:Cfg} {e:List (Nat×V)} {h:Heap} {s:List Fr} {q:Opd} {ps:List Nat} {a b:MC} {gf:Nat} {caps:List V} {α:Type} (Hc:Heap) (xss:List (List V)) (pins:List Nat) (I:Nat→α→Heap) (p:Nat→α→Prop) (ns:List Note)
  (hq:q.ev e=.fn (.func gf) caps) (hit:AIter c.P gf caps Hc xss) (hsc:SubSt ⟨[],Hc⟩ ⟨e,h⟩) (hpin:envIn pins e=true) (hxs:∀xs∈xss,xs.length=ps.length∧V.withinL [] xs=true) (h0:∃x,p 0 x∧SubSt ⟨[],I 0 x⟩ ⟨e,h⟩∧∀q∈Hc,find q.1 (I 0 x)=none)
  (round:∀k x xs,xss[k]?=some xs→p k x→factsH (I k x)→go ⟨c.P,pinH c.H0 pins,fun σ'=>Lk (stepNs (pinH c.H0 pins) ns σ' fun σ'=>∃y,p (k+1) y∧SubSt ⟨[],I (k+1) y⟩ σ'),fun i σ'=>kX c s i ⟨e,σ'.heap⟩,fun σ'=>c.R ⟨e,σ'.heap⟩⟩ (.seq a b) [] ⟨putPs ps xs e,I k x⟩)
  (ha:a.straight=true) (hdone:∀x,p xss.length x→kN c s ⟨e,I xss.length x⟩):go c (.rngF q ps a b) s ⟨e,h⟩:=by
 unfold go MWP
 simp only [hq]
 refine Lk.mk ⟨Hc,xss,pins,α,I,p,ns,hit,hsc,hpin,hxs,h0,fun k x xs hk hp hf=>?_,hdone⟩
 have:=round k x xs hk hp hf
 unfold go MWP at this
 have e1:∀(P:Program) (H:Heap) (K:St→Prop) (X:Nat→St→Prop) (R:St→Prop),kN ⟨P,H,K,X,R⟩ []=K:=fun _ _ _ _ _=>by funext σ;simp only [kN]
 have e2:∀(P:Program) (H:Heap) (K:St→Prop) (X:Nat→St→Prop) (R:St→Prop),kX ⟨P,H,K,X,R⟩ []=X:=fun _ _ _ _ _=>by funext n σ;simp only [kX]
 rw [e1,e2] at this
 simp only [MWP] at this
 rw [MWP_straight ha]
 exact this
theorem sCall_of {P:Program} {n:Nat} {args:List V} {cap:List V} {ids news:List Nat} {ob:Nat→Option Obj'} {L:Eff→Prop} {H H1:Heap} {r:V} (hc:ACall P n (args++cap) H (fun r' H'=>r'=r∧H'=H1)) (hs:subH ids ob=some H)
  (hi:inIds H1 ids news=true) (hl:L ⟨r,ids,H1⟩):sCall P (.fn (.func n) cap) args ids news ob L:=by
 unfold sCall
 simp only [hs]
 exact hc.mono fun r' H' ⟨e1,e2⟩=>by subst e1;subst e2;rw [hi];exact hl
theorem sCallD_of {P:Program} {n:Nat} {args:List V} {cap:List V} {ids news:List Nat} {ob:Nat→Option Obj'} {L:Eff→Prop} {H H1:Heap} {r:V} (hc:ACall P n (args++cap) H (fun r' H'=>r'=r∧H'=H1)) (hs:subH ids ob=some H)
  (hi:inIds H1 ids news=true) (hl:L ⟨r,ids,H1⟩):sCallD P (.fn (.func n) cap) args ids news ob L:=by
 unfold sCallD
 simp only [hs]
 exact ⟨r,H1,hc,hi,hl⟩
theorem acall_go {P:Program} {f:Nat} {fn:Func} {code:Code} {mc:MC} {args:List V} {H:Heap} {Q:V→Heap→Prop} (ns:List Note) (rids:List Nat) (rs:List RS) (hf:P.funcs[f]?=some fn) (hb:fn.body=some code) (hc:callable P f=true)
  (hnh:mc.nh=true) (hok:mc.ok P fn.ntmps code=true) (hrs:resOK P rs fn.results.toList=true) (hn:Nat.ble args.length fn.ntmps=true) (hg:St.good ⟨enumE 0 args,H⟩=true)
  (h:factsSt ⟨enumE 0 args,H⟩→go ⟨P,H,atEndN H ns rids rs Q,fun _ _=>False,atEndN H ns rids rs Q⟩ mc [] ⟨enumE 0 args,H⟩):ACall P f args H Q:=by
 refine acall_ofN ns rids rs hf hb hc hnh hok hrs hn hg fun hfa=>?_
 have:=h hfa
 unfold go at this
 have e1:kN ⟨P,H,atEndN H ns rids rs Q,fun _ _=>False,atEndN H ns rids rs Q⟩ []=atEndN H ns rids rs Q:=by funext σ;simp only [kN]
 have e2:kX ⟨P,H,atEndN H ns rids rs Q,fun _ _=>False,atEndN H ns rids rs Q⟩ []=fun _ _=>False:=by funext n σ;simp only [kX]
 rw [e1,e2] at this
 exact this
attribute [irreducible] ChkD
def ints (l:List Int):V:=.sl (l.map fun n=>.int .i64 n)
def tape (l:List Int) (k:Nat):Obj':=.cells [ints l,.int .i64 k]
end Go.Ab
