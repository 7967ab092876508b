/- The abstract layer, part 1: abstract values, objects and states, and what it means that they describe a world. -/
import Derived.WalkKit
import Derived.Orders
import Derived.Lib.LaidTab
set_option linter.all false
namespace Go.Ab
open Go.RowKit
inductive KD where
 | int (k:IntKind)
 | str
 | bool
inductive V where
 | bool (b:Bool)
 | int (k:IntKind) (n:Int)
 | str (s:List UInt8)
 | nils
 | nilp
 | nilm
 | nilf
 | nili
 | agg (cs:List V)
 | tup (cs:List V)
 | sl (xs:List V)
 | ptr (id off:Nat)
 | eptr (x:V) (off:Nat)
 | osl (id k lo len:Nat)
 | optr (id k i off:Nat)
 | omap (id:Nat)
 | bptr (id:Nat)
 | smap (kd:KD) (es:List (V×V))
 | fn (f:Fn) (cap:List V)
 | any
 | nsl (z k:Nat) (xs:List V)
 | nsmap (z k:Nat) (kd:KD) (es:List (V×V))
 | ifc (b:Bool)
 | adr (b off:Nat)
 | at_ (id b:Nat)
namespace V
def cells:V→List V
 | .agg cs=>cs
 | v=>[v]
def one:V→Bool
 | .agg _|.tup _|.any|.at_ _ _=>false
 | _=>true
def sc:V→Bool
 | .bool _|.int _ _|.str _|.nils|.nilp|.nilm|.nilf|.nili|.ifc _|.sl _|.smap _ _|.adr _ _=>true
 | .fn (.func _) []=>true
 | _=>false
def sealed:V→Bool
 | .agg cs=>cs.all V.sc
 | x=>x.sc
def fl1:V→Bool
 | .bool _|.int _ _|.str _|.nils|.nilp|.nilm|.nilf|.nili|.ifc _|.sl []=>true
 | _=>false
def flat:V→Bool
 | .agg cs=>cs.all V.fl1
 | x=>x.fl1
mutual
def has (n:Nat):V→Bool
 | .ptr id _=>Nat.beq n id
 | .osl id _ _ _=>Nat.beq n id
 | .optr id _ _ _=>Nat.beq n id
 | .omap id=>Nat.beq n id
 | .bptr id=>Nat.beq n id
 | .nsl z _ _=>Nat.beq n z
 | .nsmap z _ _ _=>Nat.beq n z
 | .at_ id _=>Nat.beq n id
 | .agg cs=>hasL n cs
 | .tup cs=>hasL n cs
 | .fn _ cs=>hasL n cs
 | _=>false
def hasL (n:Nat):List V→Bool
 | []=>false
 | x::r=>has n x||hasL n r
end
theorem hasL_mem {n:Nat}:∀{l:List V} {x:V},x∈l→hasL n l=false→x.has n=false
 | y::r,x,hm,h=>by
  simp only [hasL,Bool.or_eq_false_iff] at h
  rcases List.mem_cons.1 hm with rfl|hm
  ·exact h.1
  ·exact hasL_mem hm h.2
end V
def KD.is:KD→V→Bool
 | .int .i8,.int .i8 _|.int .i16,.int .i16 _|.int .i32,.int .i32 _|.int .i64,.int .i64 _=>true
 | .int .u8,.int .u8 _|.int .u16,.int .u16 _|.int .u32,.int .u32 _|.int .u64,.int .u64 _=>true
 | .str,.str _=>true
 | .bool,.bool _=>true
 | _,_=>false
inductive Obj' where
 | cells (cs:List V) (t:Option TypeId:=none)
 | arr (k:Nat) (xs:List V) (t:Option TypeId:=none)
 | map (kd:KD) (es:List (V×V))
 | iter (rem:List (V×V)) (cur:Option (V×V))
 | mark
 | nmap (z k:Nat) (kd:KD) (es:List (V×V))
def Obj'.has (n:Nat):Obj'→Bool
 | .cells cs _=>V.hasL n cs
 | .nmap z _ _ _=>Nat.beq n z
 | _=>false
def inR (k:IntKind) (n:Int):Prop:=k.min≤n∧n≤k.max
def unfrozen (fz:Nat×Nat) (n:Nat):Prop:=fz.1=fz.2∨n≤fz.1
theorem unfrozen.at {fz:Nat×Nat} {n i:Nat} (h:unfrozen fz n) (hi:i<n):(decide (fz.1≤i)&&decide (i<fz.2))=false:=by
 rw [Bool.and_eq_false_iff,decide_eq_false_iff_not,decide_eq_false_iff_not]
 unfold unfrozen at h
 omega
inductive Rd (S:Nat→Prop) (w:World):Value→V→Prop
 | bool (b:Bool):Rd S w (.bool b) (.bool b)
 | int (k:IntKind) (n:Int) (h:inR k n):Rd S w (.int k n) (.int k n)
 | str (s:ByteArray) (h:s.size≤maxLen):Rd S w (.string s) (.str s.data.toList)
 | nils:Rd S w (.slice none 0 0) .nils
 | nilsl:Rd S w (.slice none 0 0) (.sl [])
 | slz (a:Addr) (cap:Nat):Rd S w (.slice (some a) 0 cap) (.sl [])
 | nilp:Rd S w (.pointer none) .nilp
 | nilm:Rd S w (.map none) .nilm
 | nilf:Rd S w .nilFunc .nilf
 | nili:Rd S w .nilIface .nili
 | ifcn:Rd S w .nilIface (.ifc true)
 | ifcs (t:TypeId) (p:Value):Rd S w (.iface t p) (.ifc false)
 | adr (b off:Nat):Rd S w (.pointer (some ⟨b,off,none⟩)) (.adr b off)
 | fnc (n:Nat):Rd S w (.func (.func n) #[] #[]) (.fn (.func n) [])
 | agg (vs:Array Value) (cs:List V) (hl:vs.size=cs.length) (hr:∀(i:Nat) (c:V),cs[i]?=some c→Rd S w (vs.getD i undef) c):Rd S w (.agg vs) (.agg cs)
 | sl (g o len cap k:Nat) (cur:Array Value) (e:TypeId) (fz:Nat×Nat) (xs:List V) (hS:S g) (hg:w.heap[g]?=some (.cells cur e fz))
   (hl:xs.length=len) (hm:len≤maxLen) (hc:len≤cap) (hb:len=0∨o+len*k≤cur.size) (hk:∀x∈xs,x.cells.length=k∧(∀c∈x.cells,c.one=true)∧x.sealed=true)
   (hr:∀(i j:Nat) (x c:V),xs[i]?=some x→x.cells[j]?=some c→Rd S w (cur.getD (o+i*k+j) undef) c) :
   Rd S w (.slice (some ⟨g,o,none⟩) len cap) (.sl xs)
 | smap (b:Nat) (kd:KD) (ents:Array MapEntry) (clock:Nat) (es:List (V×V)) (hS:S b) (hg:w.heap[b]?=some (.map ents clock)) (hl:ents.size=es.length) (hk:∀kv∈es,kd.is kv.1=true)
   (hb:∀ent∈ents.toList,ent.born<clock) (hn:(ents.toList.map (·.born)).Nodup)
   (hr1:∀(i:Nat) (ent:MapEntry) (kv:V×V),ents[i]?=some ent→es[i]?=some kv→Rd S w ent.key kv.1) (hr2:∀(i:Nat) (ent:MapEntry) (kv:V×V),ents[i]?=some ent→es[i]?=some kv→Rd S w ent.val kv.2) :
   Rd S w (.map (some b)) (.smap kd es)
def Keep (S:Nat→Prop) (w w':World):Prop:=∀b,S b→w'.heap[b]?=w.heap[b]?
theorem Rd.mono {S S':Nat→Prop} {w w':World} (hk:Keep S w w') (hs:∀b,S b→S' b):∀{v:Value} {x:V},Rd S w v x→Rd S' w' v x:=by
 intro v x h
 induction h with
 | bool b=>exact .bool b
 | int k n h=>exact .int k n h
 | str s h=>exact .str s h
 | nils=>exact .nils
 | nilsl=>exact .nilsl
 | slz a cap=>exact .slz a cap
 | nilp=>exact .nilp
 | nilm=>exact .nilm
 | nilf=>exact .nilf
 | nili=>exact .nili
 | ifcn=>exact .ifcn
 | ifcs t p=>exact .ifcs t p
 | adr b off=>exact .adr b off
 | fnc n=>exact .fnc n
 | agg vs cs hl _ ih=>exact .agg vs cs hl ih
 | sl g o len cap k cur e fz xs hS hg hl hm hc hb hk' _ ih=>exact .sl g o len cap k cur e fz xs (hs _ hS) ((hk _ hS).trans hg) hl hm hc hb hk' ih
 | smap b kd ents clock es hS hg hl hk' hb hn _ _ ih1 ih2=>exact .smap b kd ents clock es (hs _ hS) ((hk _ hS).trans hg) hl hk' hb hn ih1 ih2
theorem Rd.agg_inv {S w v cs} (h:Rd S w v (.agg cs)):∃vs:Array Value,v=.agg vs∧vs.size=cs.length∧∀(i:Nat) (c:V),cs[i]?=some c→Rd S w (vs.getD i undef) c:=by
 cases h with
 | agg vs cs hl hr=>exact ⟨vs,rfl,hl,hr⟩
structure Gh where
 S:Nat→Prop
 ρ:Nat→Nat
 base:Nat→Nat
 cap:Nat→Nat
 nil:Nat→Prop
def Gh.agree (g g':Gh) (id:Nat):Prop:=g'.ρ id=g.ρ id∧g'.base id=g.base id∧g'.cap id=g.cap id∧(g'.nil id↔g.nil id)
theorem Gh.agree.refl (g:Gh) (id:Nat):g.agree g id:=⟨rfl,rfl,rfl,Iff.rfl⟩
theorem Gh.agree.trans {a b c:Gh} {id:Nat} (h:a.agree b id) (k:b.agree c id):a.agree c id :=
 ⟨k.1.trans h.1,k.2.1.trans h.2.1,k.2.2.1.trans h.2.2.1,k.2.2.2.trans h.2.2.2⟩
def tyUV:TypeId:=4000000000
def tyOK (t:Option TypeId) (e:TypeId) (fz:Nat×Nat):Prop:=match t with
 | none=>True
 | some u=>bif Nat.beq u tyUV then fz.1=fz.2 else e=u
def tyF:Option TypeId→Option TypeId
 | none=>none
 | some u=>bif Nat.beq u tyUV then none else some u
theorem tyF_ok {t:Option TypeId} {e:TypeId} {fz fz':Nat×Nat} (h:tyOK t e fz):tyOK (tyF t) e fz':=by
 cases t with
 | none=>trivial
 | some u =>
  simp only [tyF]
  cases hb:Nat.beq u tyUV with
  | true=>trivial
  | false=>simp only [tyOK,hb,cond_false] at h ⊢;exact h
structure ArrAt (S:Nat→Prop) (w:World) (b base cap k:Nat) (xs:List V) (t:Option TypeId):Prop where
 kpos:0<k
 row:∃(cur:Array Value) (e:TypeId) (fz:Nat×Nat),w.heap[b]?=some (.cells cur e fz)∧cur.size=(base+cap)*k∧(unfrozen fz cur.size∧tyOK t e fz) ∧
  ∀(i j:Nat) (x c:V),xs[i]?=some x→x.cells[j]?=some c→Rd S w (cur.getD ((base+i)*k+j) undef) c
 len:xs.length≤cap
 big:base+cap≤maxLen
 elem:∀x∈xs,x.cells.length=k∧(∀c∈x.cells,c.one=true)∧x.sealed=true
theorem ArrAt.keepB {S S':Nat→Prop} {w w':World} {b base cap k:Nat} {xs:List V} {t:Option TypeId} (h:ArrAt S w b base cap k xs t) (hb:w'.heap[b]?=w.heap[b]?) (hk:Keep S w w') (hs:∀b,S b→S' b):ArrAt S' w' b base cap k xs t:=by
 obtain ⟨h1,⟨cur,e,fz,h2,h3,h4,h5⟩,h6,h7,h8⟩:=h
 exact ⟨h1,⟨cur,e,fz,hb.trans h2,h3,h4,fun i j x c hx hc=>(h5 i j x c hx hc).mono hk hs⟩,h6,h7,h8⟩
def NewRow (S:Nat→Prop) (m k:Nat) (w:World) (v:Value) (xs:List V):Prop :=
 (v=.slice none 0 0∧xs=[])∨∃b o base cap c,v=.slice (some ⟨b,o,none⟩) xs.length c∧(c=0∨o=base*k)∧xs.length≤c∧c≤cap∧c≤maxLen∧m.testBit b=false∧S b∧ArrAt S w b base cap k xs none
theorem NewRow.mono {S S':Nat→Prop} {m k:Nat} {w w':World} {v:Value} {xs:List V} (h:NewRow S m k w v xs) (hk:Keep S w w') (hs:∀b,S b→S' b):NewRow S' m k w' v xs:=by
 rcases h with h|⟨b,o,base,cap,c,h1,h0,h2,h3,h4,h5,h6,h7⟩
 ·exact .inl h
 ·exact .inr ⟨b,o,base,cap,c,h1,h0,h2,h3,h4,h5,hs b h6,h7.keepB (hk b h6) hk hs⟩
theorem NewRow.rd {S:Nat→Prop} {m k:Nat} {w:World} {v:Value} {xs:List V} (h:NewRow S m k w v xs):Rd S w v (.sl xs):=by
 rcases h with ⟨rfl,rfl⟩|⟨b,o,base,cap,c,rfl,h0,h2,h3,h4,h5,h6,⟨h7,⟨cur,e,fz,h8,h9,h10,h11⟩,h12,h13,h14⟩⟩
 ·exact .nilsl
 ·refine .sl b o xs.length c k cur e fz xs h6 h8 rfl (Nat.le_trans h2 h4) h2 ?_ h14 fun i j x y hx hy=>?_
  ·rcases h0 with h0|h0
   ·exact .inl (by omega)
   ·refine .inr ?_
    rw [h0,h9,←Nat.add_mul];exact Nat.mul_le_mul_right k (by omega)
  ·have hi:=(List.getElem?_eq_some_iff.1 hx).1
   have:=h11 i j x y hx hy
   rw [h0.resolve_left (by omega)]
   rwa [Nat.add_mul] at this
inductive VR (g:Gh) (w:World):Value→V→Prop
 | rd {v:Value} {x:V} (h:Rd g.S w v x):VR g w v x
 | any (v:Value):VR g w v .any
 | ptr (id off:Nat):VR g w (.pointer (some ⟨g.ρ id,off,none⟩)) (.ptr id off)
 | eptr (b o off:Nat) (cur:Array Value) (e:TypeId) (fz:Nat×Nat) (x:V) (hS:g.S b) (hg:w.heap[b]?=some (.cells cur e fz))
   (hb:o+x.cells.length≤cur.size) (hr:∀(j:Nat) (c:V),x.cells[j]?=some c→Rd g.S w (cur.getD (o+j) undef) c) :
   VR g w (.pointer (some ⟨b,o+off,none⟩)) (.eptr x off)
 | oslnil (id k lo:Nat) (h:g.nil id):VR g w (.slice none 0 0) (.osl id k lo 0)
 | osl (id k lo len o c:Nat) (h:¬g.nil id) (ho:c=0∨o=(g.base id+lo)*k) (hc:lo+c≤g.cap id) (hl:len≤c) (hm:c≤maxLen) :
   VR g w (.slice (some ⟨g.ρ id,o,none⟩) len c) (.osl id k lo len)
 | optr (id k i off:Nat):VR g w (.pointer (some ⟨g.ρ id,(g.base id+i)*k+off,none⟩)) (.optr id k i off)
 | omap (id:Nat):VR g w (.map (some (g.ρ id))) (.omap id)
 | bnil (id:Nat):VR g w (.pointer none) (.bptr id)
 | bself (id:Nat):VR g w (.pointer (some ⟨g.ρ id,0,none⟩)) (.bptr id)
 | at_ (id b:Nat) (v:Value) (h:g.ρ id=b):VR g w v (.at_ id b)
 | nsl (z k:Nat) (xs:List V) (v:Value) (h:NewRow g.S (g.base z) k w v xs):VR g w v (.nsl z k xs)
 | nsmap (b z k:Nat) (kd:KD) (ents:Array MapEntry) (clock:Nat) (es:List (V×V)) (hr:Rd g.S w (.map (some b)) (.smap kd es)) (hS:g.S b) (hg:w.heap[b]?=some (.map ents clock))
   (hn:∀(i:Nat) (ent:MapEntry) (kv:V×V),ents[i]?=some ent→es[i]?=some kv→∃xs,kv.2=.sl xs∧NewRow g.S (g.base z) k w ent.val xs):VR g w (.map (some b)) (.nsmap z k kd es)
 | agg (vs:Array Value) (cs:List V) (hl:vs.size=cs.length) (hr:∀(i:Nat) (c:V),cs[i]?=some c→VR g w (vs.getD i undef) c):VR g w (.agg vs) (.agg cs)
 | tup (vs:Array Value) (cs:List V) (hl:vs.size=cs.length) (hr:∀(i:Nat) (c:V),cs[i]?=some c→VR g w (vs.getD i undef) c):VR g w (.tuple vs) (.tup cs)
 | fn (n:Nat) (vs:Array Value) (cs:List V) (hl:vs.size=cs.length) (hr:∀(i:Nat) (c:V),cs[i]?=some c→VR g w (vs.getD i undef) c):VR g w (.func (.func n) #[] vs) (.fn (.func n) cs)
 | bnd (n:Nat) (vs:Array Value) (cs:List V) (hl:vs.size=cs.length) (hr:∀(i:Nat) (c:V),cs[i]?=some c→VR g w (vs.getD i undef) c):VR g w (.func (.func n) vs #[]) (.fn (.yield n) cs)
theorem VR.mono {g g':Gh} {w w':World} (hk:Keep g.S w w') (hs:∀b,g.S b→g'.S b) :
  ∀{v:Value} {x:V},VR g w v x→(∀id,x.has id=true→g.agree g' id)→VR g' w' v x:=by
 intro v x h
 induction h with
 | rd h=>exact fun _=>.rd (h.mono hk hs)
 | any v=>exact fun _=>.any v
 | ptr id off =>
  intro ha
  have:=(ha id (by simp [V.has])).1
  rw [←this];exact .ptr id off
 | eptr b o off cur e fz x hS hg hb hr=>exact fun _=>.eptr b o off cur e fz x (hs _ hS) ((hk _ hS).trans hg) hb fun j c hc=>(hr j c hc).mono hk hs
 | oslnil id k lo h=>exact fun ha=>.oslnil id k lo ((ha id (by simp [V.has])).2.2.2.2 h)
 | osl id k lo len o c h ho hc hl hm =>
  intro ha
  obtain ⟨h1,h2,h3,h4⟩:=ha id (by simp [V.has])
  rw [←h1]
  exact .osl id k lo len o c (fun h'=>h (h4.1 h')) (by rw [h2];exact ho) (by rw [h3];exact hc) hl hm
 | optr id k i off =>
  intro ha
  obtain ⟨h1,h2,h3,h4⟩:=ha id (by simp [V.has])
  rw [←h1,←h2];exact .optr id k i off
 | omap id =>
  intro ha
  rw [←(ha id (by simp [V.has])).1];exact .omap id
 | bnil id=>exact fun _=>.bnil id
 | bself id =>
  intro ha
  rw [←(ha id (by simp [V.has])).1];exact .bself id
 | at_ id b v h=>exact fun ha=>.at_ id b v ((ha id (by simp [V.has])).1.trans h)
 | nsl z k xs v h =>
  intro ha
  have:=(ha z (by simp [V.has])).2.1
  exact .nsl z k xs v (by rw [this];exact h.mono hk hs)
 | nsmap b z k kd ents clock es hr hS hg hn =>
  intro ha
  have:=(ha z (by simp [V.has])).2.1
  refine .nsmap b z k kd ents clock es (hr.mono hk hs) (hs _ hS) ((hk _ hS).trans hg) fun i ent kv h1 h2=>?_
  obtain ⟨xs,h3,h4⟩:=hn i ent kv h1 h2
  exact ⟨xs,h3,by rw [this];exact h4.mono hk hs⟩
 | agg vs cs hl _ ih =>
  refine fun ha=>.agg vs cs hl fun i c hc=>ih i c hc fun id hid=>ha id ?_
  by_cases hx:V.has id (.agg cs)=true
  ·exact hx
  ·simp only [V.has,Bool.not_eq_true] at hx
   have:=V.hasL_mem (List.mem_of_getElem? hc) hx
   rw [this] at hid;cases hid
 | tup vs cs hl _ ih =>
  refine fun ha=>.tup vs cs hl fun i c hc=>ih i c hc fun id hid=>ha id ?_
  by_cases hx:V.has id (.tup cs)=true
  ·exact hx
  ·simp only [V.has,Bool.not_eq_true] at hx
   have:=V.hasL_mem (List.mem_of_getElem? hc) hx
   rw [this] at hid;cases hid
 | fn f vs cs hl _ ih =>
  refine fun ha=>.fn f vs cs hl fun i c hc=>ih i c hc fun id hid=>ha id ?_
  by_cases hx:V.has id (.fn (.func f) cs)=true
  ·exact hx
  ·simp only [V.has,Bool.not_eq_true] at hx
   have:=V.hasL_mem (List.mem_of_getElem? hc) hx
   rw [this] at hid;cases hid
 | bnd n vs cs hl _ ih =>
  refine fun ha=>.bnd n vs cs hl fun i c hc=>ih i c hc fun id hid=>ha id ?_
  by_cases hx:V.has id (.fn (.yield n) cs)=true
  ·exact hx
  ·simp only [V.has,Bool.not_eq_true] at hx
   have:=V.hasL_mem (List.mem_of_getElem? hc) hx
   rw [this] at hid;cases hid
structure Ents (S:Nat→Prop) (w:World) (kd:KD) (ents:List MapEntry) (es:List (V×V)):Prop where
 len:ents.length=es.length
 key:∀kv∈es,kd.is kv.1=true
 rd:∀(i:Nat) (ent:MapEntry) (kv:V×V),ents[i]?=some ent→es[i]?=some kv→Rd S w ent.key kv.1∧Rd S w ent.val kv.2
def IterAt (S:Nat→Prop) (w:World) (b:Nat) (rem:List (V×V)) (cur:Option (V×V)):Prop :=
 (∃x y z,w.heap[b]?=some (.mapIter none x y z)∧rem=[]∧cur=none) ∨
 ∃m clock seen ents,w.heap[b]?=some (.mapIter (some m) clock seen clock)∧S m∧w.heap[m]?=some (.map ents clock)∧(∀ent∈ents.toList,ent.born<clock)∧(ents.toList.map (·.born)).Nodup ∧
  (ents.toList.filter fun e=>!seen.contains e.born).length=rem.length ∧
  (∀(i:Nat) (ent:MapEntry) (kv:V×V),(ents.toList.filter fun e=>!seen.contains e.born)[i]?=some ent→rem[i]?=some kv→Rd S w ent.key kv.1∧Rd S w ent.val kv.2) ∧
  ∀kv,cur=some kv→∃ent∈ents.toList,seen.back?=some ent.born∧Rd S w ent.key kv.1∧Rd S w ent.val kv.2
def OR (g:Gh) (w:World) (id:Nat):Obj'→Prop
 | .cells cs t=>¬g.nil id∧∃(cur:Array Value) (e:TypeId) (fz:Nat×Nat),w.heap[g.ρ id]?=some (.cells cur e fz)∧cur.size=cs.length∧(unfrozen fz cur.size∧tyOK t e fz) ∧
   ∀(i:Nat) (c:V),cs[i]?=some c→VR g w (cur.getD i undef) c
 | .arr k xs t=>(g.nil id∧xs=[])∨(¬g.nil id∧ArrAt g.S w (g.ρ id) (g.base id) (g.cap id) k xs t)
 | .map kd es=>¬g.nil id∧∃(ents:Array MapEntry) (clock:Nat),w.heap[g.ρ id]?=some (.map ents clock)∧Ents g.S w kd ents.toList es∧(∀ent∈ents.toList,ent.born<clock)∧(ents.toList.map (·.born)).Nodup
 | .iter rem cur=>¬g.nil id∧IterAt g.S w (g.ρ id) rem cur
 | .mark=>g.nil id∧∀b,(g.base id).testBit b=true→g.S b
 | .nmap z k kd es=>¬g.nil id∧∃(ents:Array MapEntry) (clock:Nat),w.heap[g.ρ id]?=some (.map ents clock)∧Ents g.S w kd ents.toList es∧(∀ent∈ents.toList,ent.born<clock)∧(ents.toList.map (·.born)).Nodup ∧
   (∀(i:Nat) (ent:MapEntry) (kv:V×V),ents[i]?=some ent→es[i]?=some kv→∃xs,kv.2=.sl xs∧NewRow g.S (g.base z) k w ent.val xs)∧∀b,(g.base z).testBit b=true→g.S b
abbrev Heap:=List (Nat×Obj')
def find {α:Type} (n:Nat):List (Nat×α)→Option α
 | []=>none
 | (m,x)::r=>bif Nat.beq n m then some x else find n r
def put {α:Type} (n:Nat) (x:α):List (Nat×α)→List (Nat×α)
 | []=>[(n,x)]
 | (m,y)::r=>bif Nat.beq n m then (m,x)::r else (m,y)::put n x r
def del {α:Type} (n:Nat):List (Nat×α)→List (Nat×α)
 | []=>[]
 | (m,y)::r=>bif Nat.beq n m then del n r else (m,y)::del n r
theorem find_put {α:Type} (n m:Nat) (x:α):∀l:List (Nat×α),find m (put n x l)=if m=n then some x else find m l
 | []=>by
  by_cases h:m=n
  ·subst h;simp [put,find,cond_eq_ite,Nat.beq_eq]
  ·simp [put,find,cond_eq_ite,Nat.beq_eq,h]
 | (q,y)::r=>by
  have ih:=find_put n m x r
  by_cases hq:n=q
  ·subst hq
   by_cases h:m=n
   ·subst h;simp [put,find,cond_eq_ite,Nat.beq_eq]
   ·simp [put,find,cond_eq_ite,Nat.beq_eq,h]
  ·by_cases h:m=q
   ·subst h
    have hne:m≠n:=fun e=>hq e.symm
    simp [put,find,cond_eq_ite,Nat.beq_eq,hq,hne]
   ·simp [put,find,cond_eq_ite,Nat.beq_eq,hq,h,ih]
theorem find_del {α:Type} (n m:Nat):∀l:List (Nat×α),find m (del n l)=if m=n then none else find m l
 | []=>by simp [del,find]
 | (q,y)::r=>by
  have ih:=find_del n m r
  by_cases hq:n=q
  ·subst hq
   by_cases h:m=n
   ·subst h;simp [del,cond_eq_ite,Nat.beq_eq,ih]
   ·simp [del,find,cond_eq_ite,Nat.beq_eq,h,ih]
  ·by_cases h:m=q
   ·subst h
    have hne:m≠n:=fun e=>hq e.symm
    simp [del,find,cond_eq_ite,Nat.beq_eq,hq,hne]
   ·simp [del,find,cond_eq_ite,Nat.beq_eq,hq,h,ih]
theorem mem_of_find {α:Type} {n:Nat} {x:α}:∀{l:List (Nat×α)},find n l=some x→(n,x)∈l
 | (m,y)::r,h=>by
  by_cases e:n=m
  ·subst e
   simp [find,cond_eq_ite,Nat.beq_eq] at h
   subst h;simp
  ·simp only [find,cond_eq_ite,Nat.beq_eq,e,if_false] at h
   exact List.mem_cons_of_mem _ (mem_of_find h)
structure St where
 env:List (Nat×V)
 heap:Heap
def tabs0:List (String×IntKind×List Int):=[
 ("internal/strconv.uint64pow10",.u64,[1,10,100,1000,10000,100000,1000000,10000000,100000000,1000000000,10000000000,100000000000,1000000000000,10000000000000,100000000000000,1000000000000000,10000000000000000,100000000000000000,1000000000000000000,10000000000000000000]),
 ("leakresponse/severity.levels",.i64,[1,100,1000,10000]),
 ("leakresponse/notice.deadlines",.i64,[40,16,4,1])]
def errs0:List String:=["strconv.ErrSyntax", "strconv.ErrRange"]
def Tabs (P:Program) (w:World):Prop:=(∀d∈tabs0,(P.globalNamed d.1).isSome=true→Lib.TabIs P w d.1 d.2.1 d.2.2)∧∀n∈errs0,(P.globalNamed n).isSome=true→∃tp p,World.var? P w n=some #[.iface tp p]
structure HRel (P:Program) (g:Gh) (w:World) (H:Heap):Prop where
 obj:∀id o,find id H=some o→OR g w id o
 inj:∀i j o o',find i H=some o→find j H=some o'→¬g.nil i→¬g.nil j→g.ρ i=g.ρ j→i=j
 sep:∀id o,find id H=some o→¬g.nil id→¬g.S (g.ρ id)
 lt:∀b,g.S b→b<w.heap.size
 tabs:∀w',Keep g.S w w'→Tabs P w'
structure Ctx where
 w0:World
 g0:Gh
 H0:Heap
 nt:Nat
 dfr:List Deferred
 kp:List (Nat×Obj)
 hm:Heap
 gp:Gh
 wp:World
def Ctx.M (c:Ctx) (b:Nat):Prop:=∃id o,find id c.hm=some o∧¬c.g0.nil id∧c.g0.ρ id=b
def Ctx.free (c:Ctx) (b:Nat):Prop:=∀o,(b,o)∉c.kp
def Dfr (c:Ctx) (w:World) (ds:List Deferred):Prop :=
 ds=c.dfr∧(∀b o,(b,o)∈c.kp→(c.w0.heap.size≤b∨c.M b)∧w.heap[b]?=some o)∧Keep c.gp.S c.wp w
structure Frm (c:Ctx) (g:Gh) (w:World) (H:Heap):Prop where
 os:w.os=c.w0.os
 tape:w.tape=c.w0.tape
 output:w.output=c.w0.output
 size:c.w0.heap.size≤w.heap.size
 old:∀b,b<c.w0.heap.size→¬c.M b→w.heap[b]?=c.w0.heap[b]?
 own:∀id o,find id H=some o→¬g.nil id→(c.w0.heap.size≤g.ρ id∨c.M (g.ρ id))∧c.free (g.ρ id)
 sup:∀b,c.g0.S b∨c.gp.S b→g.S b
 sub:∀b,g.S b→(c.g0.S b∨c.w0.heap.size≤b∨c.M b)∧c.free b
 par:∀id o,find id c.H0=some o→c.gp.agree g id
structure Rel (P:Program) (c:Ctx) (g:Gh) (σ:St) (a:Act) (w:World):Prop where
 size:a.tmps.size=c.nt
 dfr:Dfr c w a.defers
 env:∀s x,find s σ.env=some x→s<c.nt∧VR g w (a.tmps.getD s undef) x
 hp:HRel P g w σ.heap
 fr:Frm c g w σ.heap
end Go.Ab
