/- The abstract layer, part 1: abstract values, objects and states, and what it means that they describe a world. -/
import Derived.WalkKit
import Derived.Orders
import Derived.Lib.LaidTab
set_option linter.all false
namespace Go.Ab
open Go.RowKit
abbrev zA:=@Array.getElem?_setIfInBounds_ne
abbrev zB:=@List.eq_nil_of_length_eq_zero
abbrev zC:=@Array.getD_eq_getD_getElem?
abbrev zD:=@List.getElem?_append_right
abbrev zE:=@List.getD_eq_getElem?_getD
abbrev zF:=@Array.getElem?_eq_some_iff
abbrev zG:=@List.getElem?_eq_some_iff
abbrev zH:=@List.getElem?_append_left
abbrev zI:=@Array.getElem?_eq_getElem
abbrev zJ:=@List.getElem?_eq_getElem
abbrev zK:=@decide_eq_false_iff_not
abbrev zL:=@Option.bind_eq_some_iff
abbrev zM:=@List.length_eq_zero_iff
abbrev zN:=@List.getElem?_cons_succ
abbrev zO:=@Option.map_eq_some_iff
abbrev zP:=@List.take_of_length_le
abbrev zQ:=@Nat.le_of_ble_eq_true
abbrev zR:=@Nat.eq_of_beq_eq_true
abbrev zT:=@List.mem_iff_getElem?
abbrev zU:=@List.mem_append_right
abbrev zV:=@List.length_singleton
abbrev zW:=@Array.getElem?_toList
abbrev zX:=@Array.getElem?_modify
abbrev zY:=@Array.getElem?_append
abbrev zZ:=@Nat.mul_le_mul_right
abbrev z5:=@List.mem_of_mem_drop
abbrev z6:=@List.mem_of_getElem?
abbrev z7:=@List.mem_iff_getElem
abbrev xA:=@List.mem_cons_of_mem
abbrev xB:=@Bool.or_eq_false_iff
abbrev xC:=@List.drop_succ_cons
abbrev xD:=@Array.length_toList
abbrev xE:=@Nat.lt_of_lt_of_le
abbrev xF:=@List.mem_singleton
abbrev xG:=@List.mem_cons_self
abbrev xH:=@List.length_append
abbrev xI:=@List.getElem?_take
abbrev xJ:=@List.getElem?_drop
abbrev xK:=@Bool.false_ne_true
abbrev xL:=@Bool.false_eq_true
abbrev xM:=@decide_eq_true_eq
abbrev xN:=@Result.andThen_ok
abbrev xO:=@Option.some.injEq
abbrev xP:=@List.getElem?_set
abbrev xQ:=@List.getElem?_map
abbrev xR:=@List.flatMap_cons
abbrev xS:=@List.ext_getElem?
abbrev xU:=@Int.toNat_natCast
abbrev xV:=@Bool.not_eq_true'
abbrev xW:=@Option.getD_some
abbrev xX:=@Option.bind_some
abbrev xY:=@List.take_length
abbrev xZ:=@List.length_take
abbrev wA:=@List.length_cons
abbrev wB:=@List.getElem_mem
abbrev wC:=@List.cons_append
abbrev wD:=@List.all_eq_true
abbrev wE:=@Bool.and_eq_true
abbrev wF:=@Array.toList_inj
abbrev wG:=@decide_eq_false
abbrev wH:=@Option.some.inj
abbrev wI:=@Option.map_some
abbrev wJ:=@List.nil_append
abbrev wK:=@List.mem_filter
abbrev wL:=@List.mem_append
abbrev wM:=@List.length_nil
abbrev wN:=@List.length_map
abbrev wO:=@List.foldl_cons
abbrev wP:=@List.cons.injEq
abbrev wQ:=@List.append_nil
abbrev wR:=@Bool.or_eq_true
abbrev wS:=@Bool.eq_iff_iff
abbrev wT:=@decide_eq_true
abbrev wU:=@List.drop_zero
abbrev wV:=@Bool.not_false
abbrev wW:=@Nat.add_assoc
abbrev wY:=@List.mem_cons
abbrev wZ:=@List.map_cons
abbrev w4:=@Bool.not_true
abbrev w5:=@Bool.false_or
abbrev w6:=@Bool.and_self
abbrev w7:=@Sem.run_pure
abbrev w8:=@Sem.run_bind
abbrev vA:=@Nat.zero_add
abbrev vB:=@Nat.le_trans
abbrev vC:=@Nat.beq_refl
abbrev vD:=@Nat.add_zero
abbrev vE:=@List.mem_map
abbrev vF:=@List.map_nil
abbrev vG:=@Int.le_of_lt
abbrev vH:=@Nat.zero_le
abbrev vI:=@Nat.one_mul
abbrev vJ:=@Nat.le_refl
abbrev vK:=@Nat.add_mul
abbrev vL:=@Int.le_refl
abbrev vM:=@cond_false
abbrev vN:=@Nat.beq_eq
abbrev vO:=@cond_true
abbrev vP:=@Iff.rfl
inductive KD where
 | int (k:IntKind)
 | str
 | bool
inductive V where
 | bool (b:Bool)
 | int (k:IntKind) (n:Int)
 | str (s:List UInt8)
 | nils
 | nilp
 | nilm
 | nilf
 | nili
 | agg (cs:List V)
 | tup (cs:List V)
 | sl (xs:List V)
 | ptr (id off:Nat)
 | eptr (x:V) (off:Nat)
 | osl (id k lo len:Nat)
 | optr (id k i off:Nat)
 | omap (id:Nat)
 | bptr (id:Nat)
 | smap (kd:KD) (es:List (V×V))
 | fn (f:Fn) (cap:List V)
 | any
 | nsl (z k:Nat) (xs:List V)
 | nsmap (z k:Nat) (kd:KD) (es:List (V×V))
 | ifc (b:Bool)
 | adr (b off:Nat)
 | at_ (id b:Nat)
namespace V
def cells:V→List V
 | .agg cs=>cs
 | v=>[v]
def one:V→Bool
 | .agg _|.tup _|.any|.at_ _ _=>false
 | _=>true
def sc:V→Bool
 | .bool _|.int _ _|.str _|.nils|.nilp|.nilm|.nilf|.nili|.ifc _|.sl _|.smap _ _|.adr _ _=>true
 | .fn (.func _) []=>true
 | _=>false
def sealed:V→Bool
 | .agg cs=>cs.all V.sc
 | x=>x.sc
def fl1:V→Bool
 | .bool _|.int _ _|.str _|.nils|.nilp|.nilm|.nilf|.nili|.ifc _|.sl []=>true
 | _=>false
def flat:V→Bool
 | .agg cs=>cs.all V.fl1
 | x=>x.fl1
mutual
def has (n:Nat):V→Bool
 | .ptr id _=>Nat.beq n id
 | .osl id _ _ _=>Nat.beq n id
 | .optr id _ _ _=>Nat.beq n id
 | .omap id=>Nat.beq n id
 | .bptr id=>Nat.beq n id
 | .nsl z _ _=>Nat.beq n z
 | .nsmap z _ _ _=>Nat.beq n z
 | .at_ id _=>Nat.beq n id
 | .agg cs=>hasL n cs
 | .tup cs=>hasL n cs
 | .fn _ cs=>hasL n cs
 | _=>false
def hasL (n:Nat):List V→Bool
 | []=>false
 | x::r=>has n x||hasL n r
end
theorem hasL_mem {n:Nat}:∀{l:List V} {x:V},x∈l→hasL n l=false→x.has n=false
 | y::r,x,hm,h=>by
  simp only [hasL,xB] at h
  rcases wY.1 hm with rfl|hm
  ·exact h.1
  ·exact hasL_mem hm h.2
end V
def KD.is:KD→V→Bool
 | .int .i8,.int .i8 _|.int .i16,.int .i16 _|.int .i32,.int .i32 _|.int .i64,.int .i64 _=>true
 | .int .u8,.int .u8 _|.int .u16,.int .u16 _|.int .u32,.int .u32 _|.int .u64,.int .u64 _=>true
 | .str,.str _=>true
 | .bool,.bool _=>true
 | _,_=>false
inductive a0i where
 | cells (cs:List V) (t:Option TypeId:=none)
 | arr (k:Nat) (xs:List V) (t:Option TypeId:=none)
 | map (kd:KD) (es:List (V×V))
 | iter (rem:List (V×V)) (cur:Option (V×V))
 | mark
 | nmap (z k:Nat) (kd:KD) (es:List (V×V))
def a0i.has (n:Nat):a0i→Bool
 | .cells cs _=>V.hasL n cs
 | .nmap z _ _ _=>Nat.beq n z
 | _=>false
def inR (k:IntKind) (n:Int):Prop:=k.min≤n∧n≤k.max
def a3s (fz:Nat×Nat) (n:Nat):Prop:=fz.1=fz.2∨n≤fz.1
theorem a3s.at {fz:Nat×Nat} {n i:Nat} (h:a3s fz n) (hi:i<n):(decide (fz.1≤i)&&decide (i<fz.2))=false:=by
 rw [Bool.and_eq_false_iff,zK,zK]
 unfold a3s at h
 omega
inductive Rd (S:Nat→Prop) (w:World):Value→V→Prop
 | bool (b:Bool):Rd S w (.bool b) (.bool b)
 | int (k:IntKind) (n:Int) (h:inR k n):Rd S w (.int k n) (.int k n)
 | str (s:ByteArray) (h:s.size≤maxLen):Rd S w (.string s) (.str s.data.toList)
 | nils:Rd S w (.slice none 0 0) .nils
 | nilsl:Rd S w (.slice none 0 0) (.sl [])
 | slz (a:Addr) (cap:Nat):Rd S w (.slice (some a) 0 cap) (.sl [])
 | nilp:Rd S w (.pointer none) .nilp
 | nilm:Rd S w (.map none) .nilm
 | nilf:Rd S w .nilFunc .nilf
 | nili:Rd S w .nilIface .nili
 | ifcn:Rd S w .nilIface (.ifc true)
 | ifcs (t:TypeId) (p:Value):Rd S w (.iface t p) (.ifc false)
 | adr (b off:Nat):Rd S w (.pointer (some ⟨b,off,none⟩)) (.adr b off)
 | fnc (n:Nat):Rd S w (.func (.func n) #[] #[]) (.fn (.func n) [])
 | agg (vs:Array Value) (cs:List V) (hl:vs.size=cs.length) (hr:∀(i:Nat) (c:V),cs[i]?=some c→Rd S w (vs.getD i undef) c):Rd S w (.agg vs) (.agg cs)
 | sl (g o len cap k:Nat) (cur:Array Value) (e:TypeId) (fz:Nat×Nat) (xs:List V) (hS:S g) (hg:w.heap[g]?=some (.cells cur e fz))
   (hl:xs.length=len) (hm:len≤maxLen) (hc:len≤cap) (hb:len=0∨o+len*k≤cur.size) (hk:∀x∈xs,x.cells.length=k∧(∀c∈x.cells,c.one=true)∧x.sealed=true)
   (hr:∀(i j:Nat) (x c:V),xs[i]?=some x→x.cells[j]?=some c→Rd S w (cur.getD (o+i*k+j) undef) c) :
   Rd S w (.slice (some ⟨g,o,none⟩) len cap) (.sl xs)
 | smap (b:Nat) (kd:KD) (ents:Array MapEntry) (clock:Nat) (es:List (V×V)) (hS:S b) (hg:w.heap[b]?=some (.map ents clock)) (hl:ents.size=es.length) (hk:∀kv∈es,kd.is kv.1=true)
   (hb:∀ent∈ents.toList,ent.born<clock) (hn:(ents.toList.map (·.born)).Nodup)
   (hr1:∀(i:Nat) (ent:MapEntry) (kv:V×V),ents[i]?=some ent→es[i]?=some kv→Rd S w ent.key kv.1) (hr2:∀(i:Nat) (ent:MapEntry) (kv:V×V),ents[i]?=some ent→es[i]?=some kv→Rd S w ent.val kv.2) :
   Rd S w (.map (some b)) (.smap kd es)
def a2e (S:Nat→Prop) (w w':World):Prop:=∀b,S b→w'.heap[b]?=w.heap[b]?
theorem Rd.mono {S S':Nat→Prop} {w w':World} (hk:a2e S w w') (hs:∀b,S b→S' b):∀{v:Value} {x:V},Rd S w v x→Rd S' w' v x:=by
 intro v x h
 induction h with
 | bool b=>exact .bool b
 | int k n h=>exact .int k n h
 | str s h=>exact .str s h
 | nils=>exact .nils
 | nilsl=>exact .nilsl
 | slz a cap=>exact .slz a cap
 | nilp=>exact .nilp
 | nilm=>exact .nilm
 | nilf=>exact .nilf
 | nili=>exact .nili
 | ifcn=>exact .ifcn
 | ifcs t p=>exact .ifcs t p
 | adr b off=>exact .adr b off
 | fnc n=>exact .fnc n
 | agg vs cs hl _ ih=>exact .agg vs cs hl ih
 | sl g o len cap k cur e fz xs hS hg hl hm hc hb hk' _ ih=>exact .sl g o len cap k cur e fz xs (hs _ hS) ((hk _ hS).trans hg) hl hm hc hb hk' ih
 | smap b kd ents clock es hS hg hl hk' hb hn _ _ ih1 ih2=>exact .smap b kd ents clock es (hs _ hS) ((hk _ hS).trans hg) hl hk' hb hn ih1 ih2
theorem Rd.agg_inv {S w v cs} (h:Rd S w v (.agg cs)):∃vs:Array Value,v=.agg vs∧vs.size=cs.length∧∀(i:Nat) (c:V),cs[i]?=some c→Rd S w (vs.getD i undef) c:=by
 cases h with
 | agg vs cs hl hr=>exact ⟨vs,rfl,hl,hr⟩
structure Gh where
 S:Nat→Prop
 ρ:Nat→Nat
 base:Nat→Nat
 cap:Nat→Nat
 nil:Nat→Prop
def Gh.agree (g g':Gh) (id:Nat):Prop:=g'.ρ id=g.ρ id∧g'.base id=g.base id∧g'.cap id=g.cap id∧(g'.nil id↔g.nil id)
theorem Gh.agree.refl (g:Gh) (id:Nat):g.agree g id:=⟨rfl,rfl,rfl,vP⟩
theorem Gh.agree.trans {a b c:Gh} {id:Nat} (h:a.agree b id) (k:b.agree c id):a.agree c id :=
 ⟨k.1.trans h.1,k.2.1.trans h.2.1,k.2.2.1.trans h.2.2.1,k.2.2.2.trans h.2.2.2⟩
def d68:TypeId:=4000000000
def c0j (t:Option TypeId) (e:TypeId) (fz:Nat×Nat):Prop:=match t with
 | none=>True
 | some u=>bif Nat.beq u d68 then fz.1=fz.2 else e=u
def tyF:Option TypeId→Option TypeId
 | none=>none
 | some u=>bif Nat.beq u d68 then none else some u
structure b5h (S:Nat→Prop) (w:World) (b base cap k:Nat) (xs:List V) (t:Option TypeId):Prop where
 kpos:0<k
 row:∃(cur:Array Value) (e:TypeId) (fz:Nat×Nat),w.heap[b]?=some (.cells cur e fz)∧cur.size=(base+cap)*k∧(a3s fz cur.size∧c0j t e fz) ∧
  ∀(i j:Nat) (x c:V),xs[i]?=some x→x.cells[j]?=some c→Rd S w (cur.getD ((base+i)*k+j) undef) c
 len:xs.length≤cap
 big:base+cap≤maxLen
 elem:∀x∈xs,x.cells.length=k∧(∀c∈x.cells,c.one=true)∧x.sealed=true
theorem b5h.keepB {S S':Nat→Prop} {w w':World} {b base cap k:Nat} {xs:List V} {t:Option TypeId} (h:b5h S w b base cap k xs t) (hb:w'.heap[b]?=w.heap[b]?) (hk:a2e S w w') (hs:∀b,S b→S' b):b5h S' w' b base cap k xs t:=by
 obtain ⟨h1,⟨cur,e,fz,h2,h3,h4,h5⟩,h6,h7,h8⟩:=h
 exact ⟨h1,⟨cur,e,fz,hb.trans h2,h3,h4,fun i j x c hx hc=>(h5 i j x c hx hc).mono hk hs⟩,h6,h7,h8⟩
def a95 (S:Nat→Prop) (m k:Nat) (w:World) (v:Value) (xs:List V):Prop :=
 (v=.slice none 0 0∧xs=[])∨∃b o base cap c,v=.slice (some ⟨b,o,none⟩) xs.length c∧(c=0∨o=base*k)∧xs.length≤c∧c≤cap∧c≤maxLen∧m.testBit b=false∧S b∧b5h S w b base cap k xs none
theorem a95.mono {S S':Nat→Prop} {m k:Nat} {w w':World} {v:Value} {xs:List V} (h:a95 S m k w v xs) (hk:a2e S w w') (hs:∀b,S b→S' b):a95 S' m k w' v xs:=by
 rcases h with h|⟨b,o,base,cap,c,h1,h0,h2,h3,h4,h5,h6,h7⟩
 ·exact .inl h
 ·exact .inr ⟨b,o,base,cap,c,h1,h0,h2,h3,h4,h5,hs b h6,h7.keepB (hk b h6) hk hs⟩
theorem a95.rd {S:Nat→Prop} {m k:Nat} {w:World} {v:Value} {xs:List V} (h:a95 S m k w v xs):Rd S w v (.sl xs):=by
 rcases h with ⟨rfl,rfl⟩|⟨b,o,base,cap,c,rfl,h0,h2,h3,h4,h5,h6,⟨h7,⟨cur,e,fz,h8,h9,h10,h11⟩,h12,h13,h14⟩⟩
 ·exact .nilsl
 ·refine .sl b o xs.length c k cur e fz xs h6 h8 rfl (vB h2 h4) h2 ?_ h14 fun i j x y hx hy=>?_
  ·rcases h0 with h0|h0
   ·exact .inl (by omega)
   ·refine .inr ?_
    rw [h0,h9,←vK];exact zZ k (by omega)
  ·have hi:=(zG.1 hx).1
   have:=h11 i j x y hx hy
   rw [h0.resolve_left (by omega)]
   rwa [vK] at this
inductive VR (g:Gh) (w:World):Value→V→Prop
 | rd {v:Value} {x:V} (h:Rd g.S w v x):VR g w v x
 | any (v:Value):VR g w v .any
 | ptr (id off:Nat):VR g w (.pointer (some ⟨g.ρ id,off,none⟩)) (.ptr id off)
 | eptr (b o off:Nat) (cur:Array Value) (e:TypeId) (fz:Nat×Nat) (x:V) (hS:g.S b) (hg:w.heap[b]?=some (.cells cur e fz))
   (hb:o+x.cells.length≤cur.size) (hr:∀(j:Nat) (c:V),x.cells[j]?=some c→Rd g.S w (cur.getD (o+j) undef) c) :
   VR g w (.pointer (some ⟨b,o+off,none⟩)) (.eptr x off)
 | oslnil (id k lo:Nat) (h:g.nil id):VR g w (.slice none 0 0) (.osl id k lo 0)
 | osl (id k lo len o c:Nat) (h:¬g.nil id) (ho:c=0∨o=(g.base id+lo)*k) (hc:lo+c≤g.cap id) (hl:len≤c) (hm:c≤maxLen) :
   VR g w (.slice (some ⟨g.ρ id,o,none⟩) len c) (.osl id k lo len)
 | optr (id k i off:Nat):VR g w (.pointer (some ⟨g.ρ id,(g.base id+i)*k+off,none⟩)) (.optr id k i off)
 | omap (id:Nat):VR g w (.map (some (g.ρ id))) (.omap id)
 | bnil (id:Nat):VR g w (.pointer none) (.bptr id)
 | bself (id:Nat):VR g w (.pointer (some ⟨g.ρ id,0,none⟩)) (.bptr id)
 | at_ (id b:Nat) (v:Value) (h:g.ρ id=b):VR g w v (.at_ id b)
 | nsl (z k:Nat) (xs:List V) (v:Value) (h:a95 g.S (g.base z) k w v xs):VR g w v (.nsl z k xs)
 | nsmap (b z k:Nat) (kd:KD) (ents:Array MapEntry) (clock:Nat) (es:List (V×V)) (hr:Rd g.S w (.map (some b)) (.smap kd es)) (hS:g.S b) (hg:w.heap[b]?=some (.map ents clock))
   (hn:∀(i:Nat) (ent:MapEntry) (kv:V×V),ents[i]?=some ent→es[i]?=some kv→∃xs,kv.2=.sl xs∧a95 g.S (g.base z) k w ent.val xs):VR g w (.map (some b)) (.nsmap z k kd es)
 | agg (vs:Array Value) (cs:List V) (hl:vs.size=cs.length) (hr:∀(i:Nat) (c:V),cs[i]?=some c→VR g w (vs.getD i undef) c):VR g w (.agg vs) (.agg cs)
 | tup (vs:Array Value) (cs:List V) (hl:vs.size=cs.length) (hr:∀(i:Nat) (c:V),cs[i]?=some c→VR g w (vs.getD i undef) c):VR g w (.tuple vs) (.tup cs)
 | fn (n:Nat) (vs:Array Value) (cs:List V) (hl:vs.size=cs.length) (hr:∀(i:Nat) (c:V),cs[i]?=some c→VR g w (vs.getD i undef) c):VR g w (.func (.func n) #[] vs) (.fn (.func n) cs)
 | bnd (n:Nat) (vs:Array Value) (cs:List V) (hl:vs.size=cs.length) (hr:∀(i:Nat) (c:V),cs[i]?=some c→VR g w (vs.getD i undef) c):VR g w (.func (.func n) vs #[]) (.fn (.yield n) cs)
theorem VR.mono {g g':Gh} {w w':World} (hk:a2e g.S w w') (hs:∀b,g.S b→g'.S b) :
  ∀{v:Value} {x:V},VR g w v x→(∀id,x.has id=true→g.agree g' id)→VR g' w' v x:=by
 intro v x h
 induction h with
 | rd h=>exact fun _=>.rd (h.mono hk hs)
 | any v=>exact fun _=>.any v
 | ptr id off =>
  intro ha
  have:=(ha id (by simp [V.has])).1
  rw [←this];exact .ptr id off
 | eptr b o off cur e fz x hS hg hb hr=>exact fun _=>.eptr b o off cur e fz x (hs _ hS) ((hk _ hS).trans hg) hb fun j c hc=>(hr j c hc).mono hk hs
 | oslnil id k lo h=>exact fun ha=>.oslnil id k lo ((ha id (by simp [V.has])).2.2.2.2 h)
 | osl id k lo len o c h ho hc hl hm =>
  intro ha
  obtain ⟨h1,h2,h3,h4⟩:=ha id (by simp [V.has])
  rw [←h1]
  exact .osl id k lo len o c (fun h'=>h (h4.1 h')) (by rw [h2];exact ho) (by rw [h3];exact hc) hl hm
 | optr id k i off =>
  intro ha
  obtain ⟨h1,h2,h3,h4⟩:=ha id (by simp [V.has])
  rw [←h1,←h2];exact .optr id k i off
 | omap id =>
  intro ha
  rw [←(ha id (by simp [V.has])).1];exact .omap id
 | bnil id=>exact fun _=>.bnil id
 | bself id =>
  intro ha
  rw [←(ha id (by simp [V.has])).1];exact .bself id
 | at_ id b v h=>exact fun ha=>.at_ id b v ((ha id (by simp [V.has])).1.trans h)
 | nsl z k xs v h =>
  intro ha
  have:=(ha z (by simp [V.has])).2.1
  exact .nsl z k xs v (by rw [this];exact h.mono hk hs)
 | nsmap b z k kd ents clock es hr hS hg hn =>
  intro ha
  have:=(ha z (by simp [V.has])).2.1
  refine .nsmap b z k kd ents clock es (hr.mono hk hs) (hs _ hS) ((hk _ hS).trans hg) fun i ent kv h1 h2=>?_
  obtain ⟨xs,h3,h4⟩:=hn i ent kv h1 h2
  exact ⟨xs,h3,by rw [this];exact h4.mono hk hs⟩
 | agg vs cs hl _ ih =>
  refine fun ha=>.agg vs cs hl fun i c hc=>ih i c hc fun id hid=>ha id ?_
  by_cases hx:V.has id (.agg cs)=true
  ·exact hx
  ·simp only [V.has,Bool.not_eq_true] at hx
   have:=V.hasL_mem (z6 hc) hx
   rw [this] at hid;cases hid
 | tup vs cs hl _ ih =>
  refine fun ha=>.tup vs cs hl fun i c hc=>ih i c hc fun id hid=>ha id ?_
  by_cases hx:V.has id (.tup cs)=true
  ·exact hx
  ·simp only [V.has,Bool.not_eq_true] at hx
   have:=V.hasL_mem (z6 hc) hx
   rw [this] at hid;cases hid
 | fn f vs cs hl _ ih =>
  refine fun ha=>.fn f vs cs hl fun i c hc=>ih i c hc fun id hid=>ha id ?_
  by_cases hx:V.has id (.fn (.func f) cs)=true
  ·exact hx
  ·simp only [V.has,Bool.not_eq_true] at hx
   have:=V.hasL_mem (z6 hc) hx
   rw [this] at hid;cases hid
 | bnd n vs cs hl _ ih =>
  refine fun ha=>.bnd n vs cs hl fun i c hc=>ih i c hc fun id hid=>ha id ?_
  by_cases hx:V.has id (.fn (.yield n) cs)=true
  ·exact hx
  ·simp only [V.has,Bool.not_eq_true] at hx
   have:=V.hasL_mem (z6 hc) hx
   rw [this] at hid;cases hid
structure b5g (S:Nat→Prop) (w:World) (kd:KD) (ents:List MapEntry) (es:List (V×V)):Prop where
 len:ents.length=es.length
 key:∀kv∈es,kd.is kv.1=true
 rd:∀(i:Nat) (ent:MapEntry) (kv:V×V),ents[i]?=some ent→es[i]?=some kv→Rd S w ent.key kv.1∧Rd S w ent.val kv.2
def c0d (S:Nat→Prop) (w:World) (b:Nat) (rem:List (V×V)) (cur:Option (V×V)):Prop :=
 (∃x y z,w.heap[b]?=some (.mapIter none x y z)∧rem=[]∧cur=none) ∨
 ∃m clock seen ents,w.heap[b]?=some (.mapIter (some m) clock seen clock)∧S m∧w.heap[m]?=some (.map ents clock)∧(∀ent∈ents.toList,ent.born<clock)∧(ents.toList.map (·.born)).Nodup ∧
  (ents.toList.filter fun e=>!seen.contains e.born).length=rem.length ∧
  (∀(i:Nat) (ent:MapEntry) (kv:V×V),(ents.toList.filter fun e=>!seen.contains e.born)[i]?=some ent→rem[i]?=some kv→Rd S w ent.key kv.1∧Rd S w ent.val kv.2) ∧
  ∀kv,cur=some kv→∃ent∈ents.toList,seen.back?=some ent.born∧Rd S w ent.key kv.1∧Rd S w ent.val kv.2
def OR (g:Gh) (w:World) (id:Nat):a0i→Prop
 | .cells cs t=>¬g.nil id∧∃(cur:Array Value) (e:TypeId) (fz:Nat×Nat),w.heap[g.ρ id]?=some (.cells cur e fz)∧cur.size=cs.length∧(a3s fz cur.size∧c0j t e fz) ∧
   ∀(i:Nat) (c:V),cs[i]?=some c→VR g w (cur.getD i undef) c
 | .arr k xs t=>(g.nil id∧xs=[])∨(¬g.nil id∧b5h g.S w (g.ρ id) (g.base id) (g.cap id) k xs t)
 | .map kd es=>¬g.nil id∧∃(ents:Array MapEntry) (clock:Nat),w.heap[g.ρ id]?=some (.map ents clock)∧b5g g.S w kd ents.toList es∧(∀ent∈ents.toList,ent.born<clock)∧(ents.toList.map (·.born)).Nodup
 | .iter rem cur=>¬g.nil id∧c0d g.S w (g.ρ id) rem cur
 | .mark=>g.nil id∧∀b,(g.base id).testBit b=true→g.S b
 | .nmap z k kd es=>¬g.nil id∧∃(ents:Array MapEntry) (clock:Nat),w.heap[g.ρ id]?=some (.map ents clock)∧b5g g.S w kd ents.toList es∧(∀ent∈ents.toList,ent.born<clock)∧(ents.toList.map (·.born)).Nodup ∧
   (∀(i:Nat) (ent:MapEntry) (kv:V×V),ents[i]?=some ent→es[i]?=some kv→∃xs,kv.2=.sl xs∧a95 g.S (g.base z) k w ent.val xs)∧∀b,(g.base z).testBit b=true→g.S b
abbrev Heap:=List (Nat×a0i)
def find {α:Type} (n:Nat):List (Nat×α)→Option α
 | []=>none
 | (m,x)::r=>bif Nat.beq n m then some x else find n r
def put {α:Type} (n:Nat) (x:α):List (Nat×α)→List (Nat×α)
 | []=>[(n,x)]
 | (m,y)::r=>bif Nat.beq n m then (m,x)::r else (m,y)::put n x r
def del {α:Type} (n:Nat):List (Nat×α)→List (Nat×α)
 | []=>[]
 | (m,y)::r=>bif Nat.beq n m then del n r else (m,y)::del n r
theorem a10 {α:Type} (n m:Nat) (x:α):∀l:List (Nat×α),find m (put n x l)=if m=n then some x else find m l
 | []=>by
  by_cases h:m=n
  ·subst h;simp [put,find,cond_eq_ite,vN]
  ·simp [put,find,cond_eq_ite,vN,h]
 | (q,y)::r=>by
  have ih:=a10 n m x r
  by_cases hq:n=q
  ·subst hq
   by_cases h:m=n
   ·subst h;simp [put,find,cond_eq_ite,vN]
   ·simp [put,find,cond_eq_ite,vN,h]
  ·by_cases h:m=q
   ·subst h
    have hne:m≠n:=fun e=>hq e.symm
    simp [put,find,cond_eq_ite,vN,hq,hne]
   ·simp [put,find,cond_eq_ite,vN,hq,h,ih]
theorem c3s {α:Type} (n m:Nat):∀l:List (Nat×α),find m (del n l)=if m=n then none else find m l
 | []=>by simp [del,find]
 | (q,y)::r=>by
  have ih:=c3s n m r
  by_cases hq:n=q
  ·subst hq
   by_cases h:m=n
   ·subst h;simp [del,cond_eq_ite,vN,ih]
   ·simp [del,find,cond_eq_ite,vN,h,ih]
  ·by_cases h:m=q
   ·subst h
    have hne:m≠n:=fun e=>hq e.symm
    simp [del,find,cond_eq_ite,vN,hq,hne]
   ·simp [del,find,cond_eq_ite,vN,hq,h,ih]
theorem mem_of_find {α:Type} {n:Nat} {x:α}:∀{l:List (Nat×α)},find n l=some x→(n,x)∈l
 | (m,y)::r,h=>by
  by_cases e:n=m
  ·subst e
   simp [find,cond_eq_ite,vN] at h
   subst h;simp
  ·simp only [find,cond_eq_ite,vN,e,if_false] at h
   exact xA _ (mem_of_find h)
structure St where
 env:List (Nat×V)
 heap:Heap
def c0l:List (String×IntKind×List Int):=[
 ("internal/strconv.uint64pow10",.u64,[1,10,100,1000,10000,100000,1000000,10000000,100000000,1000000000,10000000000,100000000000,1000000000000,10000000000000,100000000000000,1000000000000000,10000000000000000,100000000000000000,1000000000000000000,10000000000000000000]),
 ("leakresponse/severity.levels",.i64,[1,100,1000,10000]),
 ("leakresponse/notice.deadlines",.i64,[40,16,4,1])]
def b9n:List String:=["strconv.ErrSyntax", "strconv.ErrRange"]
def f7f (P:Program) (w:World):Prop:=(∀d∈c0l,(P.globalNamed d.1).isSome=true→Lib.TabIs P w d.1 d.2.1 d.2.2)∧∀n∈b9n,(P.globalNamed n).isSome=true→∃tp p,World.var? P w n=some #[.iface tp p]
structure a3p (P:Program) (g:Gh) (w:World) (H:Heap):Prop where
 obj:∀id o,find id H=some o→OR g w id o
 inj:∀i j o o',find i H=some o→find j H=some o'→¬g.nil i→¬g.nil j→g.ρ i=g.ρ j→i=j
 sep:∀id o,find id H=some o→¬g.nil id→¬g.S (g.ρ id)
 lt:∀b,g.S b→b<w.heap.size
 tabs:∀w',a2e g.S w w'→f7f P w'
structure Ctx where
 w0:World
 g0:Gh
 H0:Heap
 nt:Nat
 dfr:List Deferred
 kp:List (Nat×Obj)
 hm:Heap
 gp:Gh
 wp:World
def Ctx.M (c:Ctx) (b:Nat):Prop:=∃id o,find id c.hm=some o∧¬c.g0.nil id∧c.g0.ρ id=b
def Ctx.free (c:Ctx) (b:Nat):Prop:=∀o,(b,o)∉c.kp
def Dfr (c:Ctx) (w:World) (ds:List Deferred):Prop :=
 ds=c.dfr∧(∀b o,(b,o)∈c.kp→(c.w0.heap.size≤b∨c.M b)∧w.heap[b]?=some o)∧a2e c.gp.S c.wp w
structure Frm (c:Ctx) (g:Gh) (w:World) (H:Heap):Prop where
 os:w.os=c.w0.os
 tape:w.tape=c.w0.tape
 output:w.output=c.w0.output
 size:c.w0.heap.size≤w.heap.size
 old:∀b,b<c.w0.heap.size→¬c.M b→w.heap[b]?=c.w0.heap[b]?
 own:∀id o,find id H=some o→¬g.nil id→(c.w0.heap.size≤g.ρ id∨c.M (g.ρ id))∧c.free (g.ρ id)
 sup:∀b,c.g0.S b∨c.gp.S b→g.S b
 sub:∀b,g.S b→(c.g0.S b∨c.w0.heap.size≤b∨c.M b)∧c.free b
 par:∀id o,find id c.H0=some o→c.gp.agree g id
structure Rel (P:Program) (c:Ctx) (g:Gh) (σ:St) (a:Act) (w:World):Prop where
 size:a.tmps.size=c.nt
 dfr:Dfr c w a.defers
 env:∀s x,find s σ.env=some x→s<c.nt∧VR g w (a.tmps.getD s undef) x
 hp:a3p P g w σ.heap
 fr:Frm c g w σ.heap
structure Eff where
 val:V
 drop:List Nat
 new:List (Nat×a0i)
def c9f:List Nat→Heap→Heap
 | [],H=>H
 | n::r,H=>c9f r (del n H)
def puts:List (Nat×a0i)→Heap→Heap
 | [],H=>H
 | (n,o)::r,H=>puts r (put n o H)
def Eff.heap (e:Eff) (H:Heap):Heap:=puts e.new (c9f e.drop H)
def c4f (d:Option Nat) (x:V) (env:List (Nat×V)):List (Nat×V) :=
 match d with
 | some d=>put d x env
 | none=>env
def St.app (σ:St) (d:Option Nat) (e:Eff):St:=⟨c4f d e.val σ.env,e.heap σ.heap⟩
theorem a6k (m:Nat):∀(l:List Nat) (H:Heap),find m (c9f l H)=if m∈l then none else find m H
 | [],H=>by simp [c9f]
 | n::r,H=>by
  rw [c9f,a6k m r,c3s]
  by_cases h1:m∈r<;>by_cases h2:m=n<;>simp [h1,h2]
theorem a2a {m:Nat}:∀{l:List (Nat×a0i)} {H:Heap},(∀o,(m,o)∉l)→find m (puts l H)=find m H
 | [],H,_=>rfl
 | (n,o)::r,H,h=>by
  rw [puts,a2a (fun o ho=>h o (xA _ ho)),a10]
  have:m≠n:=fun e=>h o (by rw [e];exact xG)
  simp [this]
theorem b0f {m:Nat} {o:a0i}:∀{l:List (Nat×a0i)} {H:Heap},find m (puts l H)=some o→(∃o',(m,o')∈l)→(m,o)∈l
 | [],H,_,⟨_,h⟩=>by cases h
 | (n,o1)::r,H,h,⟨o',hm⟩=>by
  rw [puts] at h
  by_cases hr:∃o'',(m,o'')∈r
  ·exact xA _ (b0f h hr)
  ·rw [a2a (fun o ho=>hr ⟨o,ho⟩),a10] at h
   rcases wY.1 hm with hm|hm
   ·cases hm
    simp at h;subst h;exact xG
   ·exact absurd ⟨_,hm⟩ hr
def Eff.ids (e:Eff):List Nat:=e.drop++e.new.map (·.1)
theorem Eff.find_other {e:Eff} {H:Heap} {id:Nat} (h:id∉e.ids):find id (e.heap H)=find id H:=by
 simp only [Eff.ids,wL,not_or,vE,not_exists,not_and] at h
 rw [Eff.heap,a2a (fun o ho=>h.2 _ ho rfl),a6k,if_neg h.1]
theorem Eff.find_cases {e:Eff} {H:Heap} {id:Nat} {o:a0i} (h:find id (e.heap H)=some o):(id,o)∈e.new∨(id∉e.ids∧find id H=some o):=by
 by_cases hn:∃o',(id,o')∈e.new
 ·exact .inl (b0f h hn)
 ·rw [Eff.heap,a2a (fun o ho=>hn ⟨o,ho⟩),a6k] at h
  by_cases hd:id∈e.drop
  ·simp [hd] at h
  ·refine .inr ⟨?_,by simpa [hd] using h⟩
   simp only [Eff.ids,wL,not_or,vE,not_exists,not_and]
   exact ⟨hd,fun p hp he=>hn ⟨p.2,by rw [←he];exact hp⟩⟩
def a7u (n:Nat):List (Nat×V)→Bool
 | []=>true
 | (_,x)::r=>!x.has n&&a7u n r
def a1h (n:Nat):Heap→Bool
 | []=>true
 | (_,x)::r=>!x.has n&&a1h n r
theorem a3l {n s:Nat} {x:V}:∀{l:List (Nat×V)},a7u n l=true→find s l=some x→x.has n=false:=by
 intro l h hf
 have hm:=mem_of_find hf
 clear hf
 induction l with
 | nil=>cases hm
 | cons p r ih =>
  obtain ⟨m,y⟩:=p
  simp only [a7u,wE,xV] at h
  rcases wY.1 hm with hm|hm
  ·cases hm;exact h.1
  ·exact ih h.2 hm
theorem a3k {n s:Nat} {x:a0i}:∀{l:Heap},a1h n l=true→find s l=some x→x.has n=false:=by
 intro l h hf
 have hm:=mem_of_find hf
 clear hf
 induction l with
 | nil=>cases hm
 | cons p r ih =>
  obtain ⟨m,y⟩:=p
  simp only [a1h,wE,xV] at h
  rcases wY.1 hm with hm|hm
  ·cases hm;exact h.1
  ·exact ih h.2 hm
theorem b5h.mono {S S':Nat→Prop} {w w':World} {b base cap k:Nat} {xs:List V} {t:Option TypeId} (h:b5h S w b base cap k xs t) (hk:a2e S w w') (hs:∀b,S b→S' b) (hb:w'.heap[b]?=w.heap[b]?) :
  b5h S' w' b base cap k xs t:=by
 obtain ⟨hp,⟨cur,e,fz,h1,h2,h3,h4⟩,h5,h6,h7⟩:=h
 exact ⟨hp,⟨cur,e,fz,hb.trans h1,h2,h3,fun i j x c hx hc=>(h4 i j x c hx hc).mono hk hs⟩,h5,h6,h7⟩
theorem b5g.mono {S S':Nat→Prop} {w w':World} {kd:KD} {ents:List MapEntry} {es:List (V×V)} (h:b5g S w kd ents es) (hk:a2e S w w') (hs:∀b,S b→S' b):b5g S' w' kd ents es :=
 ⟨h.len,h.key,fun i ent kv hi hj=>⟨(h.rd i ent kv hi hj).1.mono hk hs,(h.rd i ent kv hi hj).2.mono hk hs⟩⟩
theorem c0d.mono {S S':Nat→Prop} {w w':World} {b:Nat} {rem:List (V×V)} {cur:Option (V×V)} (h:c0d S w b rem cur) (hk:a2e S w w') (hs:∀b,S b→S' b) (hb:w'.heap[b]?=w.heap[b]?):c0d S' w' b rem cur:=by
 rcases h with ⟨x,y,z,h1,h2⟩|⟨m,clock,seen,ents,h1,h2,h3,h4,h5,h6,h7,h8⟩
 ·exact .inl ⟨x,y,z,hb.trans h1,h2⟩
 ·refine .inr ⟨m,clock,seen,ents,hb.trans h1,hs _ h2,(hk _ h2).trans h3,h4,h5,h6,fun i ent kv hi hj=>⟨(h7 i ent kv hi hj).1.mono hk hs,(h7 i ent kv hi hj).2.mono hk hs⟩,fun kv hc=>?_⟩
  obtain ⟨ent,k1,k2,k3,k4⟩:=h8 kv hc
  exact ⟨ent,k1,k2,k3.mono hk hs,k4.mono hk hs⟩
theorem OR.mono {g g':Gh} {w w':World} {id:Nat} {o:a0i} (h:OR g w id o) (hk:a2e g.S w w') (hs:∀b,g.S b→g'.S b)
  (hid:g.agree g' id) (hb:¬g.nil id→w'.heap[g.ρ id]?=w.heap[g.ρ id]?) (hr:∀n,o.has n=true→g.agree g' n) (hz:w.heap.size≤w'.heap.size):OR g' w' id o:=by
 obtain ⟨e1,e2,e3,e4⟩:=hid
 cases o with
 | cells cs t =>
  obtain ⟨hn,cur,e,fz,h1,h2,h3,h4⟩:=h
  refine ⟨fun h=>hn (e4.1 h),cur,e,fz,by rw [e1,hb hn];exact h1,h2,h3,fun i c hc=>(h4 i c hc).mono hk hs fun n hn=>hr n ?_⟩
  by_cases hx:a0i.has n (.cells cs t)=true
  ·exact hx
  ·simp only [a0i.has,Bool.not_eq_true] at hx
   have:=V.hasL_mem (z6 hc) hx
   rw [this] at hn;cases hn
 | arr k xs t =>
  rcases h with ⟨hn,hx⟩|⟨hn,ha⟩
  ·exact .inl ⟨e4.2 hn,hx⟩
  ·refine .inr ⟨fun h=>hn (e4.1 h),?_⟩
   rw [e1,e2,e3];exact ha.mono hk hs (hb hn)
 | map kd es =>
  obtain ⟨hn,ents,clock,h1,h2,h3⟩:=h
  exact ⟨fun h=>hn (e4.1 h),ents,clock,by rw [e1,hb hn];exact h1,h2.mono hk hs,h3⟩
 | iter rem cur =>
  obtain ⟨hn,h1⟩:=h
  refine ⟨fun h=>hn (e4.1 h),?_⟩
  rw [e1];exact h1.mono hk hs (hb hn)
 | mark =>
  obtain ⟨h1,h2⟩:=h
  exact ⟨e4.2 h1,fun b hb=>hs b (h2 b (by rw [←e2];exact hb))⟩
 | nmap z k kd es =>
  obtain ⟨hn,ents,clock,h1,h2,h3,h4,h5,h6⟩:=h
  have ez:=(hr z (by simp [a0i.has])).2.1
  refine ⟨fun h=>hn (e4.1 h),ents,clock,by rw [e1,hb hn];exact h1,h2.mono hk hs,h3,h4,fun i ent kv hi hj=>?_,fun b hb=>hs b (h6 b (by rw [←ez];exact hb))⟩
  obtain ⟨xs,k1,k2⟩:=h5 i ent kv hi hj
  exact ⟨xs,k1,by rw [ez];exact k2.mono hk hs⟩
theorem OR.block {g:Gh} {w:World} {id:Nat} {o:a0i} (h:OR g w id o) (hn:¬g.nil id):g.ρ id<w.heap.size:=by
 have hlt:∀{o:Obj},w.heap[g.ρ id]?=some o→g.ρ id<w.heap.size:=fun h=>(zF.1 h).1
 cases o with
 | cells cs t=>obtain ⟨_,cur,e,fz,h1,_⟩:=h;exact hlt h1
 | arr k xs t =>
  rcases h with ⟨h,_⟩|⟨_,_,⟨cur,e,fz,h1,_⟩,_⟩
  ·exact absurd h hn
  ·exact hlt h1
 | map kd es=>obtain ⟨_,ents,clock,h1,_⟩:=h;exact hlt h1
 | iter rem cur =>
  obtain ⟨_,h1⟩:=h
  rcases h1 with ⟨x,y,z,h1,_⟩|⟨m,clock,seen,ents,h1,_⟩<;>exact hlt h1
 | mark=>exact absurd h.1 hn
 | nmap z k kd es=>obtain ⟨_,ents,clock,h1,_⟩:=h;exact hlt h1
structure a09 (g:Gh) (H:Heap) (w:World) (e:Eff) (g':Gh) (w':World):Prop where
 os:w'.os=w.os
 tape:w'.tape=w.tape
 output:w'.output=w.output
 size:w.heap.size≤w'.heap.size
 keep:∀b,b<w.heap.size→(∀id o,id∈e.ids→find id H=some o→¬g.nil id→g.ρ id≠b)→w'.heap[b]?=w.heap[b]?
 sup:∀b,g.S b→g'.S b
 sub:∀b,g'.S b→g.S b∨w.heap.size≤b∨∃id o,id∈e.ids∧find id H=some o∧¬g.nil id∧g.ρ id=b
 slt:∀b,g'.S b→b<w'.heap.size
 agree:∀id,(∀o,(id,o)∉e.new)→g.agree g' id
 obj:∀id o,(id,o)∈e.new→OR g' w' id o
 blk:∀id o,(id,o)∈e.new→¬g'.nil id→w.heap.size≤g'.ρ id∨∃id0 o0,id0∈e.ids∧find id0 H=some o0∧¬g.nil id0∧g.ρ id0=g'.ρ id
 inj:∀i j o o',(i,o)∈e.new→(j,o')∈e.new→¬g'.nil i→¬g'.nil j→g'.ρ i=g'.ρ j→i=j
 sep:∀id o,(id,o)∈e.new→¬g'.nil id→¬g'.S (g'.ρ id)
def a13 (H0:Heap) (g g':Gh) (σ:St) (e:Eff):Prop :=
 ∀id o,(id,o)∈e.new→g.agree g' id∨(find id H0=none∧(∀s x,find s σ.env=some x→x.has id=false)∧∀n o',find n σ.heap=some o'→n∉e.ids→o'.has id=false)
theorem a3p.step {P:Program} {H0:Heap} {g g':Gh} {σ:St} {w w':World} {e:Eff} (h:a3p P g w σ.heap) (hs:a09 g σ.heap w e g' w') (hf:a13 H0 g g' σ e) :
  a2e g.S w w'∧a3p P g' w' (e.heap σ.heap)∧(∀v x,VR g w v x→(∃s,find s σ.env=some x)→VR g' w' v x):=by
 have hkeep:a2e g.S w w':=fun b hb=>hs.keep b (h.lt b hb) fun id o _ ho hn he=>h.sep id o ho hn (he▸hb)
 have hag:∀id,(∀o,(id,o)∉e.new)∨g.agree g' id∨((∀s x,find s σ.env=some x→x.has id=false)∧∀n o',find n σ.heap=some o'→n∉e.ids→o'.has id=false):=by
  intro id
  by_cases hn:∃o,(id,o)∈e.new
  ·obtain ⟨o,ho⟩:=hn
   rcases hf id o ho with h1|h1
   ·exact .inr (.inl h1)
   ·exact .inr (.inr h1.2)
  ·exact .inl fun o ho=>hn ⟨o,ho⟩
 refine ⟨hkeep,⟨?_,?_,?_,hs.slt,fun w2 hw2=>h.tabs w2 fun b hb=>(hw2 b (hs.sup b hb)).trans (hkeep b hb)⟩,?_⟩
 ·intro id o ho
  rcases Eff.find_cases ho with hn|⟨hid,ho⟩
  ·exact hs.obj id o hn
  ·have hnew:∀o',(id,o')∉e.new:=fun o' ho'=>hid (by
    simp only [Eff.ids,wL,vE]
    exact .inr ⟨_,ho',rfl⟩)
   refine (h.obj id o ho).mono hkeep hs.sup (hs.agree id hnew) (fun hn=>hs.keep _ ((h.obj id o ho).block hn) fun id0 o0 hid0 ho0 hn0 he=>?_) (fun n hn=>?_) hs.size
   ·exact hid (h.inj id0 id o0 o ho0 ho hn0 hn he▸hid0)
   ·rcases hag n with h1|h1|h1
    ·exact hs.agree n h1
    ·exact h1
    ·rw [h1.2 id o ho hid] at hn;cases hn
 ·intro i j o o' hi hj hni hnj he
  rcases Eff.find_cases hi with hi|⟨hii,hi⟩<;>rcases Eff.find_cases hj with hj|⟨hjj,hj⟩
  ·exact hs.inj i j o o' hi hj hni hnj he
  ·have hnew:∀o',(j,o')∉e.new:=fun o' ho'=>hjj (by simp only [Eff.ids,wL,vE];exact .inr ⟨_,ho',rfl⟩)
   obtain ⟨a1,_,_,a4⟩:=hs.agree j hnew
   have hnj':¬g.nil j:=fun h=>hnj (a4.2 h)
   have hb:=(h.obj j o' hj).block hnj'
   rcases hs.blk i o hi hni with h1|⟨id0,o0,hid0,ho0,hn0,he0⟩
   ·rw [he,a1] at h1;omega
   ·exact absurd (h.inj id0 j o0 o' ho0 hj hn0 hnj' (by rw [he0,he,a1])) (fun e1=>hjj (e1▸hid0))
  ·have hnew:∀o',(i,o')∉e.new:=fun o' ho'=>hii (by simp only [Eff.ids,wL,vE];exact .inr ⟨_,ho',rfl⟩)
   obtain ⟨a1,_,_,a4⟩:=hs.agree i hnew
   have hni':¬g.nil i:=fun h=>hni (a4.2 h)
   have hb:=(h.obj i o hi).block hni'
   rcases hs.blk j o' hj hnj with h1|⟨id0,o0,hid0,ho0,hn0,he0⟩
   ·rw [←he,a1] at h1;omega
   ·exact absurd (h.inj id0 i o0 o ho0 hi hn0 hni' (by rw [he0,←he,a1])) (fun e1=>hii (e1▸hid0))
  ·have hnew:∀k,k∉e.ids→∀o',(k,o')∉e.new:=fun k hk o' ho'=>hk (by simp only [Eff.ids,wL,vE];exact .inr ⟨_,ho',rfl⟩)
   obtain ⟨a1,_,_,a4⟩:=hs.agree i (hnew i hii)
   obtain ⟨b1,_,_,b4⟩:=hs.agree j (hnew j hjj)
   exact h.inj i j o o' hi hj (fun h=>hni (a4.2 h)) (fun h=>hnj (b4.2 h)) (by rw [←a1,←b1];exact he)
 ·intro id o ho hn hS
  rcases Eff.find_cases ho with hnew|⟨hid,ho⟩
  ·exact hs.sep id o hnew hn hS
  ·have hnew:∀o',(id,o')∉e.new:=fun o' ho'=>hid (by simp only [Eff.ids,wL,vE];exact .inr ⟨_,ho',rfl⟩)
   obtain ⟨a1,_,_,a4⟩:=hs.agree id hnew
   have hn':¬g.nil id:=fun h=>hn (a4.2 h)
   rw [a1] at hS
   rcases hs.sub _ hS with h1|h1|⟨id0,o0,hid0,ho0,hn0,he0⟩
   ·exact h.sep id o ho hn' h1
   ·have:=(h.obj id o ho).block hn';omega
   ·exact hid (h.inj id0 id o0 o ho0 ho hn0 hn' he0▸hid0)
 ·intro v x hv ⟨s,hx⟩
  refine hv.mono hkeep hs.sup fun id hid=>?_
  rcases hag id with h1|h1|h1
  ·exact hs.agree id h1
  ·exact h1
  ·rw [h1.1 s x hx] at hid;cases hid
theorem Dfr.step {c:Ctx} {g g':Gh} {σ:St} {w w':World} {e:Eff} {ds:List Deferred} (h:Dfr c w ds) (hf:Frm c g w σ.heap) (hk:a2e g.S w w') (hs:a09 g σ.heap w e g' w'):Dfr c w' ds :=
 ⟨h.1,fun b o hb=>⟨(h.2.1 b o hb).1,(hs.keep b (zF.1 (h.2.1 b o hb).2).1 fun id o' _ ho hn e=>(hf.own id o' ho hn).2 o (e▸hb)).trans (h.2.1 b o hb).2⟩,
  fun b hb=>(hk b (hf.sup b (.inr hb))).trans (h.2.2 b hb)⟩
theorem Frm.step {c:Ctx} {g g':Gh} {σ:St} {w w':World} {e:Eff} {ds:List Deferred} (hd:Dfr c w ds) (hf:Frm c g w σ.heap) (hs:a09 g σ.heap w e g' w') (hfr:a13 c.H0 g g' σ e):Frm c g' w' (e.heap σ.heap):=by
 have new:∀b,w.heap.size≤b→c.free b:=fun b hb o hm=>by
  have:=(zF.1 (hd.2.1 b o hm).2).1
  omega
 refine ⟨hs.os.trans hf.os,hs.tape.trans hf.tape,hs.output.trans hf.output,vB hf.size hs.size,?_,?_,fun b hb=>hs.sup b (hf.sup b hb),?_,?_⟩
 ·intro b hb hM
  refine (hs.keep b (xE hb hf.size) fun id o _ ho hn he=>?_).trans (hf.old b hb hM)
  rcases (hf.own id o ho hn).1 with h1|h1
  ·omega
  ·exact hM (he▸h1)
 ·intro id o ho hn
  rcases Eff.find_cases ho with hnew|⟨hid,ho⟩
  ·rcases hs.blk id o hnew hn with h1|⟨id0,o0,hid0,ho0,hn0,he0⟩
   ·exact ⟨.inl (vB hf.size h1),new _ h1⟩
   ·rw [←he0];exact hf.own id0 o0 ho0 hn0
  ·have hnew:∀o',(id,o')∉e.new:=fun o' ho'=>hid (by simp only [Eff.ids,wL,vE];exact .inr ⟨_,ho',rfl⟩)
   obtain ⟨a1,_,_,a4⟩:=hs.agree id hnew
   rw [a1];exact hf.own id o ho fun h=>hn (a4.2 h)
 ·intro b hb
  rcases hs.sub b hb with h1|h1|⟨id0,o0,hid0,ho0,hn0,he0⟩
  ·exact hf.sub b h1
  ·exact ⟨.inr (.inl (vB hf.size h1)),new _ h1⟩
  ·rw [←he0];exact ⟨.inr (hf.own id0 o0 ho0 hn0).1,(hf.own id0 o0 ho0 hn0).2⟩
 ·intro id o1 hid
  refine (hf.par id o1 hid).trans ?_
  by_cases hn:∃o,(id,o)∈e.new
  ·obtain ⟨o,ho⟩:=hn
   rcases hfr id o ho with h1|h1
   ·exact h1
   ·rw [hid] at h1;cases h1.1
  ·exact hs.agree id fun o ho=>hn ⟨o,ho⟩
theorem Rel.step {P:Program} {c:Ctx} {g g':Gh} {σ:St} {a:Act} {w w':World} {d:Option Nat} {v:Value} {e:Eff} (h:Rel P c g σ a w) (hd:∀n,d=some n→n<c.nt)
  (hs:a09 g σ.heap w e g' w') (hf:a13 c.H0 g g' σ e) (hv:VR g' w' v e.val):Rel P c g' (σ.app d e) (a.put d v) w':=by
 obtain ⟨hk,hH,hV⟩:=h.hp.step hs hf
 refine ⟨?_,?_,?_,hH,h.fr.step h.dfr hs hf⟩
 ·cases d<;>simp [Act.put,h.size]
 ·have:=h.dfr.step h.fr hk hs
  cases d<;>exact this
 ·intro s x hx
  cases d with
  | none =>
   obtain ⟨h1,h2⟩:=h.env s x hx
   exact ⟨h1,hV _ _ h2 ⟨s,hx⟩⟩
  | some d =>
   simp only [St.app,c4f,a10] at hx
   have hdn:=hd d rfl
   by_cases e1:s=d
   ·subst e1
    simp at hx;subst hx
    refine ⟨hdn,?_⟩
    have hlt:s<a.tmps.size:=by rw [h.size];exact hdn
    simpa [Act.put,zC,hlt] using hv
   ·simp only [e1,if_false] at hx
    obtain ⟨h1,h2⟩:=h.env s x hx
    have hne:¬d=s:=fun e=>e1 e.symm
    refine ⟨h1,?_⟩
    have:=hV _ _ h2 ⟨s,hx⟩
    simpa [Act.put,zC,zA hne] using this
theorem a09.val {g:Gh} {H:Heap} {w w':World} (x:V) (hlt:∀b,g.S b→b<w.heap.size) (h1:w'.os=w.os) (h2:w'.tape=w.tape) (h3:w'.output=w.output) (h4:w'.heap=w.heap) :
  a09 g H w ⟨x,[],[]⟩ g w' :=
 ⟨h1,h2,h3,by rw [h4];exact vJ _,fun b _ _=>by rw [h4],fun _ h=>h,fun b hb=>.inl hb,fun b hb=>by rw [h4];exact hlt b hb,
  fun id _=>Gh.agree.refl _ _,fun _ _ h=>by simp at h,fun _ _ h=>by simp at h,fun _ _ _ _ h=>by simp at h,fun _ _ h=>by simp at h⟩
theorem a13.val {H0:Heap} {g:Gh} {σ:St} (x:V):a13 H0 g g σ ⟨x,[],[]⟩:=fun _ _ h=>by simp at h
theorem Rel.put {P:Program} {c:Ctx} {g:Gh} {σ:St} {a:Act} {w:World} {d:Option Nat} {v:Value} {x:V} (h:Rel P c g σ a w) (hd:∀n,d=some n→n<c.nt) (hv:VR g w v x) :
  Rel P c g (σ.app d ⟨x,[],[]⟩) (a.put d v) w :=
 h.step hd (a09.val x h.hp.lt rfl rfl rfl rfl) (a13.val x) hv
def Gh.set (g:Gh) (n b base cap:Nat):Gh :=
 { g with ρ:=fun i=>if i=n then b else g.ρ i,base:=fun i=>if i=n then base else g.base i,cap:=fun i=>if i=n then cap else g.cap i,nil:=fun i=>i≠n∧g.nil i }
theorem Gh.set_agree {g:Gh} {n b base cap i:Nat} (h:i≠n):g.agree (g.set n b base cap) i:=by
 simp [Gh.agree,Gh.set,h]
theorem a09.alloc {g:Gh} {H:Heap} {w w':World} (x:V) (n base cap:Nat) (o:a0i) (B:Obj) (hlt:∀b,g.S b→b<w.heap.size) (h1:w'.os=w.os) (h2:w'.tape=w.tape) (h3:w'.output=w.output) (h4:w'.heap=w.heap.push B)
  (ho:OR (g.set n w.heap.size base cap) w' n o):a09 g H w ⟨x,[],[(n,o)]⟩ (g.set n w.heap.size base cap) w':=by
 have hsz:w'.heap.size=w.heap.size+1:=by rw [h4];simp
 refine ⟨h1,h2,h3,by omega,fun b hb _=>?_,fun _ h=>h,fun b hb=>.inl hb,fun b hb=>by have:=hlt b hb;omega,fun id hid=>Gh.set_agree fun e=>hid o (by simp [e]),?_,?_,?_,?_⟩
 ·rw [h4,Array.getElem?_push,if_neg (by omega)]
 ·intro id o' h;simp at h;obtain ⟨rfl,rfl⟩:=h;exact ho
 ·intro id o' h _;simp at h;obtain ⟨rfl,rfl⟩:=h;exact .inl (by simp [Gh.set])
 ·intro i j o1 o2 hi hj;simp at hi hj;intro _ _ _;rw [hi.1,hj.1]
 ·intro id o' h _ hS
  simp at h;obtain ⟨rfl,rfl⟩:=h
  have:(g.set id w.heap.size base cap).ρ id=w.heap.size:=by simp [Gh.set]
  rw [this] at hS
  have:=hlt _ hS
  omega
theorem a13.one {H0:Heap} {g g':Gh} {σ:St} {x:V} {n:Nat} {o:a0i} {dr:List Nat} (hn:find n H0=none) (he:a7u n σ.env=true) (hh:∀m o',find m σ.heap=some o'→m∉(Eff.mk x dr [(n,o)]).ids→o'.has n=false):a13 H0 g g' σ ⟨x,dr,[(n,o)]⟩:=by
 intro id o' h
 simp at h;obtain ⟨rfl,rfl⟩:=h
 exact .inr ⟨hn,fun s x hx=>a3l he hx,hh⟩
theorem a09.upd {P:Program} {g:Gh} {H:Heap} {w w':World} (x:V) (n:Nat) (o o':a0i) (hH:a3p P g w H) (hf:find n H=some o) (hn:¬g.nil n) (h1:w'.os=w.os) (h2:w'.tape=w.tape) (h3:w'.output=w.output) (h4:w'.heap.size=w.heap.size)
  (h5:∀b,b≠g.ρ n→w'.heap[b]?=w.heap[b]?) (ho:OR g w' n o'):a09 g H w ⟨x,[],[(n,o')]⟩ g w':=by
 refine ⟨h1,h2,h3,by omega,fun b hb hb'=>h5 b fun e=>hb' n o (by simp [Eff.ids]) hf hn e.symm,fun _ h=>h,fun b hb=>.inl hb,fun b hb=>by have:=hH.lt b hb;omega,fun id _=>Gh.agree.refl _ _,?_,?_,?_,?_⟩
 ·intro id o1 h;simp at h;obtain ⟨rfl,rfl⟩:=h;exact ho
 ·intro id o1 h _;simp at h;obtain ⟨rfl,rfl⟩:=h;exact .inr ⟨id,o,by simp [Eff.ids],hf,hn,rfl⟩
 ·intro i j o1 o2 hi hj;simp at hi hj;intro _ _ _;rw [hi.1,hj.1]
 ·intro id o1 h hn';simp at h;obtain ⟨rfl,rfl⟩:=h;exact hH.sep _ o hf hn'
theorem a13.upd {H0:Heap} {g:Gh} {σ:St} (e:Eff):a13 H0 g g σ e:=fun _ _ _=>.inl (Gh.agree.refl _ _)
def callable (P:Program) (f:FuncId):Bool :=
 match P.funcs[f]? with
 | some fn=>!(fn.name == "runtime.NumGoroutine")&&fn.body.isSome
 | none=>false
def a0s (P:Program) (f:FuncId) (args:List V) (H:Heap) (Q:V→Heap→Prop):Prop :=
 callable P f=true∧∀(g:Gh) (w:World) (vals:Array Value),a3p P g w H→vals.size=args.length→(∀(i:Nat) (x:V),args[i]?=some x→VR g w (vals.getD i undef) x) →
  Calls P f vals w fun e w'=>∃v r H' g',e=.returned v∧Q r H'∧a3p P g' w' H'∧VR g' w' v r∧Frm ⟨w,g,H,0,[],[],H,g,w⟩ g' w' H' ∧
   (∀id,find id H'=none→g.agree g' id)
inductive Opd where
 | t (n:Nat)
 | c (v:V)
 | f (n:Nat)
def get (n:Nat):List (Nat×V)→V
 | []=>.any
 | (m,x)::r=>bif Nat.beq n m then x else get n r
theorem a2f (n:Nat):∀l:List (Nat×V),get n l=(find n l).getD .any
 | []=>rfl
 | (m,x)::r=>by
  have:=a2f n r
  simp only [get,find,cond_eq_ite]
  split<;>simp [this]
def Opd.ev (env:List (Nat×V)):Opd→V
 | .t n=>get n env
 | .c v=>v
 | .f n=>.fn (.func n) []
def kEq:IntKind→IntKind→Bool
 | .i8,.i8|.i16,.i16|.i32,.i32|.i64,.i64|.u8,.u8|.u16,.u16|.u32,.u32|.u64,.u64=>true
 | _,_=>false
theorem b2h {a b:IntKind} (h:kEq a b=true):a=b:=by cases a<;>cases b<;>first|rfl|(simp [kEq] at h)
def rng:IntKind→Int→Prop
 | .i8,n=>-128≤n∧n≤127
 | .i16,n=>-32768≤n∧n≤32767
 | .i32,n=>-2147483648≤n∧n≤2147483647
 | .i64,n=>-9223372036854775808≤n∧n≤9223372036854775807
 | .u8,n=>0≤n∧n≤255
 | .u16,n=>0≤n∧n≤65535
 | .u32,n=>0≤n∧n≤4294967295
 | .u64,n=>0≤n∧n≤18446744073709551615
theorem a1q {k:IntKind} {n:Int}:inR k n↔rng k n:=by
 cases k<;>simp [inR,rng,IntKind.min,IntKind.max,IntKind.signed,IntKind.bits]
mutual
def cOK:V→Value→Bool
 | .bool b,.bool b'=>b==b'
 | .int k n,.int k' n'=>kEq k k'&&(n==n')&&decide (k.min≤n)&&decide (n≤k.max)
 | .str s,.string s'=>(s==s'.data.toList)&&decide (s.length≤4611686018427387904)
 | .nils,.slice none 0 0=>true
 | .sl [],.slice none 0 0=>true
 | .nilp,.pointer none=>true
 | .nilm,.map none=>true
 | .nilf,.nilFunc=>true
 | .nili,.nilIface=>true
 | .ifc true,.nilIface=>true
 | .agg cs,.agg vs=>c9w cs vs.toList
 | _,_=>false
def c9w:List V→List Value→Bool
 | [],[]=>true
 | c::cs,v::vs=>cOK c v&&c9w cs vs
 | _,_=>false
end
def Opd.ok:Opd→Operand→Bool
 | .t n,.tmp m=>Nat.beq n m
 | .c v,.const u=>cOK v u
 | .f n,.func m=>Nat.beq n m
 | _,_=>false
def b04:List Opd→List Operand→Bool
 | [],[]=>true
 | a::r,b::s=>a.ok b&&b04 r s
 | _,_=>false
def b1i:Option Opd→Option Operand→Bool
 | none,none=>true
 | some a,some b=>a.ok b
 | _,_=>false
inductive c0c where
 | mk (kd:KD)
 | lku (kd:KD) (ok:Bool) (z:V)
 | up (kd:KD)
 | del (kd:KD)
 | len
 | rng
 | nxt
 | ent
 | isn (ng:Bool)
 | tab (i:Nat)
 | ups (kd:KD)
 | ifz (ng:Bool)
 | fnz (ng:Bool)
 | apc (k bytes:Nat)
inductive a0a where
 | mv (x:Opd)
 | pick (c a b:Opd)
 | alloc (zs:List V) (t:Option TypeId:=none)
 | box (x:Opd)
 | build (zs:List V) (parts:List (Nat×Nat×Opd))
 | bslice (k:Nat) (xs:List Opd) (uv:Bool:=false)
 | ld (n:Option Nat) (a:Opd)
 | st (n:Nat) (a v:Opd)
 | nck (a:Opd)
 | bin (chk:Bool) (op:BinOp) (x y:Opd)
 | mask (m:Nat) (x:Opd) (k:IntKind)
 | beq (neg:Bool) (x y:Opd)
 | eqs (neg:Bool) (ks:List Nat) (x y:Opd)
 | not (x:Opd)
 | neg (chk:Bool) (x:Opd)
 | i2i (chk:Bool) (k:IntKind) (x:Opd)
 | mkfn (f:Nat) (cap:List Opd)
 | mksl (k bytes:Nat) (z:V) (l c:Opd)
 | sls (x:Opd) (lo hi:Option Opd)
 | slc (k:Nat) (x:Opd) (lo hi:Option Opd)
 | fad (off:Nat) (x:Opd)
 | iad (k:Nat) (x i:Opd)
 | idx (x i:Opd)
 | aix (n:Option Nat) (k cnt:Nat) (x i:Opd)
 | barr (k:Nat) (zs:List V) (xs:List Opd)
 | lsl (k:Nat) (xs:List Opd)
 | ext (i:Nat) (x:Opd)
 | len (s:Bool) (x:Opd)
 | app (k bytes:Nat) (x y:Opd) (ty:Option TypeId:=none)
 | mm (mx:Bool) (x y:Opd)
 | mp (m:c0c) (xs:List Opd)
 | call (f:Opd) (args:List Opd) (ids news:List Nat)
def a5a:Option Opd→List Opd
 | some x=>[x]
 | none=>[]
def a0a.opds:a0a→List Opd
 | .mv x|.box x|.ld _ x|.nck x|.mask _ x _|.not x|.neg _ x|.i2i _ _ x|.fad _ x|.ext _ x|.len _ x=>[x]
 | .pick c a b=>[c,a,b]
 | .alloc ..=>[]
 | .build _ ps=>ps.map fun p=>p.2.2
 | .bslice _ xs _=>xs
 | .barr _ _ xs=>xs
 | .lsl _ xs=>xs
 | .st _ a v|.bin _ _ a v|.eqs _ _ a v|.beq _ a v|.mksl _ _ _ a v|.iad _ a v|.idx a v|.aix _ _ _ a v|.app _ _ a v _|.mm _ a v=>[a,v]
 | .mkfn _ cap=>cap
 | .mp _ xs=>xs
 | .sls x lo hi|.slc _ x lo hi=>x::(a5a lo++a5a hi)
 | .call f args _ _=>f::args
def vid:V→List Nat
 | .ptr id _|.osl id _ _ _|.optr id _ _ _|.omap id|.bptr id=>[id]
 | _=>[]
def a0a.touch:a0a→List V→List Nat
 | .ld ..,a::_=>vid a
 | .st ..,a::_=>vid a
 | .app ..,a::b::_=>vid a++vid b
 | .mp (.ups _) _,a::_::v::_=>vid a++vid v
 | .mp (.apc _ _) _,a::v::_=>vid a++vid v
 | .mp ..,a::_=>vid a
 | .call _ _ ids _,_=>ids
 | _,_=>[]
def a0a.creates:a0a→Nat→List Nat
 | .alloc ..,d|.box _,d|.bslice ..,d|.mksl ..,d|.app ..,d=>[d]
 | .mp (.mk _) _,d|.mp .rng _,d|.mp (.apc _ _) _,d=>[d]
 | .call _ _ _ news,_=>news
 | _,_=>[]
def c48 (n:Nat):Bool:=decide (n≤9223372036854775807)
theorem d0y {n:Nat}:c48 n=true↔n≤9223372036854775807:=by simp [c48]
attribute [irreducible] c48
def u8 (n:Int):UInt8:=UInt8.ofNat (n % 256).toNat
def asc (n:Int):Bool:=decide (0≤n)&&decide (n<128)
def eqn (a b:Nat):Bool:=Nat.beq a b
attribute [irreducible] asc eqn
def d51 (chk:Bool) (op:BinOp) (x y:V) (K:V→Prop):Prop :=
 match x,y with
 | .int k a,.int k' b =>
  match op with
  | .add=>bif kEq k k' then (bif chk then rng k (a+b)∧K (.int k (a+b)) else K (.int k (k.wrap (a+b)))) else False
  | .sub=>bif kEq k k' then (bif chk then rng k (a - b)∧K (.int k (a - b)) else K (.int k (k.wrap (a - b)))) else False
  | .mul=>bif kEq k k' then (bif chk then rng k (a*b)∧K (.int k (a*b)) else K (.int k (k.wrap (a*b)))) else False
  | .quo=>bif kEq k k' then (bif chk then (0≤a∧0<b)∧K (.int k (a / b)) else b≠0∧K (.int k (k.wrap (a.tdiv b)))) else False
  | .rem=>bif kEq k k' then (bif chk then (0≤a∧0<b)∧K (.int k (a % b)) else b≠0∧K (.int k (a.tmod b))) else False
  | .and=>bif kEq k k' then K (.int k (bits .and k a b)) else False
  | .or=>bif kEq k k' then K (.int k (bits .or k a b)) else False
  | .xor=>bif kEq k k' then K (.int k (bits .xor k a b)) else False
  | .andNot=>bif kEq k k' then K (.int k (bits .andNot k a b)) else False
  | .eql=>bif kEq k k' then K (.bool (decide (a=b))) else False
  | .neq=>bif kEq k k' then K (.bool (!decide (a=b))) else False
  | .lss=>bif kEq k k' then K (.bool (decide (a<b))) else False
  | .leq=>bif kEq k k' then K (.bool (decide (a≤b))) else False
  | .gtr=>bif kEq k k' then K (.bool (decide (b<a))) else False
  | .geq=>bif kEq k k' then K (.bool (decide (b≤a))) else False
  | .shl=>(0≤b∧b≤k.bits)∧K (.int k (k.wrap (a*2^b.toNat)))
  | .shr=>(0≤b∧b≤k.bits)∧K (.int k (a / 2^b.toNat))
 | .str a,.str b =>
  match op with
  | .add=>c48 (a.length+b.length)=true∧K (.str (a++b))
  | .eql=>K (.bool (decide (a=b)))
  | .neq=>K (.bool (!decide (a=b)))
  | .lss=>K (.bool (Op.bytesLess a b))
  | .leq=>K (.bool (Op.bytesLess a b||decide (a=b)))
  | .gtr=>K (.bool (!(Op.bytesLess a b||decide (a=b))))
  | .geq=>K (.bool (!Op.bytesLess a b))
  | _=>False
 | _,_=>False
def a0z:List Nat→List V→List V→Option Bool
 | [],[],[]=>some true
 | 0::q,.int k a::r,.int k' b::s=>bif kEq k k' then (a0z q r s).map fun t=>decide (a=b)&&t else none
 | 1::q,.str a::r,.str b::s=>(a0z q r s).map fun t=>decide (a=b)&&t
 | 2::q,.bool a::r,.bool b::s=>(a0z q r s).map fun t=>(a==b)&&t
 | _,_,_=>none
def setCells (cs:List V) (off:Nat) (ys:List V):List V:=cs.take off++ys++cs.drop (off+ys.length)
def V.nany:V→Bool
 | .any|.at_ _ _=>false
 | _=>true
def b0h:List V→List (Nat×Nat×V)→Option (List V)
 | cs,[]=>some cs
 | cs,(off,n,x)::r=>bif x.nany&&Nat.beq x.cells.length n&&Nat.ble (off+n) cs.length then b0h (setCells cs off x.cells) r else none
def part (n:Option Nat) (off:Nat) (cs:List V) (K:V→Prop):Prop :=
 match n with
 | none=>match cs.drop off with
  | c::_=>K c
  | []=>False
 | some n=>bif Nat.ble (off+n) cs.length then K (.agg ((cs.drop off).take n)) else False
def a4j (k:Nat) (x:V):Bool:=Nat.beq x.cells.length k&&x.cells.all V.one&&x.sealed
def V.elems:V→Option (List V)
 | .nils=>some []
 | .sl xs=>some xs
 | _=>none
def bounds (lo hi:Bool) (len:Nat) (r:List V):Option (Int×Int) :=
 match lo,hi,r with
 | true,true,[.int _ a,.int _ b]=>some (a,b)
 | true,false,[.int _ a]=>some (a,(len:Int))
 | false,true,[.int _ b]=>some (0,b)
 | false,false,[]=>some (0,(len:Int))
 | _,_,_=>none
def b8f:List Nat→(Nat→Option a0i)→Option Heap
 | [],_=>some []
 | n::r,ob=>match ob n with
  | some o=>(b8f r ob).map fun H=>(n,o)::H
  | none=>none
def mem (n:Nat):List Nat→Bool
 | []=>false
 | m::r=>Nat.beq n m||mem n r
def b1q:Heap→List Nat→List Nat→Bool
 | [],_,_=>true
 | (n,_)::r,ids,news=>(mem n ids||mem n news)&&(match find n r with|none=>true|some _=>false)&&b1q r ids news
def c0q (c a b:V) (K:V→Prop):Prop :=
 match c with
 | .bool t=>match a,b with
  | .bool x,.bool y=>K (.bool (bif t then x else y))
  | _,_=>bif t then K a else K b
 | _=>False
def sLd (n:Option Nat) (a:V) (ob:Nat→Option a0i) (K L:V→Prop):Prop :=
 match a with
 | .ptr id off=>match ob id with
  | some (.cells cs _)=>part n off cs K
  | _=>False
 | .eptr x off=>part n off x.cells K
 | .optr id k i off=>match ob id with
  | some (.arr k' xs _)=>bif Nat.beq k k' then ∃x,xs[i]?=some x∧part n off x.cells L else False
  | _=>False
 | _=>False
def sSt (n:Nat) (a v:V) (ob:Nat→Option a0i) (K L:Nat→a0i→Prop):Prop :=
 bif Nat.beq v.cells.length n&&v.cells.all V.one then
  match a with
  | .ptr id off=>match ob id with
   | some (.cells cs t)=>bif Nat.ble (off+n) cs.length then K id (.cells (setCells cs off v.cells) t) else False
   | _=>False
  | .optr id k i off=>match ob id with
   | some (.arr k' xs t)=>bif Nat.beq k k'&&v.sealed then
     (bif Nat.beq off 0&&Nat.beq n k then i<xs.length∧K id (.arr k (xs.set i v) t)
      else ∃cs,xs[i]?=some (.agg cs)∧off+n≤k∧L id (.arr k (xs.set i (.agg (setCells cs off v.cells))) t)) else False
   | _=>False
  | _=>False
 else False
def e2d (a:V) (K:V→Prop):Prop :=
 match a with
 | .ptr ..|.eptr ..|.optr ..=>K a
 | _=>False
def c0s (m:Nat) (k:IntKind) (x:V) (K:V→Prop):Prop :=
 match x with
 | .int k' a=>bif kEq k k' then K (.int k (a % 2^m)) else False
 | _=>False
def e2h (ng:Bool) (x y:V) (K:V→Prop):Prop :=
 match x,y with
 | .bool a,.bool b=>K (.bool (bif ng then !(a==b) else a==b))
 | _,_=>False
def d73 (ng:Bool) (ks:List Nat) (x y:V) (K:V→Prop):Prop :=
 match x,y with
 | .agg cs,.agg ds=>match a0z ks cs ds with
  | some t=>K (.bool (bif ng then !t else t))
  | none=>False
 | _,_=>False
def e2a (x:V) (K:V→Prop):Prop :=
 match x with
 | .bool t=>K (.bool (!t))
 | _=>False
def e2c (chk:Bool) (x:V) (K:V→Prop):Prop :=
 match x with
 | .int k a=>bif chk then rng k (-a)∧K (.int k (-a)) else K (.int k (k.wrap (0 - a)))
 | _=>False
def e2f (chk:Bool) (k:IntKind) (x:V) (K:V→Prop):Prop :=
 match x with
 | .int _ a=>bif chk then rng k a∧K (.int k a) else K (.int k (k.wrap a))
 | _=>False
def h04 (x:V) (K:V→Prop):Prop :=
 match x with
 | .str _=>K x
 | _=>False
def a18 (c:UInt8):V:=.int .u8 c.toNat
def g9z (d:Nat) (x:V) (K:Eff→Prop):Prop :=
 match x with
 | .str s=>K ⟨.osl d 1 0 s.length,[],[(d,.arr 1 (s.map a18))]⟩
 | _=>False
def h06 (x:V) (ob:Nat→Option a0i) (K L:V→Prop):Prop :=
 match x with
 | .nils=>K (.str [])
 | .sl xs=>∃s:List UInt8,xs=s.map a18∧L (.str s)
 | .osl id k lo n=>match ob id with
  | some (.arr k' xs _)=>bif Nat.beq k k'&&Nat.beq k 1 then ∃s:List UInt8,(xs.drop lo).take n=s.map a18∧s.length=n∧L (.str s) else False
  | _=>False
 | _=>False
def uvT:Bool→Option TypeId
 | true=>some d68
 | false=>none
def h03 (x:V) (ob:Nat→Option a0i) (K:Eff→Prop):Prop :=
 match x with
 | .osl id k lo n=>match ob id with
  | some (.arr k' xs t)=>bif Nat.beq k k'&&Nat.beq k 1&&Nat.blt 0 n then K ⟨.osl id k lo n,[],[(id,.arr k' xs (tyF t))]⟩ else False
  | _=>False
 | _=>False
def c0r (k bytes d:Nat) (z l c:V) (K:Eff→Prop):Prop :=
 match l,c with
 | .int .i64 a,.int .i64 b=>(0≤a∧a≤b∧b*bytes≤140737488355328)∧K ⟨.osl d k 0 a.toNat,[],[(d,.arr k (List.replicate a.toNat z))]⟩
 | _,_=>False
def d6o (lo hi:Bool) (x:V) (r:List V) (K:V→Prop):Prop :=
 match x with
 | .str s=>match bounds lo hi s.length r with
  | some (a,b)=>(0≤a∧a≤b∧b≤s.length)∧K (.str ((s.take b.toNat).drop a.toNat))
  | none=>False
 | _=>False
def d4z (k:Nat) (lo hi:Bool) (x:V) (r:List V) (K:V→Prop):Prop :=
 match x with
 | .sl xs=>match bounds lo hi xs.length r with
  | some (a,b)=>(0≤a∧a≤b∧b≤xs.length)∧(∀x∈xs,x.cells.length=k)∧K (.sl ((xs.take b.toNat).drop a.toNat))
  | none=>False
 | .osl id k' l n=>match bounds lo hi n r with
  | some (a,b)=>bif Nat.beq k k' then (0≤a∧a≤b∧b≤n)∧K (.osl id k (l+a.toNat) (b.toNat - a.toNat)) else False
  | none=>False
 | _=>False
def e2g (off:Nat) (x:V) (K:V→Prop):Prop :=
 match x with
 | .ptr id o=>K (.ptr id (o+off))
 | .eptr y o=>K (.eptr y (o+off))
 | .optr id k i o=>K (.optr id k i (o+off))
 | _=>False
def h05 (n:Option Nat) (off:Nat) (x:V) (K:V→Prop):Prop :=
 match x with
 | .agg cs=>part n off cs K
 | _=>False
def d0f (k:Nat) (x i:V) (K L:V→Prop):Prop :=
 match i with
 | .int _ n=>match x with
  | .sl xs=>0≤n∧∃y,xs[n.toNat]?=some y∧y.cells.length=k∧L (.eptr y 0)
  | .osl id k' lo m=>bif Nat.beq k k' then (0≤n∧n<m)∧K (.optr id k (lo+n.toNat) 0) else False
  | _=>False
 | _=>False
def e2e (x i:V) (K:V→Prop):Prop :=
 match x,i with
 | .str s,.int _ n=>(0≤n∧n<s.length)∧K (.int .u8 (s.getD n.toNat 0).toNat)
 | _,_=>False
def e2i (n:Option Nat) (k cnt:Nat) (x i:V) (K:V→Prop):Prop :=
 match x,i with
 | .agg cs,.int _ m=>(0≤m∧m<cnt)∧part n (m.toNat*k) cs K
 | _,_=>False
def h07 (k cnt:Nat) (x i:V) (K:V→Prop):Prop :=
 match x,i with
 | .ptr id o,.int _ m=>(0≤m∧m<cnt)∧K (.ptr id (o+m.toNat*k))
 | .eptr y o,.int _ m=>(0≤m∧m<cnt)∧K (.eptr y (o+m.toNat*k))
 | _,_=>False
def a2o (k:Nat):Nat→List V→List (Nat×Nat×V)
 | _,[]=>[]
 | n,x::r=>(n*k,k,x)::a2o k (n+1) r
def g1q (x:V) (K:V→Prop):Prop :=
 match x with
 | .str s=>K (.sl (s.map a18))
 | _=>False
def d71 (i:Nat) (x:V) (K:V→Prop):Prop :=
 match x with
 | .tup cs=>match cs.drop i with
  | c::_=>K c
  | []=>False
 | _=>False
def sLen (s:Bool) (x:V) (K:V→Prop):Prop :=
 match x with
 | .str t=>bif s then K (.int .i64 t.length) else False
 | .nils=>bif s then False else K (.int .i64 0)
 | .sl xs=>bif s then False else K (.int .i64 xs.length)
 | .osl _ _ _ n=>bif s then False else K (.int .i64 n)
 | _=>False
def a7i (k:Nat) (y:V) (ob:Nat→Option a0i):Option (List V) :=
 match y with
 | .nils=>some []
 | .sl ys=>some ys
 | .osl id k' lo n=>match ob id with
  | some (.arr k'' ys _)=>bif Nat.beq k k'&&Nat.beq k k'' then some ((ys.drop lo).take n) else none
  | _=>none
 | .str s=>bif Nat.beq k 1 then some (s.map a18) else none
 | _=>none
def e3x:V→Nat
 | .osl _ _ _ n=>n
 | _=>0
def tyJ:Option TypeId→Option TypeId→Option TypeId
 | some a,some b=>bif Nat.beq a b then some a else none
 | _,_=>none
def c2r (k bytes d:Nat) (ty:Option TypeId) (x y:V) (ob:Nat→Option a0i) (K:Eff→Prop):Prop :=
 match a7i k y ob with
 | some ys=>e3x y≤ys.length∧match x with
  | .nils=>(ys.length*bytes≤140737488355328∧∀y∈ys,y.cells.length=k)∧K ⟨.osl d k 0 ys.length,[],[(d,.arr k ys ty)]⟩
  | .osl id k' lo n=>match ob id with
   | some (.arr k'' xs t0)=>bif Nat.beq k k'&&Nat.beq k k'' then (lo+n=xs.length∧(n+ys.length)*bytes≤140737488355328∧∀y∈ys,y.cells.length=k)∧K ⟨.osl d k 0 (n+ys.length),[id],[(d,.arr k (xs.drop lo++ys) (tyJ t0 ty))]⟩ else False
   | _=>False
  | _=>False
 | none=>False
def sMm (mx:Bool) (x y:V) (K:V→Prop):Prop :=
 match x,y with
 | .int k a,.int k' b=>bif kEq k k' then K (.int k (bif mx then max a b else min a b)) else False
 | _,_=>False
def b2x (P:Program) (f:V) (args:List V) (ids news:List Nat) (ob:Nat→Option a0i) (L:Eff→Prop):Prop :=
 match f with
 | .fn (.func n) cap=>match b8f ids ob with
  | some H=>a0s P n (args++cap) H fun r H'=>(bif b1q H' ids news then L ⟨r,ids,H'⟩ else False)
  | none=>False
 | .fn (.yield n) fs=>match b8f ids ob with
  | some H=>a0s P n (fs++args) H fun r H'=>(bif b1q H' ids news then L ⟨r,ids,H'⟩ else False)
  | none=>False
 | _=>False
def d75 (d:Nat) (x:V) (K:Eff→Prop):Prop :=
 match x with
 | .any=>False
 | .at_ _ _=>False
 | .agg cs=>K ⟨.ptr d 0,[],[(d,.cells cs)]⟩
 | x=>K ⟨.ptr d 0,[],[(d,.cells [x])]⟩
def evl (x:V):Eff:=⟨x,[],[]⟩
def eup (id:Nat) (o:a0i):Eff:=⟨.any,[],[(id,o)]⟩
def keq:V→V→Bool
 | .int _ a,.int _ b=>decide (a=b)
 | .str a,.str b=>decide (a=b)
 | .bool a,.bool b=>a==b
 | _,_=>false
def c38 (k:V):List (V×V)→Option V
 | []=>none
 | (a,b)::r=>bif keq k a then some b else c38 k r
def b8a (k v:V):List (V×V)→List (V×V)
 | []=>[(k,v)]
 | (a,b)::r=>bif keq k a then (a,v)::r else (a,b)::b8a k v r
def c55 (k:V):List (V×V)→List (V×V)
 | []=>[]
 | (a,b)::r=>bif keq k a then r else (a,b)::c55 k r
def b1n (x:V) (ob:Nat→Option a0i) (K:KD→List (V×V)→Prop):Prop :=
 match x with
 | .smap kd es=>K kd es
 | .omap id=>match ob id with
  | some (.map kd es)=>K kd es
  | some (.nmap _ _ kd es)=>K kd es
  | _=>False
 | _=>False
def a5p (ok:Bool) (z:V):Option V→V
 | none=>bif ok then .tup [z,.bool false] else z
 | some v=>bif ok then .tup [v,.bool true] else v
def g1u (m p:Nat):Option V→V
 | some (.sl xs)=>.nsl m p xs
 | _=>.nsl m p []
def b8x (ok:Bool) (m p:Nat) (o:Option V):V:=bif ok then .tup [g1u m p o,.bool o.isSome] else g1u m p o
def V.isNilS:V→Bool
 | .nils|.sl []=>true
 | _=>false
def d6i (ob:Nat→Option a0i):List V→Option (List V×List Nat)
 | []=>some ([],[])
 | .osl j q 0 n::r=>match ob j with
  | some (.arr q' ys _)=>bif Nat.beq q q'&&Nat.beq n ys.length then (match d6i ob r with|some p=>some (.sl ys::p.1,j::p.2)|none=>none) else none
  | _=>none
 | x::r=>bif a4j 1 x then (match d6i ob r with|some p=>some (x::p.1,p.2)|none=>none) else none
def e2n (ng:Bool) (x:V) (K:Eff→Prop):Prop:=match x with
 | .nilf=>K (evl (.bool (!ng)))
 | .fn (.func _) _=>K (evl (.bool ng))
 | _=>False
def c0u (lo n len m bytes:Nat):Bool:=decide (lo+n≤len)&&decide ((n+m)*bytes≤140737488355328)
theorem b8n {lo n len m bytes:Nat}:c0u lo n len m bytes=true↔lo+n≤len∧(n+m)*bytes≤140737488355328:=by simp [c0u]
attribute [irreducible] c0u
def a2j (op:c0c) (d:Nat) (vs:List V) (ob:Nat→Option a0i) (K L:Eff→Prop):Prop :=
 match op,vs with
 | .mk kd,[]=>K ⟨.omap d,[],[(d,.map kd [])]⟩
 | .lku kd ok z,[x,k]=>match x with
  | .nilm=>bif kd.is k then K (evl (a5p ok z none)) else False
  | .nsmap m p kd' es=>bif kd.is k&&kd'.is k&&z.isNilS then K (evl (b8x ok m p (c38 k es))) else False
  | x=>b1n x ob fun kd' es=>bif kd.is k&&kd'.is k then K (evl (a5p ok z (c38 k es))) else False
 | .up kd',[.omap id,k,v]=>match ob id with
  | some (.map kd es)=>bif kd'.is k&&kd.is k&&v.sealed then K (eup id (.map kd (b8a k v es))) else False
  | _=>False
 | .del kd',[.omap id,k]=>match ob id with
  | some (.map kd es)=>bif kd'.is k&&kd.is k then K ⟨.tup [],[],[(id,.map kd (c55 k es))]⟩ else False
  | _=>False
 | .len,[x]=>match x with
  | .nilm=>K (evl (.int .i64 0))
  | x=>b1n x ob fun _ es=>(es.length:Int)≤9223372036854775807∧K (evl (.int .i64 es.length))
 | .rng,[x]=>match x with
  | .nilm=>K ⟨.ptr d 0,[],[(d,.iter [] none)]⟩
  | .smap _ es=>K ⟨.ptr d 0,[],[(d,.iter es none)]⟩
  | _=>False
 | .nxt,[.ptr id 0]=>match ob id with
  | some (.iter rem _)=>(rem=[]→L ⟨.tup [.bool false],[],[(id,.iter [] none)]⟩)∧∀(i:Nat) (e:V×V),rem[i]?=some e→L ⟨.tup [.bool true,e.1,e.2],[],[(id,.iter (rem.eraseIdx i) (some e))]⟩
  | _=>False
 | .ent,[.ptr id 0]=>match ob id with
  | some (.iter _ (some e))=>K (evl (.tup [e.1,e.2]))
  | _=>False
 | .isn ng,[x]=>match x with
  | .nils=>L (evl (.bool (!ng)))
  | .sl xs=>(xs=[]→L (evl (.bool (!ng))))∧L (evl (.bool ng))
  | .osl _ _ _ n=>(n=0→L (evl (.bool (!ng))))∧L (evl (.bool ng))
  | _=>False
 | .tab i,[]=>match c0l[i]? with
  | some d=>K (evl (.agg (d.2.2.map (V.int d.2.1))))
  | none=>False
 | .ups kd',[.omap id,k,.osl j q 0 n]=>match ob id,ob j with
  | some (.map kd es),some (.arr q' xs _)=>bif kd'.is k&&kd.is k&&(Nat.beq q q'&&Nat.beq n xs.length&&!Nat.beq id j) then K ⟨.any,[j],[(id,.map kd (b8a k (.sl xs) es))]⟩ else False
  | some (.nmap z p kd es),some (.arr q' xs _)=>bif kd'.is k&&kd.is k&&(Nat.beq q q'&&Nat.beq n xs.length&&!Nat.beq id j)&&Nat.beq q p then K ⟨.any,[j],[(id,.nmap z p kd (b8a k (.sl xs) es))]⟩ else False
  | _,_=>False
 | .ifz ng,[.ifc b]=>K (evl (.bool (bif ng then !b else b)))
 | .fnz ng,[x]=>e2n ng x K
 | .apc k bytes,[.osl id k' lo n,y]=>match a7i k y ob with
  | some ys=>e3x y≤ys.length∧match ob id with
   | some (.arr k'' xs _)=>bif Nat.beq k k'&&Nat.beq k k''&&!y.has id then (c0u lo n xs.length ys.length bytes=true∧∀y∈ys,y.cells.length=k)∧K ⟨.osl d k 0 ((xs.drop lo).take n++ys).length,[id],[(d,.arr k ((xs.drop lo).take n++ys))]⟩ else False
   | _=>False
  | none=>False
 | _,_=>False
def p9 (P:Program) (i:a0a) (d:Nat) (vs:List V) (ob:Nat→Option a0i) (K L:Eff→Prop):Prop :=
 match i,vs with
 | .mv _,[x]=>K (evl x)
 | .pick ..,[c,a,b]=>c0q c a b fun x=>K (evl x)
 | .alloc zs t,_=>K ⟨.ptr d 0,[],[(d,.cells zs t)]⟩
 | .box _,[x]=>d75 d x K
 | .build zs ps,vs=>match b0h zs ((ps.zip vs).map fun p=>(p.1.1,p.1.2.1,p.2)) with
  | some cs=>K (evl (.agg cs))
  | none=>False
 | .bslice k _ uv,vs=>bif vs.all (a4j k) then K ⟨.osl d k 0 vs.length,[],[(d,.arr k vs (uvT uv))]⟩ else False
 | .ld n _,[a]=>sLd n a ob (fun x=>K (evl x)) (fun x=>L (evl x))
 | .st n _ _,[a,v]=>sSt n a v ob (fun id o=>K (eup id o)) (fun id o=>L (eup id o))
 | .nck _,[a]=>e2d a fun x=>K (evl x)
 | .bin chk op _ _,[x,y]=>d51 chk op x y fun r=>K (evl r)
 | .mask m _ k,[x]=>c0s m k x fun r=>K (evl r)
 | .beq ng _ _,[x,y]=>e2h ng x y fun r=>K (evl r)
 | .eqs ng ks _ _,[x,y]=>d73 ng ks x y fun r=>K (evl r)
 | .not _,[x]=>e2a x fun r=>K (evl r)
 | .neg chk _,[x]=>e2c chk x fun r=>K (evl r)
 | .i2i chk k _,[x]=>e2f chk k x fun r=>K (evl r)
 | .mkfn f _,vs=>K (evl (.fn (.func f) vs))
 | .mksl k bytes z _ _,[l,c]=>c0r k bytes d z l c K
 | .sls _ lo hi,x::r=>d6o lo.isSome hi.isSome x r fun r=>K (evl r)
 | .slc k _ lo hi,x::r=>d4z k lo.isSome hi.isSome x r fun r=>K (evl r)
 | .fad off _,[x]=>e2g off x fun r=>K (evl r)
 | .iad k _ _,[x,i]=>d0f k x i (fun r=>K (evl r)) (fun r=>L (evl r))
 | .idx _ _,[x,i]=>e2e x i fun r=>K (evl r)
 | .aix n k cnt _ _,[x,i]=>e2i n k cnt x i fun r=>K (evl r)
 | .lsl k _,vs=>bif vs.all (a4j k) then K (evl (.sl vs)) else False
 | .barr k zs _,vs=>match b0h zs (a2o k 0 vs) with
  | some cs=>K (evl (.agg cs))
  | none=>False
 | .ext i _,[x]=>d71 i x fun r=>K (evl r)
 | .len s _,[x]=>sLen s x fun r=>K (evl r)
 | .app k bytes _ _ ty,[x,y]=>c2r k bytes d ty x y ob K
 | .mm mx _ _,[x,y]=>sMm mx x y fun r=>K (evl r)
 | .mp op _,vs=>a2j op d vs ob K L
 | .call _ _ ids news,f::args=>b2x P f args ids news ob L
 | _,_=>False
def c41 (P:Program) (t:TypeId):Option (Option Nat) :=
 match P.underlying t,P.info? t with
 | some (.struct _),some i=>some (some i.size)
 | some (.array _ _),some i=>some (some i.size)
 | some _,some _=>some none
 | _,_=>none
def a5j (P:Program) (t:TypeId) (n:Nat):Bool :=
 match P.info? t with
 | some i=>Nat.beq i.size n
 | none=>false
def isSlice (P:Program) (t:TypeId) (k:Nat):Bool :=
 match P.underlying t with
 | some (.slice e)=>a5j P e k
 | _=>false
def c3f (P:Program) (t:TypeId):Bool :=
 match P.underlying t with
 | some .string=>true
 | _=>false
def c8l (P:Program) (t:TypeId):Bool :=
 match P.underlying t with
 | some .bool=>true
 | _=>false
def a97 (P:Program) (fs:Array Field):List (Nat×Nat×Opd)→List (Nat×Operand)→Bool
 | [],[]=>true
 | (off,n,x)::r,(i,y)::s=>(match fs[i]? with|some f=>Nat.beq f.offset off&&a5j P f.type n|none=>false)&&x.ok y&&a97 P fs r s
 | _,_=>false
def b5t:Nat→List Opd→List (Nat×Operand)→Bool
 | _,[],[]=>true
 | n,x::r,(i,y)::s=>Nat.beq i n&&x.ok y&&b5t (n+1) r s
 | _,_,_=>false
def a8x (P:Program) (t:TypeId) (zs:List V):Bool :=
 match P.info? t with
 | some i=>match i.zero with
  | some z=>c9w zs z.cells.toList
  | none=>false
 | none=>false
def f0i (rec:List Nat→List Field→Bool) (go:Nat→List Nat→Bool) (P:Program) (n:Nat) (t:TypeId) (ks:List Nat):Bool:=match P.underlying t,ks with
  | some (.int _),0::qs=>go (n+1) qs
  | some .string,1::qs=>go (n+1) qs
  | some .bool,2::qs=>go (n+1) qs
  | some (.struct fs'),qs=>match P.info? t with
   | some i=>Nat.ble i.size qs.length&&rec (qs.take i.size) fs'.toList&&!P.stoodInHeld t&&go (n+i.size) (qs.drop i.size)
   | none=>false
  | _,_=>false
def c1t (rec:List Nat→List Field→Bool) (P:Program):Nat→List Nat→List Field→Bool
 | _,ks,[]=>ks.isEmpty
 | n,ks,f::r=>Nat.beq f.offset n&&!(f.name == "_")&&f0i rec (fun n ks=>c1t rec P n ks r) P n f.type ks
def d3j (P:Program):Nat→List Nat→List Field→Bool
 | 0=>c1t (fun _ _=>false) P 0
 | d+1=>c1t (d3j P d) P 0
def c3u (P:Program) (ks:List Nat) (t:TypeId):Bool :=
 match P.underlying t with
 | some (.struct fs)=>d3j P 3 ks fs.toList&&!P.stoodInHeld t&&!P.eqGuardType P.depth t
 | _=>false
def a4y (P:Program) (t:TypeId) (k bytes:Nat):Bool :=
 match P.underlying t with
 | some (.slice e)=>match P.info? e with
  | some i=>Nat.beq i.size k&&Nat.beq i.bytes bytes&&Nat.blt 0 k&&Nat.blt 0 bytes&&(match i.zero with|some z=>Nat.beq z.cells.size k|none=>false)
  | none=>false
 | _=>false
def b3q (P:Program) (t:TypeId) (z:V):Bool :=
 match P.underlying t with
 | some (.slice e)=>a8x P e z.cells
 | _=>false
def c95 (P:Program) (t:TypeId) (f off:Nat):Bool :=
 match P.underlying t with
 | some (.struct fs)=>match fs[f]? with
  | some fl=>Nat.beq fl.offset off&&(match P.info? fl.type with|some i=>!Nat.beq i.size 0|none=>false)
  | none=>false
 | _=>false
def b85 (P:Program) (t:TypeId):Bool :=
 match P.underlying t with
 | some (.slice _)|some .string=>true
 | _=>false
def d4k (P:Program) (t:TypeId):Option TypeId→Bool
 | none=>true
 | some u=>match P.underlying t with
  | some (.slice e)=>Nat.beq e u&&!Nat.beq u d68
  | _=>false
def d4i (P:Program) (t:TypeId) (cnt k:Nat):Bool :=
 match P.underlying t with
 | some (.array n e)=>Nat.beq n cnt&&a5j P e k
 | _=>false
def isMap (P:Program) (t:TypeId) (kd:Option KD) (z:Option V):Bool :=
 match P.underlying t with
 | some (.map k e) =>
  (match kd with
   | none=>true
   | some kd=>match P.underlying k,kd with
    | some (.int i),.int j=>kEq i j
    | some .string,.str=>true
    | some .bool,.bool=>true
    | _,_=>false) &&
  (match P.underlying k with|some (.int _)|some .string|some .bool=>true|_=>false) &&
  (match z with
   | none=>true
   | some z=>match P.info? e with
    | some i=>match i.zero with
     | some u=>cOK z u
     | none=>false
    | none=>false)
 | _=>false
def a1j (P:Program) (m:c0c) (xs:List Opd) (op:Op):Bool :=
 match m,op with
 | .mk kd,.makeMap t none=>isMap P t (some kd) none&&(match xs with|[]=>true|_=>false)
 | .lku kd ok z,.lookup t x k c=>(match xs with|[a,b]=>a.ok x&&b.ok k|_=>false)&&(ok==c)&&isMap P t (some kd) (some z)
 | .isn ng,.binOp b t x y _=>(match xs with|[a]=>a.ok x|_=>false)&&(match b with|.eql=>!ng|.neq=>ng|_=>false)&&(match y with|.const (.slice none _ _)=>true|_=>false)&&(match P.underlying t with|some (.slice _)=>true|_=>false)
 | .tab i,.load t (.global q)=>(match xs with|[]=>true|_=>false)&&(match c0l[i]? with|some d=>decide (P.globalNamed d.1=some q)&&decide (c41 P t=some (some d.2.2.length))|none=>false)
 | .ups kd,.mapUpdate t x k v=>(match xs with|[a,b,c]=>a.ok x&&b.ok k&&c.ok v|_=>false)&&isMap P t (some kd) none
 | .ups kd,.insert t x k v=>(match xs with|[a,b,c]=>a.ok x&&b.ok k&&c.ok v|_=>false)&&isMap P t (some kd) none
 | .ifz ng,.binOp b t x y _=>(match xs with|[a]=>a.ok x|_=>false)&&(match b with|.eql=>!ng|.neq=>ng|_=>false)&&(match y with|.const .nilIface=>true|_=>false)&&(match P.underlying t with|some (.interface _)=>true|_=>false)
 | .fnz ng,.binOp b t x y _=>(match xs with|[a]=>a.ok x|_=>false)&&(match b with|.eql=>!ng|.neq=>ng|_=>false)&&(match y with|.const .nilFunc=>true|_=>false)&&(match P.underlying t with|some (.func _ _ _)=>true|_=>false)
 | .apc k bytes,.call { callee:=.builtin .append,args,argTypes }=>(match xs,args.toList,argTypes.toList with
   | [a,b],[x,y],[t,t']=>a.ok x&&b.ok y&&a4y P t k bytes&&b85 P t'&&d4k P t none
   | _,_,_=>false)
 | .up kd,.insert t x k v=>(match xs with|[a,b,c]=>a.ok x&&b.ok k&&c.ok v|_=>false)&&isMap P t (some kd) none
 | .up kd,.mapUpdate t x k v=>(match xs with|[a,b,c]=>a.ok x&&b.ok k&&c.ok v|_=>false)&&isMap P t (some kd) none
 | .del kd,.call { callee:=.builtin .delete,args,argTypes }=>(match xs,args.toList,argTypes.toList with
   | [a,b],[x,k],[t,_]=>a.ok x&&b.ok k&&isMap P t (some kd) none
   | _,_,_=>false)
 | .len,.call { callee:=.builtin .len,args,argTypes }=>(match xs,args.toList,argTypes.toList with
   | [a],[x],[t]=>a.ok x&&isMap P t none none
   | _,_,_=>false)
 | .rng,.range t x=>(match xs with|[a]=>a.ok x|_=>false)&&isMap P t none none
 | .nxt,.next x s=>(match xs with|[a]=>a.ok x|_=>false)&&!s
 | .ent,.entry x=>(match xs with|[a]=>a.ok x|_=>false)
 | _,_=>false
def a0a.ok (P:Program) (i:a0a) (op:Op):Bool :=
 match i,op with
 | .mv x,.move y|.mv x,.assign y=>x.ok y
 | .pick c a b,.pick c' a' b'=>c.ok c'&&a.ok a'&&b.ok b'
 | .alloc zs t,.alloc e=>a8x P e zs&&(match t with|none=>true|some u=>Nat.beq e u&&!Nat.beq u d68)
 | .box x,.box _ y=>x.ok y
 | .build zs ps,.build t parts=>a8x P t zs&&(match P.underlying t with|some (.struct fs)=>fs.all (fun f=>(P.info? f.type).isSome)&&a97 P fs ps parts.toList|_=>false)
 | .bslice k xs _,.buildSlice t n parts=>(match P.underlying t with
   | some (.slice e)=>a5j P e k&&(match P.info? e with|some i=>i.zero.isSome|none=>false)
   | _=>false)&&Nat.blt 0 k&&Nat.beq n xs.length&&decide (n*k≤16777216)&&b5t 0 xs parts.toList
 | .lsl k xs,.buildSlice t n parts=>(match P.underlying t with
   | some (.slice e)=>a5j P e k&&(match P.info? e with|some i=>i.zero.isSome|none=>false)
   | _=>false)&&Nat.blt 0 k&&Nat.beq n xs.length&&decide (n*k≤16777216)&&b5t 0 xs parts.toList
 | .ld n a,.load t b=>a.ok b&&decide (c41 P t=some n)
 | .st n a v,.store t b u=>a.ok b&&v.ok u&&a5j P t n
 | .nck a,.nilCheck b=>a.ok b
 | .bin _ op x y,.binOp op' _ a b _=>decide (op=op')&&x.ok a&&y.ok b
 | .mask m x k,.binOp .and _ a (.const (.int k' n)) _=>x.ok a&&kEq k k'&&decide (n=2^m - 1)&&Nat.blt m k.bits
 | .beq ng x y,.binOp op t a b _=>decide (op=if ng then .neq else .eql)&&x.ok a&&y.ok b&&c8l P t
 | .eqs ng ks x y,.binOp op t a b _=>decide (op=if ng then .neq else .eql)&&x.ok a&&y.ok b&&c3u P ks t
 | .not x,.unOp .not _ a=>x.ok a
 | .neg _ x,.unOp .neg _ a=>x.ok a
 | .i2i _ k x,.convert s d a=>x.ok a&&(P.underlying s).isSome&&(match P.underlying d with|some (.int k')=>kEq k k'|_=>false)
 | .mkfn f cap,.makeFunc (.func f') first cap'=>Nat.beq f f'&&Nat.beq first.size 0&&b04 cap cap'.toList
 | .mksl k bytes z l c,.makeSlice t l' c'=>l.ok l'&&c.ok c'&&a4y P t k bytes&&b3q P t z&&a4j k z
 | .sls x lo hi,.slice t a lo' hi' none=>x.ok a&&b1i lo lo'&&b1i hi hi'&&c3f P t
 | .slc k x lo hi,.slice t a lo' hi' none=>x.ok a&&b1i lo lo'&&b1i hi hi'&&isSlice P t k
 | .fad off x,.fieldAddr t a f=>x.ok a&&c95 P t f off
 | .iad k x i,.indexAddr t a b=>x.ok a&&i.ok b&&isSlice P t k
 | .idx x i,.index t a b=>x.ok a&&i.ok b&&c3f P t
 | .aix n k cnt x i,.index t a b=>x.ok a&&i.ok b&&d4i P t cnt k&&(match P.underlying t with|some (.array _ e)=>decide (c41 P e=some n)|_=>false)
 | .barr k zs xs,.build t parts=>a8x P t zs&&(match P.underlying t with|some (.array _ e)=>a5j P e k|_=>false)&&b5t 0 xs parts.toList
 | .ext i x,.extract a j=>x.ok a&&Nat.beq i j
 | .len s x,.call { callee:=.builtin .len,args,argTypes }=>(match args.toList,argTypes.toList with
   | [a],[t]=>x.ok a&&(match P.underlying t with|some .string=>s|some (.slice _)=>!s|_=>false)
   | _,_=>false)
 | .app k bytes x y ty,.call { callee:=.builtin .append,args,argTypes }=>(match args.toList,argTypes.toList with
   | [a,b],[t,t']=>x.ok a&&y.ok b&&a4y P t k bytes&&b85 P t'&&d4k P t ty
   | _,_=>false)
 | .mm mx x y,.call { callee:=.builtin b,args,.. }=>(match args.toList with
   | [u,v]=>x.ok u&&y.ok v&&decide (b=if mx then .max else .min)
   | _=>false)
 | .mp m xs,op=>a1j P m xs op
 | .call f args _ _,.call { callee:=.value f',args:=args',.. }=>f.ok f'&&b04 args args'.toList
 | _,_=>false
theorem b6s {S:Nat→Prop} {w:World}:∀{x:V} {v:Value},cOK x v=true→Rd S w v x
 | .bool b,v,h=>by
  cases v<;>simp [cOK] at h
  subst h;exact .bool _
 | .int k n,v,h=>by
  cases v<;>simp [cOK] at h
  rename_i k' n'
  obtain ⟨⟨⟨h1,h2⟩,h3⟩,h4⟩:=h
  have:=b2h h1;subst this;subst h2
  exact .int _ _ ⟨h3,h4⟩
 | .str s,v,h=>by
  cases v<;>simp [cOK] at h
  rename_i s'
  obtain ⟨h1,h2⟩:=h
  subst h1
  refine .str s' ?_
  have e1:s'.size=s'.data.toList.length:=by rw [xD];rfl
  rw [e1,maxLen]
  exact vB h2 (by decide)
 | .nils,v,h=>by
  unfold cOK at h
  split at h<;>simp_all
  exact .nils
 | .ifc b,v,h=>by
  unfold cOK at h
  split at h<;>simp_all
  exact .ifcn
 | .nilp,v,h=>by
  unfold cOK at h
  split at h<;>simp_all
  exact .nilp
 | .nilm,v,h=>by
  unfold cOK at h
  split at h<;>simp_all
  exact .nilm
 | .nilf,v,h=>by
  unfold cOK at h
  split at h<;>simp_all
  exact .nilf
 | .nili,v,h=>by
  unfold cOK at h
  split at h<;>simp_all
  exact .nili
 | .agg cs,v,h=>by
  cases v<;>simp [cOK] at h
  rename_i vs
  have key:∀(cs:List V) (vs:List Value),c9w cs vs=true→vs.length=cs.length∧∀(i:Nat) (c:V),cs[i]?=some c→∃u,vs[i]?=some u∧cOK c u=true:=by
   intro cs
   induction cs with
   | nil=>intro vs h;cases vs<;>simp [c9w] at h ⊢
   | cons c cs ih =>
    intro vs h
    cases vs with
    | nil=>simp [c9w] at h
    | cons u vs =>
     simp only [c9w,wE] at h
     obtain ⟨h1,h2⟩:=ih vs h.2
     refine ⟨by simp [h1],fun i c' hc=>?_⟩
     cases i with
     | zero=>simp at hc;subst hc;exact ⟨u,rfl,h.1⟩
     | succ i=>simp at hc ⊢;exact h2 i c' hc
  obtain ⟨h1,h2⟩:=key cs vs.toList h
  refine .agg vs cs (by simpa using h1) fun i c hc=>?_
  obtain ⟨u,hu,hok⟩:=h2 i c hc
  have hm:c∈cs:=z6 hc
  have:vs.getD i undef=u:=by
   simp only [zW] at hu
   simp [zC,hu]
  rw [this]
  exact b6s hok
 | .tup _,v,h=>by simp [cOK] at h
 | .sl [],v,h=>by
  unfold cOK at h
  split at h<;>simp_all
  exact .nilsl
 | .sl (_::_),v,h=>by simp [cOK] at h
 | .ptr _ _,v,h=>by simp [cOK] at h
 | .eptr _ _,v,h=>by simp [cOK] at h
 | .osl _ _ _ _,v,h=>by simp [cOK] at h
 | .optr _ _ _ _,v,h=>by simp [cOK] at h
 | .omap _,v,h=>by simp [cOK] at h
 | .bptr _,v,h=>by simp [cOK] at h
 | .fn _ _,v,h=>by simp [cOK] at h
 | .any,v,h=>by simp [cOK] at h
termination_by x=>(SizeOf.sizeOf x:Nat)
decreasing_by
 have:=List.sizeOf_lt_of_mem hm
 simp_all
 omega
def Fin (o:Oper) (c:Ctx) (g:Gh) (σ:St) (a:Act) (w:World) (K L:Eff→Prop) (K':Act→World→Prop):Prop :=
 ∀eff,(K eff∨L eff)→∀(g':Gh) (v:Value) (w':World),a09 g σ.heap w eff g' w'→a13 c.H0 g g' σ eff→VR g' w' v eff.val→K' (a.put o.dst v) w'
section
variable {P:Program} {o:Oper} {c:Ctx} {g:Gh} {σ:St} {a:Act} {w:World} {ob:Nat→Option a0i} {K L:Eff→Prop} {K':Act→World→Prop} {Q':Exit→Act→World→Prop}
theorem Opd.vr (hR:Rel P c g σ a w) {x:Opd} {y:Operand} (h:x.ok y=true):VR g w (a.eval y) (x.ev σ.env):=by
 cases x with
 | t n =>
  cases y<;>simp [Opd.ok] at h
  rename_i m
  subst h
  simp only [Opd.ev,a2f,Act.eval]
  cases hf:find n σ.env with
  | none=>exact .any _
  | some x=>exact (hR.env n x hf).2
 | c v =>
  cases y<;>simp [Opd.ok] at h
  exact .rd (b6s h)
 | f n =>
  cases y<;>simp [Opd.ok] at h
  subst h
  exact .fn _ #[] [] rfl (fun i c h=>by simp at h)
theorem a0b (hR:Rel P c g σ a w) (hF:Fin o c g σ a w K L K') {x:V} {v:Value} (hrun:(execOp a.eval o).run P w=.ok (.value v) w) (hk:K ⟨x,[],[]⟩∨L ⟨x,[],[]⟩) (hv:VR g w v x):o.wp P a w K' Q':=by
 unfold Oper.wp
 rw [hrun]
 exact hF _ hk g v w (a09.val x hR.hp.lt rfl rfl rfl rfl) (a13.val x) hv
theorem a88 {s:Sem Value} {v:Value} {w w':World} (h:s.run P w=.ok v w'):(do pure (Next.value (←s)):Sem Next).run P w=.ok (.value v) w':=by
 simp [h]
theorem VR.int_inv {v:Value} {k:IntKind} {n:Int} (h:VR g w v (.int k n)):v=.int k n∧inR k n:=by
 cases h with|rd h=>cases h with|int _ _ h=>exact ⟨rfl,h⟩
theorem VR.bool_inv {v:Value} {b:Bool} (h:VR g w v (.bool b)):v=.bool b:=by
 cases h with|rd h=>cases h;rfl
theorem VR.str_inv {v:Value} {s:List UInt8} (h:VR g w v (.str s)):∃t:ByteArray,v=.string t∧t.data.toList=s∧t.size≤maxLen:=by
 cases h with|rd h=>cases h with|str t ht=>exact ⟨t,rfl,rfl,ht⟩
theorem VR.ptr_inv {v:Value} {id off:Nat} (h:VR g w v (.ptr id off)):v=.pointer (some ⟨g.ρ id,off,none⟩):=by
 cases h with
 | rd h=>cases h
 | ptr=>rfl
theorem VR.optr_inv {v:Value} {id k i off:Nat} (h:VR g w v (.optr id k i off)):v=.pointer (some ⟨g.ρ id,(g.base id+i)*k+off,none⟩):=by
 cases h with
 | rd h=>cases h
 | optr=>rfl
theorem VR.bptr_inv {v:Value} {id:Nat} (h:VR g w v (.bptr id)):v=.pointer none∨v=.pointer (some ⟨g.ρ id,0,none⟩):=by
 cases h with
 | rd h=>cases h
 | bnil=>exact .inl rfl
 | bself=>exact .inr rfl
theorem VR.omap_inv {v:Value} {id:Nat} (h:VR g w v (.omap id)):v=.map (some (g.ρ id)):=by
 cases h with
 | rd h=>cases h
 | omap=>rfl
theorem VR.nils_inv {v:Value} (h:VR g w v .nils):v=.slice none 0 0:=by
 cases h with|rd h=>cases h;rfl
theorem VR.eptr_inv {v:Value} {x:V} {off:Nat} (h:VR g w v (.eptr x off)):∃(b o:Nat) (cur:Array Value) (e:TypeId) (fz:Nat×Nat),v=.pointer (some ⟨b,o+off,none⟩)∧g.S b∧w.heap[b]?=some (.cells cur e fz) ∧
  o+x.cells.length≤cur.size∧∀(j:Nat) (c:V),x.cells[j]?=some c→Rd g.S w (cur.getD (o+j) undef) c:=by
 cases h with
 | rd h=>cases h
 | eptr b o off cur e fz x hS hg hb hr=>exact ⟨b,o,cur,e,fz,rfl,hS,hg,hb,hr⟩
theorem VR.osl_inv {v:Value} {id k lo len:Nat} (h:VR g w v (.osl id k lo len)):(g.nil id∧v=.slice none 0 0∧len=0) ∨
  (¬g.nil id∧∃o c,v=.slice (some ⟨g.ρ id,o,none⟩) len c∧(c=0∨o=(g.base id+lo)*k)∧lo+c≤g.cap id∧len≤c∧c≤maxLen):=by
 cases h with
 | rd h=>cases h
 | oslnil _ _ _ h=>exact .inl ⟨h,rfl,rfl⟩
 | osl _ _ _ _ o c h ho hc hl hm=>exact .inr ⟨h,o,c,rfl,ho,hc,hl,hm⟩
theorem VR.sl_inv {v:Value} {xs:List V} (h:VR g w v (.sl xs)):Rd g.S w v (.sl xs):=by
 cases h with|rd h=>exact h
theorem VR.agg_inv {v:Value} {cs:List V} (h:VR g w v (.agg cs)):∃vs:Array Value,v=.agg vs∧vs.size=cs.length∧∀(i:Nat) (c:V),cs[i]?=some c→VR g w (vs.getD i undef) c:=by
 cases h with
 | rd h =>
  obtain ⟨vs,rfl,hl,hr⟩:=h.agg_inv
  exact ⟨vs,rfl,hl,fun i c hc=>.rd (hr i c hc)⟩
 | agg vs _ hl hr=>exact ⟨vs,rfl,hl,hr⟩
theorem VR.tup_inv {v:Value} {cs:List V} (h:VR g w v (.tup cs)):∃vs:Array Value,v=.tuple vs∧vs.size=cs.length∧∀(i:Nat) (c:V),cs[i]?=some c→VR g w (vs.getD i undef) c:=by
 cases h with
 | rd h=>cases h
 | tup vs _ hl hr=>exact ⟨vs,rfl,hl,hr⟩
theorem VR.fn_inv {v:Value} {n:Nat} {cs:List V} (h:VR g w v (.fn (.func n) cs)):∃vs:Array Value,v=.func (.func n) #[] vs∧vs.size=cs.length∧∀(i:Nat) (c:V),cs[i]?=some c→VR g w (vs.getD i undef) c:=by
 cases h with
 | rd h=>cases h;exact ⟨#[],rfl,rfl,fun i c hc=>by simp at hc⟩
 | fn _ vs _ hl hr=>exact ⟨vs,rfl,hl,hr⟩
theorem VR.sc_rd {v:Value} {x:V} (h:VR g w v x) (hs:x.sc=true):Rd g.S w v x:=by
 cases h with
 | fn n vs cs hl hr=>cases cs with
  | nil=>rw [Array.eq_empty_of_size_eq_zero hl];exact .fnc n
  | cons=>simp [V.sc] at hs
 | _=>first|assumption|(simp [V.sc] at hs)
theorem VR.sealed_rd {v:Value} {x:V} (h:VR g w v x) (hs:x.sealed=true):Rd g.S w v x:=by
 cases x with
 | agg cs =>
  obtain ⟨vs,rfl,hl,hr⟩:=h.agg_inv
  refine .agg vs cs hl fun i c hc=>(hr i c hc).sc_rd ?_
  simp only [V.sealed,wD] at hs
  exact hs c (z6 hc)
 | _=>exact h.sc_rd hs
theorem VR.nsl_val {z k:Nat} {xs:List V} {v:Value} (h:VR g w v (.nsl z k xs)):∃p l c,v=.slice p l c:=by
 cases h with
 | rd h=>cases h
 | nsl _ _ _ _ h =>
  rcases h with ⟨rfl,_⟩|⟨b,o,base,cap,c,rfl,_⟩
  ·exact ⟨_,_,_,rfl⟩
  ·exact ⟨_,_,_,rfl⟩
theorem VR.nsmap_val {z k:Nat} {kd:KD} {es:List (V×V)} {v:Value} (h:VR g w v (.nsmap z k kd es)):∃b,v=.map (some b):=by
 cases h with
 | rd h=>cases h
 | nsmap b=>exact ⟨b,rfl⟩
theorem VR.one_cell {v:Value} {x:V} (h:VR g w v x) (hs:x.one=true):v.oneCell'=true:=by
 cases h with
 | rd h=>cases h<;>first|rfl|(simp [V.one] at hs)
 | any=>simp [V.one] at hs
 | at_=>simp [V.one] at hs
 | agg=>simp [V.one] at hs
 | tup=>simp [V.one] at hs
 | nsl z k xs v hn=>obtain ⟨p,l,c,rfl⟩:=VR.nsl_val (.nsl z k xs v hn);rfl
 | _=>rfl
theorem VR.cells_of {v:Value} {x:V} (h:VR g w v x) (hx:x.nany=true):v.cells.size=x.cells.length∧∀(i:Nat) (c:V),x.cells[i]?=some c→VR g w (v.cells.getD i undef) c:=by
 have one:∀{v:Value} {x:V},VR g w v x→v.cells=#[v]→x.cells=[x]→v.cells.size=x.cells.length∧∀(i:Nat) (c:V),x.cells[i]?=some c→VR g w (v.cells.getD i undef) c:=by
  intro v x h h1 h2
  rw [h1,h2]
  refine ⟨rfl,fun i c hc=>?_⟩
  cases i with
  | zero=>simp at hc;subst hc;simpa using h
  | succ i=>simp at hc
 cases x with
 | agg cs =>
  obtain ⟨vs,rfl,hl,hr⟩:=h.agg_inv
  exact ⟨hl,hr⟩
 | any=>cases hx
 | at_=>cases hx
 | adr b off=>cases h with|rd h=>cases h;exact one (.rd (.adr b off)) rfl rfl
 | bool b=>exact one h (by rw [h.bool_inv];rfl) rfl
 | int k n=>exact one h (by rw [h.int_inv.1];rfl) rfl
 | str s=>obtain ⟨t,rfl,_⟩:=h.str_inv;exact one h rfl rfl
 | nils=>exact one h (by rw [h.nils_inv];rfl) rfl
 | nilp=>cases h with|rd h=>cases h;exact one (.rd .nilp) rfl rfl
 | ifc b=>cases h with|rd h=>cases h with
  | ifcn=>exact one (.rd .ifcn) rfl rfl
  | ifcs t p=>exact one (.rd (.ifcs t p)) rfl rfl
 | nilm=>cases h with|rd h=>cases h;exact one (.rd .nilm) rfl rfl
 | nilf=>cases h with|rd h=>cases h;exact one (.rd .nilf) rfl rfl
 | nili=>cases h with|rd h=>cases h;exact one (.rd .nili) rfl rfl
 | tup cs=>obtain ⟨vs,rfl,_⟩:=h.tup_inv;exact one h rfl rfl
 | sl xs =>
  have h':=h.sl_inv
  cases h' with
  | nilsl=>exact one h rfl rfl
  | slz=>exact one h rfl rfl
  | sl=>exact one h rfl rfl
 | ptr id off=>exact one h (by rw [h.ptr_inv];rfl) rfl
 | eptr x off=>obtain ⟨b,o,cur,e,fz,rfl,_⟩:=h.eptr_inv;exact one h rfl rfl
 | osl id k lo len=>rcases h.osl_inv with ⟨_,rfl,_⟩|⟨_,o,c,rfl,_⟩<;>exact one h rfl rfl
 | optr id k i off=>exact one h (by rw [h.optr_inv];rfl) rfl
 | omap id=>exact one h (by rw [h.omap_inv];rfl) rfl
 | bptr id=>exact one h (by rcases h.bptr_inv with e|e<;>rw [e]<;>rfl) rfl
 | smap kd es=>cases h with|rd h=>cases h with|smap b kd ents clock es hS hg hl hk hb hn hr1 hr2=>exact one (.rd (.smap b kd ents clock es hS hg hl hk hb hn hr1 hr2)) rfl rfl
 | fn f cs=>cases h with
  | rd h=>cases h with|fnc n=>exact one (.rd (.fnc n)) rfl rfl
  | fn _ vs _ hl hr=>exact one (.fn _ vs _ hl hr) rfl rfl
  | bnd n vs _ hl hr=>exact one (.bnd n vs _ hl hr) rfl rfl
 | nsl z k xs=>obtain ⟨p,l,c,rfl⟩:=h.nsl_val;exact one h rfl rfl
 | nsmap z k kd es=>obtain ⟨b,rfl⟩:=h.nsmap_val;exact one h rfl rfl
theorem g9u {x:Opd} (hok:(a0a.mv x).ok P o.op=true) (hR:Rel P c g σ a w) {d:Nat} (h:p9 P (.mv x) d [x.ev σ.env] ob K L) (hF:Fin o c g σ a w K L K'):o.wp P a w K' Q':=by
 have:∃y,(o.op=.move y∨o.op=.assign y)∧x.ok y=true:=by
  cases ho:o.op<;>simp [a0a.ok,ho] at hok
  ·exact ⟨_,.inl rfl,hok⟩
  ·exact ⟨_,.inr rfl,hok⟩
 obtain ⟨y,ho,hx⟩:=this
 refine a0b hR hF (v:=a.eval y) ?_ (.inl h) (Opd.vr hR hx)
 rcases ho with ho|ho<;>simp [execOp,ho]
theorem e4r {x y z:Opd} (hok:(a0a.pick x y z).ok P o.op=true) (hR:Rel P c g σ a w) {d:Nat} (h:p9 P (.pick x y z) d [x.ev σ.env,y.ev σ.env,z.ev σ.env] ob K L) (hF:Fin o c g σ a w K L K'):o.wp P a w K' Q':=by
 cases ho:o.op<;>simp [a0a.ok,ho] at hok
 rename_i x' y' z'
 obtain ⟨⟨hx,hy⟩,hz⟩:=hok
 have vx:=Opd.vr hR hx
 have vy:=Opd.vr hR hy
 have vz:=Opd.vr hR hz
 simp only [p9,c0q,evl] at h
 cases hc:x.ev σ.env<;>simp only [hc] at h<;>try exact h.elim
 rename_i t
 rw [hc] at vx
 have hrun:(execOp a.eval o).run P w=.ok (.value (if t then a.eval y' else a.eval z')) w:=by
  simp [execOp,ho,vx.bool_inv,asBool]
 have gen:∀r,K ⟨r,[],[]⟩→VR g w (if t then a.eval y' else a.eval z') r→o.wp P a w K' Q':=fun r hk hv=>a0b hR hF hrun (.inl hk) hv
 split at h
 ·rename_i p q hp hq
  rw [hp] at vy;rw [hq] at vz
  refine gen _ h ?_
  cases t<;>simp [vy.bool_inv,vz.bool_inv]<;>exact .rd (.bool _)
 ·cases t
  ·exact gen _ h (by simpa using vz)
  ·exact gen _ h (by simpa using vy)
theorem g0t {x:Opd} (hok:(a0a.nck x).ok P o.op=true) (hR:Rel P c g σ a w) {d:Nat} (h:p9 P (.nck x) d [x.ev σ.env] ob K L) (hF:Fin o c g σ a w K L K'):o.wp P a w K' Q':=by
 cases ho:o.op<;>simp [a0a.ok,ho] at hok
 rename_i y
 have vx:=Opd.vr hR hok
 simp only [p9,e2d,evl] at h
 have hrun:(∃ad,a.eval y=.pointer (some ad))→(execOp a.eval o).run P w=.ok (.value (a.eval y)) w:=by
  rintro ⟨ad,e⟩
  simp [execOp,ho,e]
 cases hc:x.ev σ.env<;>simp only [hc] at h<;>try exact h.elim
 ·rw [hc] at vx;exact a0b hR hF (hrun ⟨_,vx.ptr_inv⟩) (.inl h) vx
 ·rw [hc] at vx
  obtain ⟨b,o',cur,e,fz,hv,_⟩:=vx.eptr_inv
  exact a0b hR hF (hrun ⟨_,hv⟩) (.inl h) vx
 ·rw [hc] at vx;exact a0b hR hF (hrun ⟨_,vx.optr_inv⟩) (.inl h) vx
theorem g1f {i:Nat} {x:Opd} (hok:(a0a.ext i x).ok P o.op=true) (hR:Rel P c g σ a w) {d:Nat} (h:p9 P (.ext i x) d [x.ev σ.env] ob K L) (hF:Fin o c g σ a w K L K'):o.wp P a w K' Q':=by
 cases ho:o.op<;>simp [a0a.ok,ho] at hok
 rename_i y j
 obtain ⟨hx,rfl⟩:=hok
 have vx:=Opd.vr hR hx
 simp only [p9,d71,evl] at h
 cases hc:x.ev σ.env<;>simp only [hc] at h<;>try exact h.elim
 rename_i cs
 rw [hc] at vx
 obtain ⟨vs,hv,hl,hr⟩:=vx.tup_inv
 split at h
 ·rename_i q r hd
  have hi:cs[i]?=some q:=by
   have:=congrArg (·[0]?) hd
   simpa using this
  have hlt:i<vs.size:=by rw [hl];exact (zG.1 hi).1
  refine a0b hR hF (v:=vs.getD i undef) ?_ (.inl h) (hr i q hi)
  simp [execOp,ho,hv,Instr.extract,zC,hlt]
 ·exact h.elim
theorem g0r {x:Opd} (hok:(a0a.not x).ok P o.op=true) (hR:Rel P c g σ a w) {d:Nat} (h:p9 P (.not x) d [x.ev σ.env] ob K L) (hF:Fin o c g σ a w K L K'):o.wp P a w K' Q':=by
 have:∃t y,o.op=.unOp .not t y∧x.ok y=true:=by
  cases ho:o.op<;>simp [a0a.ok,ho] at hok
  rename_i op t y
  cases op<;>simp [a0a.ok] at hok
  exact ⟨t,y,rfl,hok⟩
 obtain ⟨t,y,ho,hx⟩:=this
 have vx:=Opd.vr hR hx
 simp only [p9,e2a,evl] at h
 cases hc:x.ev σ.env<;>simp only [hc] at h<;>try exact h.elim
 rw [hc] at vx
 refine a0b hR hF ?_ (.inl h) (.rd (.bool _))
 simp [execOp,ho,vx.bool_inv,Op.unary]
theorem a4k (k:IntKind) (n:Int):inR k (k.wrap n):=by
 rw [a1q]
 cases k<;>simp [rng,IntKind.wrap,IntKind.signed,IntKind.bits]<;>(try split)<;>omega
theorem a2q {k:IntKind} {n:Int} (h:rng k n):k.wrap n=n:=by
 cases k<;>simp [rng,IntKind.wrap,IntKind.signed,IntKind.bits] at*<;> (try split)<;>omega
theorem g0s {ch:Bool} {x:Opd} (hok:(a0a.neg ch x).ok P o.op=true) (hR:Rel P c g σ a w) {d:Nat} (h:p9 P (.neg ch x) d [x.ev σ.env] ob K L) (hF:Fin o c g σ a w K L K'):o.wp P a w K' Q':=by
 have:∃t y,o.op=.unOp .neg t y∧x.ok y=true:=by
  cases ho:o.op<;>simp [a0a.ok,ho] at hok
  rename_i op t y
  cases op<;>simp [a0a.ok] at hok
  exact ⟨t,y,rfl,hok⟩
 obtain ⟨t,y,ho,hx⟩:=this
 have vx:=Opd.vr hR hx
 simp only [p9,e2c,evl] at h
 cases hc:x.ev σ.env<;>simp only [hc] at h<;>try exact h.elim
 rename_i k n
 rw [hc] at vx
 have hrun:(execOp a.eval o).run P w=.ok (.value (.int k (k.wrap (0 - n)))) w:=by
  simp [execOp,ho,vx.int_inv.1,Op.unary,Op.intArith]
 cases ch
 ·exact a0b hR hF hrun (.inl h) (.rd (.int _ _ (a4k _ _)))
 ·obtain ⟨h1,h2⟩:=h
  have e:k.wrap (0 - n)=-n:=by rw [Int.zero_sub];exact a2q h1
  rw [e] at hrun
  exact a0b hR hF hrun (.inl h2) (.rd (.int _ _ (a1q.2 h1)))
theorem g1c {ch:Bool} {k:IntKind} {x:Opd} (hok:(a0a.i2i ch k x).ok P o.op=true) (hR:Rel P c g σ a w) {d:Nat} (h:p9 P (.i2i ch k x) d [x.ev σ.env] ob K L) (hF:Fin o c g σ a w K L K'):o.wp P a w K' Q':=by
 cases ho:o.op<;>simp [a0a.ok,ho] at hok
 rename_i s dd y
 obtain ⟨⟨hx,hs⟩,hd⟩:=hok
 have vx:=Opd.vr hR hx
 simp only [p9,e2f,evl] at h
 cases hc:x.ev σ.env<;>simp only [hc] at h<;>try exact h.elim
 rename_i k' n
 rw [hc] at vx
 obtain ⟨ds,hds⟩:=Option.isSome_iff_exists.1 hs
 have hdd:P.underlying dd=some (.int k):=by
  split at hd
  ·rename_i k2 he
   rw [he,b2h hd]
  ·cases hd
 have hrun:(execOp a.eval o).run P w=.ok (.value (.int k (k.wrap n))) w:=by
  simp [execOp,ho,vx.int_inv.1,convert,run_underlying hds,run_underlying hdd,Conv.intToInt]
 cases ch
 ·exact a0b hR hF hrun (.inl h) (.rd (.int _ _ (a4k _ _)))
 ·obtain ⟨h1,h2⟩:=h
  rw [a2q h1] at hrun
  exact a0b hR hF hrun (.inl h2) (.rd (.int _ _ (a1q.2 h1)))
theorem b0n (op:BinOp) (k:IntKind) (x y:Int):inR k (bits op k x y):=a4k _ _
end
end Go.Ab
namespace Go.Ab
open Go.RowKit
section
variable {P:Program} {o:Oper} {c:Ctx} {g:Gh} {σ:St} {a:Act} {w:World} {ob:Nat→Option a0i} {K L:Eff→Prop} {K':Act→World→Prop} {Q':Exit→Act→World→Prop}
theorem b83 (op:BinOp) (t:TypeId) (x y:ByteArray):binOp op t (.string x) (.string y)=Op.stringOp op x y:=by cases op<;>rfl
theorem c8n {k:IntKind} {x:Int} (h:inR k x) (n:Nat):inR k (x / 2^n):=by
 rw [a1q] at *
 have hp:(0:Int)<2^n:=Int.pow_pos (by decide)
 have h1:0≤x→0≤x / 2^n∧x / 2^n≤x:=fun hx=>⟨Int.ediv_nonneg hx (vG hp),Int.ediv_le_self _ hx⟩
 have h2:x<0→x≤x / 2^n∧x / 2^n<0:=by
  intro hx
  refine ⟨?_,Int.ediv_neg_of_neg_of_pos hx hp⟩
  have:=Int.le_ediv_of_mul_le hp (a:=x) (b:=x) (by
   have h1:(1:Int)≤2^n:=hp
   have:=Int.mul_le_mul_of_nonpos_left (vG hx) h1
   simpa using this)
  exact this
 by_cases hx:0≤x
 ·have:=h1 hx
  cases k<;>simp [rng] at*<;> omega
 ·have:=h2 (by omega)
  cases k<;>simp [rng] at*<;> omega
theorem c3h {k:IntKind} {x y:Int} (h:inR k x):inR k (x.tmod y):=by
 rw [a1q] at *
 have h1:0≤x→0≤x.tmod y∧x.tmod y≤x:=by
  intro hx
  refine ⟨Int.tmod_nonneg _ hx,?_⟩
  rw [Int.tmod_eq_emod_of_nonneg hx]
  by_cases hy:y=0
  ·subst hy;simp
  ·have:=Int.emod_emod_of_dvd x (Int.dvd_refl y)
   have h2:=Int.mul_ediv_add_emod x y
   have h3:0≤y*(x / y):=by
    rcases Int.lt_or_gt_of_ne hy with hy|hy
    ·have:x / y≤0:=Int.ediv_nonpos_of_nonneg_of_nonpos hx (vG hy)
     exact Int.mul_nonneg_of_nonpos_of_nonpos (vG hy) this
    ·exact Int.mul_nonneg (vG hy) (Int.ediv_nonneg hx (vG hy))
   omega
 by_cases hx:0≤x
 ·have:=h1 hx
  cases k<;>simp [rng] at*<;> omega
 ·have h2:x≤x.tmod y∧x.tmod y≤0:=by
   have hn:0≤-x:=by omega
   have e:x.tmod y=-((-x).tmod y):=by rw [Int.neg_tmod];omega
   have q1:=Int.tmod_nonneg y hn
   have q2:(-x).tmod y≤-x:=by
    rw [Int.tmod_eq_emod_of_nonneg hn]
    by_cases hy:y=0
    ·subst hy;simp
    ·have h2:=Int.mul_ediv_add_emod (-x) y
     have h3:0≤y*((-x) / y):=by
      rcases Int.lt_or_gt_of_ne hy with hy|hy
      ·have:(-x) / y≤0:=Int.ediv_nonpos_of_nonneg_of_nonpos hn (vG hy)
       exact Int.mul_nonneg_of_nonpos_of_nonpos (vG hy) this
      ·exact Int.mul_nonneg (vG hy) (Int.ediv_nonneg hn (vG hy))
     omega
   omega
  cases k<;>simp [rng] at*<;> omega
theorem g1l {ch:Bool} {op:BinOp} {x y:Opd} (hok:(a0a.bin ch op x y).ok P o.op=true) (hR:Rel P c g σ a w) {d:Nat} (h:p9 P (.bin ch op x y) d [x.ev σ.env,y.ev σ.env] ob K L) (hF:Fin o c g σ a w K L K'):o.wp P a w K' Q':=by
 have:∃t x' y' t',o.op=.binOp op t x' y' t'∧x.ok x'=true∧y.ok y'=true:=by
  cases ho:o.op<;>simp [a0a.ok,ho] at hok
  obtain ⟨⟨h1,h2⟩,h3⟩:=hok
  subst h1
  exact ⟨_,_,_,_,rfl,h2,h3⟩
 obtain ⟨t,x',y',t',ho,hx,hy⟩:=this
 have vx:=Opd.vr hR hx
 have vy:=Opd.vr hR hy
 simp only [p9,d51,evl] at h
 split at h
 ·rename_i k p k' q hp hq
  rw [hp] at vx;rw [hq] at vy
  obtain ⟨ex,rx⟩:=vx.int_inv
  obtain ⟨ey,ry⟩:=vy.int_inv
  have gen:∀v r,(binOp op t (.int k p) (.int k' q)).run P w=.ok v w→K ⟨r,[],[]⟩→VR g w v r→o.wp P a w K' Q':=fun v r hrun hk hv =>
   a0b hR hF (v:=v) (by simp [execOp,ho,ex,ey,eqGuard_at_int,hrun]) (.inl hk) hv
  have b2:∀{p:Prop} [Decidable p] {b:Bool},(b=decide p)→VR g w (.bool b) (.bool (decide p)):=by
   rintro p _ b rfl;exact .rd (.bool _)
  by_cases hkk:kEq k k'=true
  case neg =>
   cases op<;>simp [hkk] at h
   ·exact gen _ _ (by simp [binOp_shl,shift_shl _ _ _ _ h.1.1 h.1.2]) h.2 (.rd (.int _ _ (a4k _ _)))
   ·exact gen _ _ (by simp [binOp_shr,shift_shr _ _ _ _ h.1.1 h.1.2]) h.2 (.rd (.int _ _ (c8n rx _)))
  have hkk':=b2h hkk
  subst hkk'
  cases op<;>simp only [hkk,vO] at h
  ·cases ch
   ·exact gen _ _ (by simp [binOp_add,Op.intArith]) h (.rd (.int _ _ (a4k _ _)))
   ·exact gen (.int k (p+q)) _ (by simp [binOp_add,Op.intArith,a2q h.1]) h.2 (.rd (.int _ _ (a1q.2 h.1)))
  ·cases ch
   ·exact gen _ _ (by simp [binOp_sub,Op.intArith]) h (.rd (.int _ _ (a4k _ _)))
   ·exact gen (.int k (p - q)) _ (by simp [binOp_sub,Op.intArith,a2q h.1]) h.2 (.rd (.int _ _ (a1q.2 h.1)))
  ·cases ch
   ·exact gen _ _ (by simp [binOp_mul,Op.intArith]) h (.rd (.int _ _ (a4k _ _)))
   ·exact gen (.int k (p*q)) _ (by simp [binOp_mul,Op.intArith,a2q h.1]) h.2 (.rd (.int _ _ (a1q.2 h.1)))
  ·cases ch
   ·simp only [vM] at h
    exact gen (.int k (k.wrap (p.tdiv q))) _ (by simp [binOp_quo,Op.intDiv,h.1]) h.2 (.rd (.int _ _ (a4k _ _)))
   ·simp only [vO] at h
    obtain ⟨⟨h1,h2⟩,h3⟩:=h
    have hq0:q≠0:=by omega
    have e:p.tdiv q=p / q:=Int.tdiv_eq_ediv_of_nonneg h1
    have hr:inR k (p / q):=by
     have a1:0≤p / q:=Int.ediv_nonneg h1 (vG h2)
     have a2:p / q≤p:=Int.ediv_le_self _ h1
     rw [a1q] at *
     cases k<;>simp [rng] at*<;> omega
    exact gen (.int k (p / q)) _ (by simp [binOp_quo,Op.intDiv,hq0,e,a2q (a1q.1 hr)]) h3 (.rd (.int _ _ hr))
  ·cases ch
   ·simp only [vM] at h
    exact gen (.int k (p.tmod q)) _ (by simp [binOp_rem,Op.intDiv,h.1]) h.2 (.rd (.int _ _ (c3h rx)))
   ·simp only [vO] at h
    obtain ⟨⟨h1,h2⟩,h3⟩:=h
    have hq0:q≠0:=by omega
    have e:p.tmod q=p % q:=Int.tmod_eq_emod_of_nonneg h1
    have hr:inR k (p % q):=by rw [←e];exact c3h rx
    exact gen (.int k (p % q)) _ (by simp [binOp_rem,Op.intDiv,hq0,e]) h3 (.rd (.int _ _ hr))
  ·exact gen _ _ (by simp [binOp_and,intBits_and]) h (.rd (.int _ _ (b0n _ _ _ _)))
  ·exact gen _ _ (by simp [binOp_or,intBits_or]) h (.rd (.int _ _ (b0n _ _ _ _)))
  ·exact gen _ _ (by simp [binOp_xor,intBits_xor]) h (.rd (.int _ _ (b0n _ _ _ _)))
  ·exact gen _ _ (by simp [binOp_shl,shift_shl _ _ _ _ h.1.1 h.1.2]) h.2 (.rd (.int _ _ (a4k _ _)))
  ·exact gen _ _ (by simp [binOp_shr,shift_shr _ _ _ _ h.1.1 h.1.2]) h.2 (.rd (.int _ _ (c8n rx _)))
  ·exact gen _ _ (by simp [binOp_andNot,intBits_andNot]) h (.rd (.int _ _ (b0n _ _ _ _)))
  ·exact gen (.bool (decide (p=q))) _ (by simp [binOp_eql];rw [wS];simp) h (.rd (.bool _))
  ·exact gen (.bool (!decide (p=q))) _ (by simp [binOp_neq,bne];rw [wS];simp) h (.rd (.bool _))
  ·exact gen _ _ (by simp [binOp_lss]) h (b2 rfl)
  ·exact gen _ _ (by simp [binOp_leq]) h (b2 rfl)
  ·exact gen _ _ (by simp [binOp_gtr]) h (b2 rfl)
  ·exact gen _ _ (by simp [binOp_geq]) h (b2 rfl)
 ·rename_i p q hp hq
  rw [hp] at vx;rw [hq] at vy
  obtain ⟨tx,ex,hx1,hx2⟩:=vx.str_inv
  obtain ⟨ty,ey,hy1,hy2⟩:=vy.str_inv
  have gen:∀v r,(Op.stringOp op tx ty).run P w=.ok v w→K ⟨r,[],[]⟩→VR g w v r→o.wp P a w K' Q':=fun v r hrun hk hv =>
   a0b hR hF (v:=v) (by simp [execOp,ho,ex,ey,eqGuard_at_string,b83,hrun]) (.inl hk) hv
  have lx:tx.toList=p:=by rw [ByteArray.toList_eq,hx1]
  have ly:ty.toList=q:=by rw [ByteArray.toList_eq,hy1]
  have sx:tx.size=p.length:=by rw [←hx1,xD];rfl
  have sy:ty.size=q.length:=by rw [←hy1,xD];rfl
  have eqb:(p==q)=decide (p=q):=by rw [wS];simp
  cases op<;>simp only at h<;>try exact h.elim
  ·obtain ⟨h1,h2⟩:=h;replace h1:=d0y.1 h1
   have hn:¬((tx.size+ty.size:Nat):Int) > IntKind.i64.max:=by rw [IntKind.max_i64];omega
   refine gen (.string (tx++ty)) _ (by simp only [Op.stringOp];rw [if_neg hn];rfl) h2 (.rd ?_)
   have e:(tx++ty).data.toList=p++q:=by rw [←hx1,←hy1];simp
   rw [←e]
   refine .str _ ?_
   have:(tx++ty).size=(tx++ty).data.toList.length:=by rw [xD];rfl
   rw [this,e,xH,maxLen]
   omega
  ·exact gen (.bool (decide (p=q))) _ (by simp [Op.stringOp,lx,ly,eqb]) h (.rd (.bool _))
  ·exact gen (.bool (!decide (p=q))) _ (by simp [Op.stringOp,lx,ly,eqb]) h (.rd (.bool _))
  ·exact gen (.bool (Op.bytesLess p q)) _ (by simp [Op.stringOp,lx,ly]) h (.rd (.bool _))
  ·exact gen (.bool (Op.bytesLess p q||decide (p=q))) _ (by simp [Op.stringOp,lx,ly,eqb]) h (.rd (.bool _))
  ·exact gen (.bool (!(Op.bytesLess p q||decide (p=q)))) _ (by simp [Op.stringOp,lx,ly,eqb]) h (.rd (.bool _))
  ·exact gen (.bool (!Op.bytesLess p q)) _ (by simp [Op.stringOp,lx,ly]) h (.rd (.bool _))
 ·exact h.elim
theorem d93 (k:IntKind) (x:Int) (m:Nat) (hm:m<k.bits):bits .and k x (2^m - 1)=x % 2^m:=by
 have hp:(0:Nat)<2^m:=Nat.pow_pos (by decide)
 have hlt:2^m<2^k.bits:=Nat.pow_lt_pow_right (by decide) hm
 have e1:(BitVec.ofInt k.bits (2^m - 1:Int)).toNat=2^m - 1:=by
  have:(2^m - 1:Int)=((2^m - 1:Nat):Int):=by
   rw [Int.ofNat_sub hp];simp
  rw [this,BitVec.ofInt_natCast,BitVec.toNat_ofNat,Nat.mod_eq_of_lt (by omega)]
 have e2:((BitVec.ofInt k.bits x &&& BitVec.ofInt k.bits (2^m - 1:Int)).toNat:Int)=x % 2^m:=by
  rw [BitVec.toNat_and,e1,Nat.and_two_pow_sub_one_eq_mod,BitVec.toNat_ofInt]
  have hb:(0:Int)<2^k.bits:=Int.pow_pos (by decide)
  have h0:=Int.emod_nonneg x (Int.ne_of_gt hb)
  rw [Int.natCast_emod]
  have:(((x % ((2^k.bits:Nat):Int)).toNat:Nat):Int)=x % 2^k.bits:=by
   rw [Int.toNat_of_nonneg (by simpa using h0)];simp
  rw [this]
  have hd:(2^m:Int) ∣ 2^k.bits:=by
   have:=Int.natCast_dvd_natCast.2 (Nat.pow_dvd_pow 2 (Nat.le_of_lt hm))
   simpa using this
  have:=Int.emod_emod_of_dvd x hd
  simpa using this
 unfold bits
 simp only [e2]
 refine a2q ?_
 have h0:=Int.emod_nonneg x (Int.ne_of_gt (Int.pow_pos (n:=2) (m:=m) (by decide)))
 have h1:=Int.emod_lt_of_pos x (Int.pow_pos (n:=2) (m:=m) (by decide))
 have h2:(2^m:Int)≤2^(k.bits - 1):=by
  have:(2:Nat)^m≤2^(k.bits - 1):=Nat.pow_le_pow_right (by decide) (by omega)
  exact_mod_cast this
 have h3:x % 2^m<2^(k.bits - 1):=Int.lt_of_lt_of_le h1 h2
 clear h1 h2 e2 e1 hlt hp hm
 obtain ⟨r,hr⟩:∃r,r=x % 2^m:=⟨_,rfl⟩
 rw [←hr] at h0 h3 ⊢
 clear hr
 cases k<;>simp only [rng,IntKind.bits] at h3 ⊢<;>omega
theorem e4v {m:Nat} {x:Opd} {k:IntKind} (hok:(a0a.mask m x k).ok P o.op=true) (hR:Rel P c g σ a w) {d:Nat} (h:p9 P (.mask m x k) d [x.ev σ.env] ob K L) (hF:Fin o c g σ a w K L K'):o.wp P a w K' Q':=by
 have:∃t x' n t',o.op=.binOp .and t x' (.const (.int k n)) t'∧x.ok x'=true∧n=2^m - 1∧m<k.bits:=by
  cases ho:o.op<;>rw [ho] at hok<;>try (simp [a0a.ok] at hok;done)
  rename_i op t x' y t'
  cases op<;>try (simp [a0a.ok] at hok;done)
  cases y<;>try (simp [a0a.ok] at hok;done)
  rename_i v
  cases v<;>try (simp [a0a.ok] at hok;done)
  rename_i k' n
  simp [a0a.ok] at hok
  obtain ⟨⟨⟨h1,h2⟩,h3⟩,h4⟩:=hok
  have:=b2h h2;subst this
  exact ⟨t,x',n,t',rfl,h1,h3,by simpa [Nat.blt_eq] using h4⟩
 obtain ⟨t,x',n,t',ho,hx,rfl,hm⟩:=this
 have vx:=Opd.vr hR hx
 simp only [p9,c0s,evl] at h
 cases hc:x.ev σ.env<;>simp only [hc] at h<;>try exact h.elim
 rename_i k' p
 rw [hc] at vx
 by_cases hk:kEq k k'=true
 case neg=>simp [hk] at h
 simp only [hk,vO] at h
 have:=b2h hk;subst this
 obtain ⟨ex,rx⟩:=vx.int_inv
 refine a0b hR hF (v:=.int k (bits .and k p (2^m - 1))) ?_ (.inl h) ?_
 ·have:a.eval (.const (.int k (2^m - 1)))=.int k (2^m - 1):=rfl
  simp [execOp,ho,ex,this,eqGuard_and,binOp_and,intBits_and]
 ·rw [←d93 k p m hm]
  exact .rd (.int _ _ (b0n _ _ _ _))
theorem g1m {ng:Bool} {x y:Opd} (hok:(a0a.beq ng x y).ok P o.op=true) (hR:Rel P c g σ a w) {d:Nat} (h:p9 P (.beq ng x y) d [x.ev σ.env,y.ev σ.env] ob K L) (hF:Fin o c g σ a w K L K'):o.wp P a w K' Q':=by
 cases ho:o.op<;>simp [a0a.ok,ho] at hok
 rename_i op t x' y' t'
 obtain ⟨⟨⟨h1,hx⟩,hy⟩,ht⟩:=hok
 have ht':P.underlying t=some .bool:=by unfold c8l at ht;split at ht<;>simp_all
 have vx:=Opd.vr hR hx
 have vy:=Opd.vr hR hy
 simp only [p9,e2h,evl] at h
 split at h
 ·rename_i p q hp hq
  rw [hp] at vx;rw [hq] at vy
  refine a0b hR hF (v:=.bool (bif ng then !(p==q) else p==q)) ?_ (.inl h) (.rd (.bool _))
  cases ng<;>simp at h1<;>subst h1<;>simp [execOp,ho,vx.bool_inv,vy.bool_inv,eqGuard_at_bool,run_eql_bool _ t p q ht',run_neq_bool _ t p q ht']
 ·exact h.elim
theorem a4p:∀(m:Nat) {ks:List Nat} {cs ds:List V} {t:Bool},m≤ks.length→a0z ks cs ds=some t→∃t1 t2,a0z (ks.take m) (cs.take m) (ds.take m)=some t1∧a0z (ks.drop m) (cs.drop m) (ds.drop m)=some t2∧t=(t1&&t2)∧m≤cs.length∧m≤ds.length
 | 0,ks,cs,ds,t,_,h=>⟨true,t,by simp [a0z],by simpa using h,by simp,vH _,vH _⟩
 | m+1,ks,cs,ds,t,hm,h=>by
  unfold a0z at h
  split at h
  ·simp at hm
  ·rename_i q k a r k' b s' 
   cases hk:kEq k k' with
   | false=>rw [hk] at h;cases h
   | true =>
    rw [hk] at h
    simp only [vO,zO] at h
    obtain ⟨t',h1,rfl⟩:=h
    obtain ⟨t1,t2,e1,e2,e3,e4,e5⟩:=a4p m (by simpa using hm) h1
    exact ⟨decide (a=b)&&t1,t2,by simp [a0z,hk,e1],by simpa using e2,by rw [e3,Bool.and_assoc],by simpa using e4,by simpa using e5⟩
  ·rename_i q a r b s'
   simp only [zO] at h
   obtain ⟨t',h1,rfl⟩:=h
   obtain ⟨t1,t2,e1,e2,e3,e4,e5⟩:=a4p m (by simpa using hm) h1
   exact ⟨decide (a=b)&&t1,t2,by simp [a0z,e1],by simpa using e2,by rw [e3,Bool.and_assoc],by simpa using e4,by simpa using e5⟩
  ·rename_i q a r b s'
   simp only [zO] at h
   obtain ⟨t',h1,rfl⟩:=h
   obtain ⟨t1,t2,e1,e2,e3,e4,e5⟩:=a4p m (by simpa using hm) h1
   exact ⟨(a==b)&&t1,t2,by simp [a0z,e1],by simpa using e2,by rw [e3,Bool.and_assoc],by simpa using e4,by simpa using e5⟩
  ·cases h
theorem h0j {qs:List Nat} {cs ds:List V} {t:Bool} (h:a0z (0::qs) cs ds=some t):∃k a b cs' ds' t',cs=.int k a::cs'∧ds=.int k b::ds'∧a0z qs cs' ds'=some t'∧t=(decide (a=b)&&t'):=by
 cases cs with
 | nil=>simp [a0z] at h
 | cons c cs=>cases ds with
  | nil=>cases c<;>simp [a0z] at h
  | cons d ds =>
   cases c<;>cases d<;>simp only [a0z,reduceCtorEq] at h
   rename_i k a k' b
   cases hk:kEq k k' with
   | false=>rw [hk] at h;cases h
   | true =>
    rw [hk] at h
    simp only [vO,zO] at h
    obtain ⟨t',h1,rfl⟩:=h
    have:=b2h hk;subst this
    exact ⟨k,a,b,cs,ds,t',rfl,rfl,h1,rfl⟩
theorem h0i {qs:List Nat} {cs ds:List V} {t:Bool} (h:a0z (1::qs) cs ds=some t):∃a b cs' ds' t',cs=.str a::cs'∧ds=.str b::ds'∧a0z qs cs' ds'=some t'∧t=(decide (a=b)&&t'):=by
 cases cs with
 | nil=>simp [a0z] at h
 | cons c cs=>cases ds with
  | nil=>cases c<;>simp [a0z] at h
  | cons d ds =>
   cases c<;>cases d<;>simp only [a0z,reduceCtorEq] at h
   simp only [zO] at h
   obtain ⟨t',h1,rfl⟩:=h
   exact ⟨_,_,cs,ds,t',rfl,rfl,h1,rfl⟩
theorem h0h {qs:List Nat} {cs ds:List V} {t:Bool} (h:a0z (2::qs) cs ds=some t):∃a b cs' ds' t',cs=.bool a::cs'∧ds=.bool b::ds'∧a0z qs cs' ds'=some t'∧t=((a==b)&&t'):=by
 cases cs with
 | nil=>simp [a0z] at h
 | cons c cs=>cases ds with
  | nil=>cases c<;>simp [a0z] at h
  | cons d ds =>
   cases c<;>cases d<;>simp only [a0z,reduceCtorEq] at h
   simp only [zO] at h
   obtain ⟨t',h1,rfl⟩:=h
   exact ⟨_,_,cs,ds,t',rfl,rfl,h1,rfl⟩
def EqF (P:Program) (g:Gh) (w:World) (d:Nat) (n:Nat) (ks:List Nat) (fs:List Field):Prop:=∀(dp:Nat) (vs us:Array Value) (cs ds:List V) (t:Bool),a0z ks cs ds=some t →
  (∀i c,cs[i]?=some c→VR g w (vs.getD (n+i) undef) c)→(∀i c,ds[i]?=some c→VR g w (us.getD (n+i) undef) c)→n+cs.length≤vs.size→n+ds.length≤us.size →
  (Op.eqFields (dp+d+1) vs us fs).run P w=.ok t w
theorem c6x {rec:List Nat→List Field→Bool} {d:Nat} (hrec:∀ks fs,rec ks fs=true→∃d',d=d'+1∧EqF P g w d' 0 ks fs):∀(fs:List Field) (n:Nat) (ks:List Nat),c1t rec P n ks fs=true→EqF P g w d n ks fs:=by
 intro fs
 induction fs with
 | nil =>
  intro n ks hf dp vs us cs ds t he _ _ _ _
  cases ks with
  | cons q qs=>simp [c1t] at hf
  | nil =>
   cases cs<;>cases ds<;>simp [a0z] at he
   subst he
   rfl
 | cons f fs ih =>
  intro n ks hf dp vs us cs ds t he hc hd hs1 hs2
  simp only [c1t,wE] at hf
  obtain ⟨h12,h3⟩:=hf
  obtain ⟨h1,h2⟩:=h12
  have hoff:f.offset=n:=by simpa using h1
  have hnm:f.name ≠ "_":=by simpa using h2
  have rest:∀(qs:List Nat) (c0 d0:V) (cs' ds':List V) (b t':Bool),c1t rec P (n+1) qs fs=true→cs=c0::cs'→ds=d0::ds'→a0z qs cs' ds'=some t'→t=(b&&t') →
    (∀w':World,(isAgg f.type).run P w'=.ok false w')→(∀v0 u0,VR g w v0 c0→VR g w u0 d0→(Op.equalIn (dp+d+1) f.type v0 u0).run P w=.ok b w) →
    (Op.eqFields (dp+d+1) vs us (f::fs)).run P w=.ok t w:=by
   intro qs c0 d0 cs' ds' b t' h4 e1 e2 ht' ht hagg hb
   subst e1;subst e2
   have v0:=hc 0 c0 rfl
   have u0:=hd 0 d0 rfl
   simp only [vD] at v0 u0
   have hv:vs[n]?=some (vs.getD n undef):=by
    have:n<vs.size:=by simp at hs1;omega
    simp [zC,this]
   have hu:us[n]?=some (us.getD n undef):=by
    have:n<us.size:=by simp at hs2;omega
    simp [zC,this]
   have hpv:(Go.part f.type vs f.offset).run P w=.ok (vs.getD n undef) w:=by
    unfold Go.part
    simp only [w8,hagg w,xN,xL,if_false,hoff,hv,w7]
   have hpu:(Go.part f.type us f.offset).run P w=.ok (us.getD n undef) w:=by
    unfold Go.part
    simp only [w8,hagg w,xN,xL,if_false,hoff,hu,w7]
   have hrest:=ih (n+1) qs h4 dp vs us cs' ds' t' ht' (fun i c hi=>by have:=hc (i+1) c (by simpa using hi);rwa [show n+(i+1)=n+1+i by omega] at this)
     (fun i c hi=>by have:=hd (i+1) c (by simpa using hi);rwa [show n+(i+1)=n+1+i by omega] at this) (by simp at hs1;omega) (by simp at hs2;omega)
   unfold Op.eqFields
   simp only [hnm,ne_eq,not_false_iff,if_true,w8,hpv,hpu,hb _ _ v0 u0,xN]
   cases b
   ·simp [ht]
   ·simp [hrest,ht]
  have agg:∀dsc,P.underlying f.type=some dsc→(match dsc with|.struct _|.array _ _=>true|_=>false)=false→∀w':World,(isAgg f.type).run P w'=.ok false w':=by
   intro dsc hu hd w'
   cases dsc<;>simp [isAgg,run_underlying hu] at hd ⊢
  unfold f0i at h3
  split at h3
  ·rename_i qs hu
   obtain ⟨k,a,b,cs',ds',t',rfl,rfl,he',ht'⟩:=h0j he
   refine rest qs _ _ cs' ds' (decide (a=b)) t' h3 rfl rfl he' ht' (agg _ hu rfl) fun v0 u0 hv0 hu0=>?_
   rw [hv0.int_inv.1,hu0.int_inv.1,run_equalIn_int w (dp+d) f.type _ _ _ _ hu]
   exact congrArg (fun b=>Result.ok b w) (by rw [wS];simp)
  ·rename_i qs hu
   obtain ⟨a,b,cs',ds',t',rfl,rfl,he',ht'⟩:=h0i he
   refine rest qs _ _ cs' ds' (decide (a=b)) t' h3 rfl rfl he' ht' (agg _ hu rfl) fun v0 u0 hv0 hu0=>?_
   obtain ⟨t0,e0,hx0,_⟩:=hv0.str_inv
   obtain ⟨t1,e1,hx1,_⟩:=hu0.str_inv
   rw [e0,e1,run_equalIn_string w (dp+d) f.type _ _ hu,ByteArray.toList_eq,ByteArray.toList_eq,hx0,hx1]
   exact congrArg (fun b=>Result.ok b w) (by rw [wS];simp)
  ·rename_i qs hu
   obtain ⟨a,b,cs',ds',t',rfl,rfl,he',ht'⟩:=h0h he
   refine rest qs _ _ cs' ds' (a==b) t' h3 rfl rfl he' ht' (agg _ hu rfl) fun v0 u0 hv0 hu0=>?_
   rw [hv0.bool_inv,hu0.bool_inv,run_equalIn_bool' w (dp+d) f.type _ _ hu]
  ·rename_i fs' hu
   split at h3
   ·rename_i inf hi
    simp only [wE,xV] at h3
    obtain ⟨⟨⟨a1,a2⟩,a3⟩,a4⟩:=h3
    have a1:=zQ a1
    obtain ⟨t1,t2,e1,e2,rfl,e4,e5⟩:=a4p inf.size a1 he
    obtain ⟨d',rfl,hr⟩:=hrec _ _ a2
    have hsz:∀w':World,(Go.sizeOf f.type).run P w'=.ok inf.size w':=fun w'=>by simp [Go.sizeOf,typeInfo,hi]
    have hag:∀w':World,(isAgg f.type).run P w'=.ok true w':=fun w'=>by simp [isAgg,run_underlying hu]
    have pt:∀(xs:Array Value),(Go.part f.type xs f.offset).run P w=.ok (.agg (xs.extract n (n+inf.size))) w:=fun xs=>by
     unfold Go.part
     simp only [w8,hag w,xN,if_true,hsz w,w7,hoff]
    have hfo:P.fieldsOf f.type=fs':=by simp [Program.fieldsOf,hu]
    have gd:∀(xs:Array Value) (i:Nat),i<inf.size→n+inf.size≤xs.size→(xs.extract n (n+inf.size)).getD (0+i) undef=xs.getD (n+i) undef:=fun xs i hi hx=>by
     simp only [zC,vA]
     rw [Array.getElem?_extract,if_pos (by omega)]
    have l1:(cs.take inf.size).length=inf.size:=by simp;omega
    have l2:(ds.take inf.size).length=inf.size:=by simp;omega
    have h0:=hr dp (vs.extract n (n+inf.size)) (us.extract n (n+inf.size)) (cs.take inf.size) (ds.take inf.size) t1 e1
     (fun i c hi=>by
      have hlt:i<inf.size:=by have:=(zG.1 hi).1;omega
      rw [gd _ _ hlt (by omega)]
      refine hc i c ?_
      rwa [xI,if_pos hlt] at hi)
     (fun i c hi=>by
      have hlt:i<inf.size:=by have:=(zG.1 hi).1;omega
      rw [gd _ _ hlt (by omega)]
      refine hd i c ?_
      rwa [xI,if_pos hlt] at hi)
     (by rw [l1];simp;omega) (by rw [l2];simp;omega)
    have hrest:=ih (n+inf.size) _ a4 dp vs us (cs.drop inf.size) (ds.drop inf.size) t2 e2 (fun i c hi=>by rw [xJ] at hi;have:=hc _ c hi;rwa [←wW] at this)
     (fun i c hi=>by rw [xJ] at hi;have:=hd _ c hi;rwa [←wW] at this) (by simp;omega) (by simp;omega)
    unfold Op.eqFields
    have heq:(Op.equalIn (dp+(d'+1)+1) f.type (.agg (vs.extract n (n+inf.size))) (.agg (us.extract n (n+inf.size)))).run P w=.ok t1 w:=by
     rw [run_equalIn_agg w (dp+(d'+1)) f.type _ _ (by rw [hfo];exact hu) a3,hfo]
     exact h0
    simp only [hnm,ne_eq,not_false_iff,if_true,w8,pt,heq,xN]
    cases t1
    ·simp
    ·simp [hrest]
   ·cases h3
  ·cases h3
theorem c6w:∀(d:Nat) (ks:List Nat) (fs:List Field),d3j P d ks fs=true→EqF P g w d 0 ks fs
 | 0,ks,fs,h=>c6x (fun _ _ h=>by cases h) fs 0 ks h
 | d+1,ks,fs,h=>c6x (fun ks fs h=>⟨d,rfl,c6w d ks fs h⟩) fs 0 ks h
theorem g1g {ng:Bool} {ks:List Nat} {x y:Opd} (hok:(a0a.eqs ng ks x y).ok P o.op=true) (hR:Rel P c g σ a w) {d:Nat} (h:p9 P (.eqs ng ks x y) d [x.ev σ.env,y.ev σ.env] ob K L) (hF:Fin o c g σ a w K L K'):o.wp P a w K' Q':=by
 cases ho:o.op<;>simp [a0a.ok,ho] at hok
 rename_i op t x' y' t'
 obtain ⟨⟨⟨h1,hx⟩,hy⟩,ht⟩:=hok
 have vx:=Opd.vr hR hx
 have vy:=Opd.vr hR hy
 simp only [p9,d73,evl] at h
 split at h
 ·rename_i cs ds hp hq
  rw [hp] at vx;rw [hq] at vy
  split at h
  ·rename_i b hb
   obtain ⟨vs,ex,lx,rx⟩:=vx.agg_inv
   obtain ⟨us,ey,ly,ry⟩:=vy.agg_inv
   have:∃fs,P.underlying t=some (.struct fs)∧d3j P 3 ks fs.toList=true∧P.stoodInHeld t=false∧P.eqGuardType P.depth t=false:=by
    unfold c3u at ht
    split at ht
    ·rename_i fs hu
     simp only [wE,xV] at ht
     exact ⟨fs,hu,ht.1.1,ht.1.2,ht.2⟩
    ·cases ht
   obtain ⟨fs,hu,hf,hst,hg⟩:=this
   have hfo:P.fieldsOf t=fs:=by simp [Program.fieldsOf,hu]
   have heq:(Op.equalIn 10000 t (.agg vs) (.agg us)).run P w=.ok b w:=by
    rw [run_equalIn_agg w 9999 t vs us (by rw [hfo];exact hu) hst,hfo]
    exact c6w 3 ks fs.toList hf 9995 vs us cs ds b hb (fun i c hi=>by rw [vA];exact rx i c hi) (fun i c hi=>by rw [vA];exact ry i c hi) (by omega) (by omega)
   refine a0b hR hF (v:=.bool (bif ng then !b else b)) ?_ (.inl h) (.rd (.bool _))
   cases ng<;>simp at h1<;>subst h1<;>simp [execOp,ho,ex,ey,run_eqGuard_agg w _ t x' y' vs us hg,run_eql_struct,run_neq_struct,heq]
  ·exact h.elim
 ·exact h.elim
end
section
variable {P:Program} {o:Oper} {c:Ctx} {g:Gh} {σ:St} {a:Act} {w:World} {ob:Nat→Option a0i} {K L:Eff→Prop} {K':Act→World→Prop} {Q':Exit→Act→World→Prop}
theorem c1f (hR:Rel P c g σ a w):∀{xs:List Opd} {ys:List Operand},b04 xs ys=true→xs.length=ys.length∧∀(i:Nat) (x:V),(xs.map (·.ev σ.env))[i]?=some x→VR g w ((ys.map a.eval).getD i undef) x
 | [],[],_=>⟨rfl,fun i x h=>by simp at h⟩
 | [],_::_,h=>by simp [b04] at h
 | _::_,[],h=>by simp [b04] at h
 | x::xs,y::ys,h=>by
  simp only [b04,wE] at h
  obtain ⟨h1,h2⟩:=c1f hR h.2
  refine ⟨by simp [h1],fun i v hi=>?_⟩
  cases i with
  | zero=>simp at hi;subst hi;simpa using Opd.vr hR h.1
  | succ i=>simp only [wZ,zN] at hi;simpa using h2 i v hi
theorem e4u {f:Nat} {cap:List Opd} (hok:(a0a.mkfn f cap).ok P o.op=true) (hR:Rel P c g σ a w) {d:Nat} (h:p9 P (.mkfn f cap) d (cap.map (·.ev σ.env)) ob K L) (hF:Fin o c g σ a w K L K'):o.wp P a w K' Q':=by
 have:∃first cap',o.op=.makeFunc (.func f) first cap'∧first=#[]∧b04 cap cap'.toList=true:=by
  cases ho:o.op<;>rw [ho] at hok<;>try (simp [a0a.ok] at hok;done)
  rename_i fn first cap'
  cases fn<;>try (simp [a0a.ok] at hok;done)
  simp [a0a.ok] at hok
  obtain ⟨⟨h1,h2⟩,h3⟩:=hok
  subst h1
  exact ⟨first,cap',rfl,h2,h3⟩
 obtain ⟨first,cap',ho,rfl,hc⟩:=this
 obtain ⟨hl,hv⟩:=c1f hR hc
 have hk:K (evl (.fn (.func f) (cap.map (·.ev σ.env)))):=by
  unfold p9 at h;exact h
 refine a0b hR hF (v:=.func (.func f) #[] (cap'.map a.eval)) ?_ (.inl hk) ?_
 ·simp [execOp,ho,Instr.makeFunc]
 ·refine .fn _ _ _ (by simp [hl]) fun i x hi=>?_
  have:=hv i x hi
  have e:(cap'.map a.eval).getD i undef=(cap'.toList.map a.eval).getD i undef:=by
   simp [zC,List.getD]
  rw [e];exact this
theorem g9w {mx:Bool} {x y:Opd} (hok:(a0a.mm mx x y).ok P o.op=true) (hR:Rel P c g σ a w) {d:Nat} (h:p9 P (.mm mx x y) d [x.ev σ.env,y.ev σ.env] ob K L) (hF:Fin o c g σ a w K L K'):o.wp P a w K' Q':=by
 have:∃cl u v,o.op=.call cl∧cl.callee=.builtin (if mx then .max else .min)∧cl.args=#[u,v]∧x.ok u=true∧y.ok v=true:=by
  cases ho:o.op<;>rw [ho] at hok<;>try (simp [a0a.ok] at hok;done)
  rename_i cl
  obtain ⟨callee,args,ts⟩:=cl
  cases callee<;>try (simp [a0a.ok] at hok;done)
  unfold a0a.ok at hok
  simp only at hok
  split at hok
  ·rename_i u v he
   simp at hok
   refine ⟨_,u,v,rfl,by rw [hok.2],?_,hok.1.1,hok.1.2⟩
   apply wF.1
   simpa using he
  ·cases hok
 obtain ⟨cl,u,v,ho,hcl,hargs,hx,hy⟩:=this
 have vx:=Opd.vr hR hx
 have vy:=Opd.vr hR hy
 simp only [p9,sMm] at h
 split at h
 ·rename_i k p k' q hp hq
  rw [hp] at vx;rw [hq] at vy
  by_cases hk:kEq k k'=true
  case neg=>simp [hk] at h
  simp only [hk,vO] at h
  have:=b2h hk;subst this
  obtain ⟨ex,rx⟩:=vx.int_inv
  obtain ⟨ey,ry⟩:=vy.int_inv
  refine a0b hR hF (v:=.int k (bif mx then max p q else min p q)) ?_ (.inl h) (.rd (.int _ _ ?_))
  ·cases mx
   ·simp [execOp,ho,resolve,hcl,hargs,invoke,builtin,ex,ey,run_min_int2]
    rw [Int.min_def]
    split<;>split<;>first|rfl|omega
   ·simp [execOp,ho,resolve,hcl,hargs,invoke,builtin,ex,ey,run_max_int2]
    rw [Int.max_def]
    split<;>split<;>first|rfl|omega
  ·cases mx<;>simp only [vO,vM]
   ·rw [Int.min_def];split<;>assumption
   ·rw [Int.max_def];split<;>assumption
 ·exact h.elim
theorem g1e {off:Nat} {x:Opd} (hok:(a0a.fad off x).ok P o.op=true) (hR:Rel P c g σ a w) {d:Nat} (h:p9 P (.fad off x) d [x.ev σ.env] ob K L) (hF:Fin o c g σ a w K L K'):o.wp P a w K' Q':=by
 have:∃t y f fs fl i,o.op=.fieldAddr t y f∧x.ok y=true∧P.underlying t=some (.struct fs)∧fs[f]?=some fl∧fl.offset=off∧P.info? fl.type=some i∧i.size≠0:=by
  cases ho:o.op<;>rw [ho] at hok<;>try (simp [a0a.ok] at hok;done)
  rename_i t y f
  simp only [a0a.ok,wE,c95] at hok
  obtain ⟨h1,h2⟩:=hok
  split at h2<;>try (cases h2;done)
  rename_i fs hu
  split at h2<;>try (cases h2;done)
  rename_i fl hfl
  simp only [wE] at h2
  obtain ⟨h2,h3⟩:=h2
  split at h3<;>try (cases h3;done)
  rename_i i hi
  exact ⟨t,y,f,fs,fl,i,rfl,h1,hu,hfl,by simpa using h2,hi,fun e=>by rw [e] at h3;cases h3⟩
 obtain ⟨t,y,f,fs,fl,i,ho,hx,hu,hfl,hoff,hi,hsz⟩:=this
 have vx:=Opd.vr hR hx
 simp only [p9,e2g] at h
 have hrun:∀ad:Addr,a.eval y=.pointer (some ad)→(execOp a.eval o).run P w=.ok (.value (.pointer (some (ad.add off)))) w:=by
  intro ad e
  simp [execOp,ho,Instr.fieldAt,run_underlying hu,hfl,e,Instr.sureAddr,fieldPlace,Go.sizeOf,typeInfo,hi,hsz,hoff]
 have add_eq:∀b n m:Nat,(⟨b,n,none⟩:Addr).add m=⟨b,n+m,none⟩:=fun b n m=>Addr.add_lit b n m
 cases hc:x.ev σ.env<;>simp only [hc] at h<;>try exact h.elim
 ·rw [hc] at vx
  refine a0b hR hF (hrun _ vx.ptr_inv) (.inl h) ?_
  rw [add_eq];exact .ptr _ _
 ·rw [hc] at vx
  obtain ⟨b,o',cur,e,fz,hv,hS,hg,hb,hr⟩:=vx.eptr_inv
  refine a0b hR hF (hrun _ hv) (.inl h) ?_
  rw [add_eq,wW];exact .eptr b o' _ cur e fz _ hS hg hb hr
 ·rw [hc] at vx
  refine a0b hR hF (hrun _ vx.optr_inv) (.inl h) ?_
  rw [add_eq,wW];exact .optr _ _ _ _
theorem c30 {n:Option Nat} {off:Nat} {cs:List V} {Kp:V→Prop} (h:part n off cs Kp):∃x,Kp x ∧
  ((n=none∧cs[off]?=some x)∨∃m,n=some m∧off+m≤cs.length∧x=.agg ((cs.drop off).take m)):=by
 unfold part at h
 cases n with
 | none =>
  simp only at h
  split at h
  ·rename_i c r hd
   refine ⟨c,h,.inl ⟨rfl,?_⟩⟩
   have:=congrArg (·[0]?) hd
   simpa using this
  ·exact h.elim
 | some m =>
  simp only at h
  by_cases hb:Nat.ble (off+m) cs.length=true
  ·simp only [hb,vO] at h
   exact ⟨_,h,.inr ⟨m,rfl,by simpa using hb,rfl⟩⟩
  ·simp [hb] at h
theorem c04 {t:TypeId} (h:c41 P t=some none):∀w':World,(isAgg t).run P w'=.ok false w':=by
 intro w'
 unfold c41 at h
 split at h<;>try (simp at h;done)
 rename_i d i hn1 hn2 hu hi
 cases d<;>simp_all [isAgg,run_underlying]
theorem c02 {t:TypeId} {m:Nat} (h:c41 P t=some (some m)):(∀w':World,(isAgg t).run P w'=.ok true w')∧∀w':World,(Go.sizeOf t).run P w'=.ok m w':=by
 unfold c41 at h
 split at h<;>simp at h
 ·rename_i fs i hu hi
  exact ⟨fun w'=>by simp [isAgg,run_underlying hu],fun w'=>by simp [Go.sizeOf,typeInfo,hi,h]⟩
 ·rename_i n e i hu hi
  exact ⟨fun w'=>by simp [isAgg,run_underlying hu],fun w'=>by simp [Go.sizeOf,typeInfo,hi,h]⟩
theorem a2c {t:TypeId} {n:Option Nat} (ht:c41 P t=some n) {b o' off:Nat} {cur:Array Value} {e:TypeId} {fz:Nat×Nat} (hb:w.heap[b]?=some (.cells cur e fz)) {cs:List V}
  (hsz:o'+cs.length≤cur.size) (hr:∀(j:Nat) (x:V),cs[j]?=some x→VR g w (cur.getD (o'+j) undef) x) {Kp:V→Prop} (h:part n off cs Kp) :
  ∃v x,(loadVar t ⟨b,o'+off,none⟩).run P w=.ok v w∧Kp x∧VR g w v x:=by
 obtain ⟨x,hk,hx⟩:=c30 h
 rcases hx with ⟨rfl,hx⟩|⟨m,rfl,hm,rfl⟩
 ·have hlt:off<cs.length:=(zG.1 hx).1
  refine ⟨cur.getD (o'+off) undef,x,?_,hk,hr off x hx⟩
  have hc:w.cell? ⟨b,o'+off,none⟩=some (cur.getD (o'+off) undef):=by
   rw [cell_of_row w b _ cur e fz hb]
   have:o'+off<cur.size:=by omega
   simp [zC,this]
  simp [loadVar,c04 ht w,run_load,hc]
 ·obtain ⟨h1,h2⟩:=c02 ht
  have hl:((cur.toList.drop (o'+off)).take m).length=m:=by simp;omega
  refine ⟨.agg ((cur.toList.drop (o'+off)).take m).toArray,_,?_,hk,?_⟩
  ·have hrun:=run_loadCells_list (P:=P) w ⟨b,o'+off,none⟩ ((cur.toList.drop (o'+off)).take m) (fun j v hv=>by
    rw [show (⟨b,o'+off,none⟩:Addr).add j=⟨b,o'+off+j,none⟩ from Addr.add_lit _ _ _,cell_of_row w b _ cur e fz hb]
    rw [xI] at hv
    split at hv
    ·simpa using hv
    ·cases hv)
   rw [hl] at hrun
   simp only [loadVar,w8,h1 w,xN,if_true,h2 w,hrun,w7]
  ·refine .agg _ _ (by simp;omega) fun i x hi=>?_
   rw [xI] at hi
   split at hi
   ·rename_i him
    have hi':cs[off+i]?=some x:=by simpa using hi
    have:=hr (off+i) x hi'
    have hlt:o'+(off+i)<cur.size:=by
     have:=(zG.1 hi').1;omega
    have e1:((cur.toList.drop (o'+off)).take m).toArray.getD i undef=cur.getD (o'+(off+i)) undef:=by
     simp [zC,xI,him,wW]
    rw [e1];exact this
   ·cases hi
theorem d5b {n:Option Nat} {t:TypeId} {v:Value} {x:V} {H:Heap} {Kl Ll:V→Prop} (ht:c41 P t=some n) (hH:a3p P g w H) (hob:∀id o,ob id=some o→find id H=some o) (vx:VR g w v x) (h:sLd n x ob Kl Ll) :
  ∃ad u z,v=.pointer (some ad)∧(loadVar t ad).run P w=.ok u w∧(Kl z∨Ll z)∧VR g w u z:=by
 unfold sLd at h
 split at h
 ·rename_i id off
  split at h
  ·rename_i cs _ hobj
   have hO:=hH.obj _ _ (hob _ _ hobj)
   obtain ⟨hn,cur,e,fz,h1,h2,h3,h4⟩:=hO
   obtain ⟨v,x',hrun,hk,hv⟩:=a2c (P:=P) ht (o':=0) (off:=off) h1 (cs:=cs) (by omega) (fun j x hj=>by rw [vA];exact h4 j x hj) h
   rw [vA] at hrun
   exact ⟨_,v,x',vx.ptr_inv,hrun,.inl hk,hv⟩
  ·exact h.elim
 ·rename_i z off
  obtain ⟨b,o',cur,e,fz,hv,hS,hg,hb,hr⟩:=vx.eptr_inv
  obtain ⟨v,x',hrun,hk,hv'⟩:=a2c (P:=P) ht (off:=off) hg hb (fun j x hj=>.rd (hr j x hj)) h
  exact ⟨_,v,x',hv,hrun,.inl hk,hv'⟩
 ·rename_i id k i off
  split at h
  ·rename_i k' xs t0 hobj
   by_cases hkk:Nat.beq k k'=true
   case neg=>simp [hkk] at h
   simp only [hkk,vO] at h
   have:=zR hkk;subst this
   obtain ⟨x',hxi,hp⟩:=h
   rcases hH.obj _ _ (hob _ _ hobj) with ⟨_,hnil⟩|⟨hn,ha⟩
   ·rw [hnil] at hxi;simp at hxi
   ·obtain ⟨hkp,⟨cur,e,fz,h1,h2,h3,h4⟩,h5,h6,h7⟩:=ha
    have hlt:i<xs.length:=(zG.1 hxi).1
    have hx':=h7 x' (z6 hxi)
    have hle:(g.base id+i+1)*k≤cur.size:=by
     rw [h2];exact zZ _ (by omega)
    rw [vK,vI] at hle
    obtain ⟨v,x'',hrun,hk,hv'⟩:=a2c (P:=P) ht (o':=(g.base id+i)*k) (off:=off) h1 (cs:=x'.cells) (by rw [hx'.1];exact hle) (fun j y hj=>.rd (h4 i j x' y hxi hj)) hp
    exact ⟨_,v,x'',vx.optr_inv,hrun,.inr hk,hv'⟩
  ·exact h.elim
 ·exact h.elim
theorem g9y {n:Option Nat} {x:Opd} (hok:(a0a.ld n x).ok P o.op=true) (hR:Rel P c g σ a w) (hob:∀id o,ob id=some o→find id σ.heap=some o) {d:Nat} (h:p9 P (.ld n x) d [x.ev σ.env] ob K L) (hF:Fin o c g σ a w K L K'):o.wp P a w K' Q':=by
 have:∃t y,o.op=.load t y∧x.ok y=true∧c41 P t=some n:=by
  cases ho:o.op<;>rw [ho] at hok<;>try (simp [a0a.ok] at hok;done)
  simp [a0a.ok] at hok
  exact ⟨_,_,rfl,hok.1,hok.2⟩
 obtain ⟨t,y,ho,hx,ht⟩:=this
 simp only [p9] at h
 obtain ⟨ad,u,z,e,hrun,hk,hv⟩:=d5b ht hR.hp hob (Opd.vr hR hx) h
 exact a0b hR hF (by simp [execOp,ho,Instr.loadAt,e,Instr.sureAddr,hrun]) hk hv
theorem c2j {t:TypeId} {k:Nat} (h:isSlice P t k=true):∃e,P.underlying t=some (.slice e)∧∀w':World,(Go.sizeOf e).run P w'=.ok k w':=by
 unfold isSlice at h
 split at h<;>try (cases h;done)
 rename_i e hu
 unfold a5j at h
 split at h<;>try (cases h;done)
 rename_i i hi
 refine ⟨e,hu,fun w'=>?_⟩
 have:i.size=k:=by simpa using h
 simp [Go.sizeOf,typeInfo,hi,this]
theorem g1b {k:Nat} {x i:Opd} (hok:(a0a.iad k x i).ok P o.op=true) (hR:Rel P c g σ a w) {d:Nat} (h:p9 P (.iad k x i) d [x.ev σ.env,i.ev σ.env] ob K L) (hF:Fin o c g σ a w K L K'):o.wp P a w K' Q':=by
 have:∃t y z,o.op=.indexAddr t y z∧x.ok y=true∧i.ok z=true∧isSlice P t k=true:=by
  cases ho:o.op<;>rw [ho] at hok<;>try (simp [a0a.ok] at hok;done)
  simp [a0a.ok] at hok
  exact ⟨_,_,_,rfl,hok.1.1,hok.1.2,hok.2⟩
 obtain ⟨t,y,z,ho,hx,hi,ht⟩:=this
 obtain ⟨e,hu,hsz⟩:=c2j ht
 have vx:=Opd.vr hR hx
 have vi:=Opd.vr hR hi
 simp only [p9,d0f] at h
 split at h
 ·rename_i kk n hn
  rw [hn] at vi
  obtain ⟨ei,_⟩:=vi.int_inv
  have hrun:∀(ad:Addr) (len cap:Nat),a.eval y=.slice (some ad) len cap→0≤n→n<len→(execOp a.eval o).run P w=.ok (.value (.pointer (some (ad.add (n.toNat*k))))) w:=by
   intro ad len cap e1 h0 h1
   simp [execOp,ho,Instr.indexAt,ei,e1,asIntOf,run_underlying hu,h0,h1,hsz]
  split at h
  ·rename_i xs hc
   rw [hc] at vx
   obtain ⟨h0,q,hq,hql,hk⟩:=h
   have hrd:=vx.sl_inv
   have hlt:n.toNat<xs.length:=(zG.1 hq).1
   generalize a.eval y=vy at *
   cases hrd with
   | nilsl=>simp at hlt
   | slz=>simp at hlt
   | sl b o' len cap k' cur e' fz _ hS hg hl hm hcc hb hkk hr =>
    have hqq:=hkk q (z6 hq)
    have:k'=k:=by rw [←hqq.1,hql]
    subst this
    have hle:o'+(n.toNat+1)*k'≤cur.size:=by
     rcases hb with hb|hb
     ·omega
     ·exact vB (Nat.add_le_add_left (zZ _ (by omega)) _) hb
    rw [vK,vI] at hle
    have:=hrun ⟨b,o',none⟩ len cap rfl h0 (by omega)
    refine a0b hR hF this (.inr hk) ?_
    rw [show (⟨b,o',none⟩:Addr).add (n.toNat*k')=⟨b,o'+n.toNat*k'+0,none⟩ from Addr.add_lit _ _ _]
    exact .eptr b _ 0 cur e' fz q hS hg (by rw [hql];omega) fun j cc hj=>hr n.toNat j q cc hq hj
  ·rename_i id k' lo m hc
   rw [hc] at vx
   by_cases hkk:Nat.beq k k'=true
   case neg=>simp [hkk] at h
   simp only [hkk,vO] at h
   have:=zR hkk;subst this
   obtain ⟨⟨h0,h1⟩,hk⟩:=h
   rcases vx.osl_inv with ⟨_,_,hz⟩|⟨hn',o',cc,hv,ho',hcap,hlc,_⟩
   ·omega
   ·refine a0b hR hF (hrun _ _ _ hv h0 h1) (.inl hk) ?_
    have ho'':o'=(g.base id+lo)*k:=by
     rcases ho' with h|h
     ·omega
     ·exact h
    rw [show (⟨g.ρ id,o',none⟩:Addr).add (n.toNat*k)=⟨g.ρ id,(g.base id+(lo+n.toNat))*k+0,none⟩ from by
     rw [show (⟨g.ρ id,o',none⟩:Addr).add (n.toNat*k)=⟨g.ρ id,o'+n.toNat*k,none⟩ from Addr.add_lit _ _ _,ho'',vD,←vK,wW]]
    exact .optr _ _ _ _
  ·exact h.elim
 ·exact h.elim
theorem g6u {t:TypeId} (h:c3f P t=true):P.underlying t=some .string:=by
 unfold c3f at h;split at h<;>simp_all
theorem g1a {x i:Opd} (hok:(a0a.idx x i).ok P o.op=true) (hR:Rel P c g σ a w) {d:Nat} (h:p9 P (.idx x i) d [x.ev σ.env,i.ev σ.env] ob K L) (hF:Fin o c g σ a w K L K'):o.wp P a w K' Q':=by
 have:∃t y z,o.op=.index t y z∧x.ok y=true∧i.ok z=true∧P.underlying t=some .string:=by
  cases ho:o.op<;>rw [ho] at hok<;>try (simp [a0a.ok] at hok;done)
  simp [a0a.ok] at hok
  exact ⟨_,_,_,rfl,hok.1.1,hok.1.2,g6u hok.2⟩
 obtain ⟨t,y,z,ho,hx,hi,ht⟩:=this
 have vx:=Opd.vr hR hx
 have vi:=Opd.vr hR hi
 simp only [p9,e2e] at h
 split at h
 ·rename_i s k n hc hn
  rw [hc] at vx;rw [hn] at vi
  obtain ⟨b,eb,hb,_⟩:=vx.str_inv
  obtain ⟨ei,_⟩:=vi.int_inv
  obtain ⟨⟨h0,h1⟩,hk⟩:=h
  have hlt:n.toNat<b.size:=by
   have:b.size=s.length:=by rw [←hb,xD];rfl
   omega
  have hgb:b[n.toNat]?=some (s.getD n.toNat 0):=by
   have:b[n.toNat]?=b.data[n.toNat]?:=by
    rw [ByteArray.getElem?_lt' b _ hlt]
    have hlt':n.toNat<b.data.size:=hlt
    rw [zI hlt']
    rfl
   rw [this,←zW,hb]
   have:n.toNat<s.length:=by omega
   simp [this]
  refine a0b hR hF (v:=.int .u8 (s.getD n.toNat 0).toNat) ?_ (.inl hk) (.rd (.int _ _ ?_))
  ·simp only [execOp,ho,Instr.index,ei,eb,asIntOf,w8,w7,xN,run_underlying ht,h0,if_true,hgb]
  ·rw [a1q]
   have:=(s.getD n.toNat 0).toNat_lt
   simp only [rng]
   omega
 ·exact h.elim
theorem g0w {st:Bool} {x:Opd} (hok:(a0a.len st x).ok P o.op=true) (hR:Rel P c g σ a w) {d:Nat} (h:p9 P (.len st x) d [x.ev σ.env] ob K L) (hF:Fin o c g σ a w K L K'):o.wp P a w K' Q':=by
 have:∃cl y t,o.op=.call cl∧cl.callee=.builtin .len∧cl.args=#[y]∧cl.argTypes=#[t]∧x.ok y=true∧((P.underlying t=some .string∧st=true)∨((∃e,P.underlying t=some (.slice e))∧st=false)):=by
  cases ho:o.op<;>rw [ho] at hok<;>try (simp [a0a.ok] at hok;done)
  rename_i cl
  obtain ⟨callee,args,ts⟩:=cl
  cases callee<;>try (simp [a0a.ok] at hok;done)
  rename_i b
  cases b<;>try (simp [a0a.ok] at hok;done)
  simp only [a0a.ok] at hok
  split at hok
  ·rename_i y t he1 he2
   simp only [wE] at hok
   refine ⟨_,y,t,rfl,rfl,wF.1 (by simpa using he1),wF.1 (by simpa using he2),hok.1,?_⟩
   have h2:=hok.2
   split at h2
   ·rename_i hu;exact .inl ⟨hu,h2⟩
   ·rename_i e hu;exact .inr ⟨⟨e,hu⟩,by simpa using h2⟩
   ·cases h2
  ·cases hok
 obtain ⟨cl,y,t,ho,hcl,hargs,hts,hx,ht⟩:=this
 have vx:=Opd.vr hR hx
 simp only [p9,sLen] at h
 have fin:∀(n:Nat),(Builtin.len_ #[t] o.type #[a.eval y]).run P w=.ok (goInt n) w→n≤maxLen→K (evl (.int .i64 n))→o.wp P a w K' Q':=by
  intro n hrun hm hk
  refine a0b hR hF (v:=goInt n) ?_ (.inl hk) (.rd (.int _ _ ?_))
  ·simp [execOp,ho,resolve,hcl,hargs,hts,invoke,builtin,hrun]
  ·rw [a1q];simp only [rng,maxLen] at *;omega
 rcases ht with ⟨hu,rfl⟩|⟨⟨e,hu⟩,rfl⟩
 ·cases hc:x.ev σ.env<;>simp only [hc,vO] at h<;>try exact h.elim
  rename_i s
  rw [hc] at vx
  obtain ⟨b,eb,hb,hm⟩:=vx.str_inv
  have hs:b.size=s.length:=by rw [←hb,xD];rfl
  exact fin s.length (by simp [eb,Builtin.len_,run_underlying hu,hs]) (by omega) h
 ·have hrun:∀ad n cap,a.eval y=.slice ad n cap→(Builtin.len_ #[t] o.type #[a.eval y]).run P w=.ok (goInt n) w:=by
   intro ad n cap e1;simp [e1,Builtin.len_,run_underlying hu]
  cases hc:x.ev σ.env<;>simp only [hc,vM] at h<;>try exact h.elim
  ·rw [hc] at vx
   exact fin 0 (hrun _ _ _ vx.nils_inv) (by simp) h
  ·rename_i xs
   rw [hc] at vx
   have hrd:=vx.sl_inv
   generalize hvy:a.eval y=vy at hrd
   cases hrd with
   | nilsl=>exact fin 0 (hrun _ _ _ hvy) (by simp) h
   | slz a0 cap0=>exact fin 0 (hrun _ _ _ hvy) (by simp) h
   | sl b o' len cap k' cur e' fz _ hS hg hl hm hcc hb hkk hr =>
    rw [hl] at h
    exact fin len (hrun _ _ _ hvy) hm h
  ·rename_i id k lo n
   rw [hc] at vx
   rcases vx.osl_inv with ⟨_,hv,hz⟩|⟨hn',o',cc,hv,ho',hcap,hlc,hm⟩
   ·subst hz;exact fin 0 (hrun _ _ _ hv) (by simp) h
   ·exact fin n (hrun _ _ _ hv) (by omega) h
end
section
variable {P:Program} {o:Oper} {c:Ctx} {g:Gh} {σ:St} {a:Act} {w:World} {ob:Nat→Option a0i} {K L:Eff→Prop} {K':Act→World→Prop} {Q':Exit→Act→World→Prop}
def Clean (c:Ctx) (σ:St) (n:Nat):Prop:=find n c.H0=none∧a7u n σ.env=true∧a1h n σ.heap=true
theorem Opd.no {n:Nat} (h:a7u n σ.env=true) (x:Opd) (y:Operand) (hok:x.ok y=true):(x.ev σ.env).has n=false:=by
 cases x with
 | t m =>
  simp only [Opd.ev,a2f]
  cases hf:find m σ.env with
  | none=>rfl
  | some z=>exact a3l h hf
 | c v =>
  cases y<;>simp [Opd.ok] at hok
  rename_i u
  have key:∀{v:V} {u:Value},cOK v u=true→v.has n=false:=by
   intro v u h
   have hr:Rd (fun _=>False) default u v:=b6s h
   clear h hok
   induction hr with
   | agg vs cs hl hr ih =>
    have:∀l:List V,(∀x∈l,x.has n=false)→V.hasL n l=false:=by
     intro l
     induction l with
     | nil=>intro _;rfl
     | cons x l ih=>intro h;simp [V.hasL,h x (by simp),ih (fun y hy=>h y (by simp [hy]))]
    simp only [V.has]
    refine this cs fun x hx=>?_
    obtain ⟨i,hi,rfl⟩:=z7.1 hx
    exact ih i _ (zJ hi)
   | _=>simp [V.has,V.hasL]
  exact key hok
 | f m=>rfl
theorem a13.of_clean {g':Gh} {x:V} {n:Nat} {o':a0i} {dr:List Nat} (hc:Clean c σ n):a13 c.H0 g g' σ ⟨x,dr,[(n,o')]⟩ :=
 a13.one hc.1 hc.2.1 fun m o'' hm _=>a3k hc.2.2 hm
theorem a2e.push {S:Nat→Prop} {w w':World} {B:Obj} (hlt:∀b,S b→b<w.heap.size) (h:w'.heap=w.heap.push B):a2e S w w':=fun b hb=>by
 rw [h,Array.getElem?_push,if_neg (by have:=hlt b hb;omega)]
theorem VR.newer {g:Gh} {w w':World} {n b base cap:Nat} {v:Value} {x:V} (h:VR g w v x) (hk:a2e g.S w w') (hx:x.has n=false):VR (g.set n b base cap) w' v x :=
 h.mono (g':=g.set n b base cap) hk (fun _ hb=>hb) fun id hid=>Gh.set_agree fun e=>by rw [e,hx] at hid;cases hid
theorem a4l (n:Nat):a3s (0,0) n:=.inl rfl
theorem b9i (hR:Rel P c g σ a w) (hF:Fin o c g σ a w K L K') {d:Nat} (hcl:Clean c σ d) {vs:Array Value} {e:TypeId} {cs:List V} (hl:vs.size=cs.length)
  (hv:∀(i:Nat) (x:V),cs[i]?=some x→VR g w (vs.getD i undef) x∧x.has d=false)
  (hrun:(execOp a.eval o).run P w=.ok (.value (.pointer (some ⟨w.heap.size,0,none⟩))) (w.alloc (.cells vs e))) {t:Option TypeId} (ht:c0j t e (0,0)) (hk:K ⟨.ptr d 0,[],[(d,.cells cs t)]⟩):o.wp P a w K' Q':=by
 unfold Oper.wp
 rw [hrun]
 have hkeep:a2e g.S w (w.alloc (.cells vs e)):=a2e.push hR.hp.lt rfl
 refine hF _ (.inl hk) (g.set d w.heap.size 0 0) _ _ (a09.alloc _ d 0 0 _ (.cells vs e) hR.hp.lt rfl rfl rfl rfl ?_) (a13.of_clean hcl) ?_
 ·refine ⟨by simp [Gh.set],vs,e,(0,0),?_,hl,⟨a4l _,ht⟩,fun i x hx=>((hv i x hx).1).newer hkeep (hv i x hx).2⟩
  have e1:(g.set d w.heap.size 0 0).ρ d=w.heap.size:=by simp [Gh.set]
  rw [e1];exact heap_alloc_new w _
 ·have:(g.set d w.heap.size 0 0).ρ d=w.heap.size:=by simp [Gh.set]
  have h:=VR.ptr (g:=g.set d w.heap.size 0 0) (w:=w.alloc (.cells vs e)) d 0
  rw [this] at h;exact h
theorem c3x:∀{cs:List V} {vs:List Value},c9w cs vs=true→vs.length=cs.length∧∀(i:Nat) (x:V),cs[i]?=some x→∃u,vs[i]?=some u∧cOK x u=true
 | [],[],_=>⟨rfl,fun i x h=>by simp at h⟩
 | [],_::_,h=>by simp [c9w] at h
 | _::_,[],h=>by simp [c9w] at h
 | x::cs,v::vs,h=>by
  simp only [c9w,wE] at h
  obtain ⟨h1,h2⟩:=c3x h.2
  refine ⟨by simp [h1],fun i y hy=>?_⟩
  cases i with
  | zero=>simp at hy;subst hy;exact ⟨v,rfl,h.1⟩
  | succ i=>simp at hy ⊢;exact h2 i y hy
theorem f1v {n:Nat} {v:V} {u:Value} (h:cOK v u=true):v.has n=false :=
 Opd.no (σ:=⟨[],[]⟩) rfl (.c v) (.const u) h
theorem b71 {t:TypeId} {zs:List V} (h:a8x P t zs=true):∃z:Value,(∀w':World,(zeroValue t).run P w'=.ok z w')∧z.cells.size=zs.length ∧
  ∀(S:Nat→Prop) (w':World) (i:Nat) (x:V),zs[i]?=some x→Rd S w' (z.cells.getD i undef) x∧∀n,x.has n=false:=by
 unfold a8x at h
 split at h<;>try (cases h;done)
 rename_i i hi
 split at h<;>try (cases h;done)
 rename_i z hz
 obtain ⟨h1,h2⟩:=c3x h
 refine ⟨z,fun w'=>by simp [zeroValue,typeInfo,hi,hz],by simpa using h1,fun S w' j x hx=>?_⟩
 obtain ⟨u,hu,hok⟩:=h2 j x hx
 have e:z.cells.getD j undef=u:=by
  simp only [zW] at hu
  simp [zC,hu]
 rw [e]
 exact ⟨b6s hok,fun n=>f1v hok⟩
theorem d6m {zs:List V} {t:Option TypeId} (hok:(a0a.alloc zs t).ok P o.op=true) (hR:Rel P c g σ a w) {d:Nat} (hcl:Clean c σ d) {vs:List V} (h:p9 P (.alloc zs t) d vs ob K L) (hF:Fin o c g σ a w K L K'):o.wp P a w K' Q':=by
 have:∃e,o.op=.alloc e∧a8x P e zs=true∧c0j t e (0,0):=by
  cases ho:o.op<;>rw [ho] at hok<;>try (simp [a0a.ok] at hok;done)
  simp only [a0a.ok,wE] at hok
  refine ⟨_,rfl,hok.1,?_⟩
  cases t with
  | none=>exact trivial
  | some u =>
   have h2:=hok.2
   simp only [wE,xV] at h2
   simp only [c0j,h2.2,vM]
   exact zR h2.1
 obtain ⟨e,ho,hz,hty⟩:=this
 obtain ⟨z,hrun,hl,hv⟩:=b71 hz
 have hk:K ⟨.ptr d 0,[],[(d,.cells zs t)]⟩:=by unfold p9 at h;exact h
 refine b9i hR hF hcl (vs:=z.cells) (e:=e) hl (fun i x hx=>⟨.rd (hv g.S w i x hx).1,(hv g.S w i x hx).2 d⟩) ?_ hty hk
 simp [execOp,ho,Instr.alloc,hrun w,newVar,newRow]
theorem g1j {x:Opd} (hok:(a0a.box x).ok P o.op=true) (hR:Rel P c g σ a w) {d:Nat} (hcl:Clean c σ d) (h:p9 P (.box x) d [x.ev σ.env] ob K L) (hF:Fin o c g σ a w K L K'):o.wp P a w K' Q':=by
 have:∃e y,o.op=.box e y∧x.ok y=true:=by
  cases ho:o.op<;>rw [ho] at hok<;>try (simp [a0a.ok] at hok;done)
  exact ⟨_,_,rfl,hok⟩
 obtain ⟨e,y,ho,hx⟩:=this
 have vx:=Opd.vr hR hx
 have hno:=Opd.no hcl.2.1 x y hx
 have hrun:(execOp a.eval o).run P w=.ok (.value (.pointer (some ⟨w.heap.size,0,none⟩))) (w.alloc (.cells (a.eval y).cells e)):=by
  simp [execOp,ho,Instr.box,newVar,newRow]
 have hk:(x.ev σ.env).nany=true∧K ⟨.ptr d 0,[],[(d,.cells (x.ev σ.env).cells none)]⟩:=by
  simp only [p9] at h
  unfold d75 at h
  split at h
  ·exact h.elim
  ·exact h.elim
  ·rename_i cs hc;rw [hc];exact ⟨rfl,h⟩
  ·rename_i hn1 hn3 hn2
   refine ⟨by cases hc:x.ev σ.env<;>first|rfl|exact absurd hc hn1|exact absurd hc (hn3 _ _),?_⟩
   have:(x.ev σ.env).cells=[x.ev σ.env]:=by
    cases hc:x.ev σ.env<;>first|rfl|(rw [hc] at hn2;exact absurd rfl (hn2 _))
   rw [this];exact h
 obtain ⟨hl,hv⟩:=vx.cells_of hk.1
 refine b9i hR hF hcl hl (fun i q hq=>⟨hv i q hq,?_⟩) hrun (t:=none) trivial hk.2
 have hm:=z6 hq
 cases hc:x.ev σ.env with
 | agg cs =>
  rw [hc] at hm hno
  exact V.hasL_mem hm hno
 | _ =>
  rw [hc] at hm hno
  simp [V.cells] at hm
  rw [hm];exact hno
theorem foldl_set:∀(l:List Value) (s off:Nat) (cs:Array Value),off+s+l.length≤cs.size →
  ((l.zipIdx s).foldl (fun cs p=>cs.setIfInBounds (off+p.2) p.1) cs).size=cs.size ∧
  ∀i,((l.zipIdx s).foldl (fun cs p=>cs.setIfInBounds (off+p.2) p.1) cs)[i]?=if off+s≤i∧i<off+s+l.length then l[i - (off+s)]? else cs[i]?
 | [],s,off,cs,_=>⟨rfl,fun i=>by simp;intro h1 h2;omega⟩
 | v::l,s,off,cs,h=>by
  obtain ⟨h1,h2⟩:=foldl_set l (s+1) off (cs.setIfInBounds (off+s) v) (by simp at h ⊢;omega)
  simp only [List.zipIdx_cons,wO]
  refine ⟨by rw [h1];simp,fun i=>?_⟩
  rw [h2]
  simp only [wA] at h ⊢
  by_cases e:i=off+s
  ·subst e
   rw [if_neg (by omega),if_pos (by omega)]
   have:off+s<cs.size:=by omega
   simp [this]
  ·by_cases hin:off+(s+1)≤i∧i<off+(s+1)+l.length
   ·rw [if_pos hin,if_pos (by omega)]
    obtain ⟨j,hj⟩:∃j,i - (off+s)=j+1:=⟨i - (off+s) - 1,by omega⟩
    rw [hj,zN]
    congr 1;omega
   ·rw [if_neg hin,if_neg (by omega)]
    have hne:¬off+s=i:=fun h=>e h.symm
    rw [zA hne]
theorem b1u {w0:World} (place:Nat→Option (Nat×Nat)):∀(parts:List (Nat×Value)) (ps:List (Nat×Nat×V)) (cells:Array Value) (cs cs':List V),
  parts.length=ps.length→(∀(i:Nat) (pt:Nat×Value) (q:Nat×Nat×V),parts[i]?=some pt→ps[i]?=some q→place pt.1=some (q.1,q.2.1)∧VR g w0 pt.2 q.2.2) →
  cells.size=cs.length→(∀(i:Nat) (x:V),cs[i]?=some x→VR g w0 (cells.getD i undef) x)→b0h cs ps=some cs' →
  ∃cells',Instr.fill place cells parts=some cells'∧cells'.size=cs'.length∧∀(i:Nat) (x:V),cs'[i]?=some x→VR g w0 (cells'.getD i undef) x:=by
 intro parts
 induction parts with
 | nil =>
  intro ps cells cs cs' hl _ hs hv hf
  cases ps with
  | cons _ _=>simp at hl
  | nil=>simp [b0h] at hf;subst hf;exact ⟨cells,rfl,hs,hv⟩
 | cons pt parts ih =>
  intro ps cells cs cs' hl hp hs hv hf
  cases ps with
  | nil=>simp at hl
  | cons q ps =>
   obtain ⟨off,n,x⟩:=q
   obtain ⟨i,v⟩:=pt
   obtain ⟨h1,h2⟩:=hp 0 (i,v) (off,n,x) rfl rfl
   simp only at h1 h2
   simp only [b0h] at hf
   by_cases hb:(x.nany&&Nat.beq x.cells.length n&&Nat.ble (off+n) cs.length)=true
   case neg=>simp [hb] at hf
   simp only [hb,vO] at hf
   simp only [wE] at hb
   obtain ⟨hvl,hvc⟩:=h2.cells_of hb.1.1
   have hn:x.cells.length=n:=by simpa using hb.1.2
   have hle:off+n≤cs.length:=by simpa using hb.2
   have hnn:¬(v.cells.size≠n):=by omega
   have hgg:¬(off+v.cells.size > cells.size):=by omega
   have key:=foldl_set v.cells.toList 0 off cells (by simp;omega)
   simp only [vD,xD] at key
   obtain ⟨k1,k2⟩:=key
   have hfold:v.cells.zipIdx.foldl (fun cs (p:Value×Nat)=>cs.setIfInBounds (off+p.2) p.1) cells=(v.cells.toList.zipIdx 0).foldl (fun cs p=>cs.setIfInBounds (off+p.2) p.1) cells:=by
    rw [←Array.foldl_toList];simp [Array.toList_zipIdx]
   have hcells:∀(j:Nat) (y:V),(setCells cs off x.cells)[j]?=some y→VR g w0 (((v.cells.toList.zipIdx 0).foldl (fun cs p=>cs.setIfInBounds (off+p.2) p.1) cells).getD j undef) y:=by
    intro j y hy
    have hg:∀u,((v.cells.toList.zipIdx 0).foldl (fun cs p=>cs.setIfInBounds (off+p.2) p.1) cells)[j]?=some u→((v.cells.toList.zipIdx 0).foldl (fun cs p=>cs.setIfInBounds (off+p.2) p.1) cells).getD j undef=u:=by
     intro u hu;simp [zC,hu]
    simp only [setCells,List.getElem?_append,xH,xZ,Nat.min_eq_left (show off≤cs.length by omega)] at hy
    have hk:=k2 j
    by_cases hj1:j<off
    ·rw [if_pos (by omega),if_pos (by omega),xI,if_pos hj1] at hy
     rw [if_neg (by omega)] at hk
     have:=hv j y hy
     have hlt:j<cells.size:=by omega
     rw [zI hlt] at hk
     rw [hg _ hk]
     simpa [zC,hlt] using this
    ·by_cases hj2:j<off+x.cells.length
     ·rw [if_pos (by omega),if_neg (by omega)] at hy
      rw [if_pos (by omega)] at hk
      have h4:=hvc (j - off) y hy
      have hlt:j - off<v.cells.size:=by omega
      rw [zW,zI hlt] at hk
      rw [hg _ hk]
      simpa [zC,hlt] using h4
     ·rw [if_neg (by omega),xJ] at hy
      rw [if_neg (by omega)] at hk
      have e1:off+x.cells.length+(j - (off+x.cells.length))=j:=by omega
      rw [e1] at hy
      have:=hv j y hy
      have hlt:j<cells.size:=by
       have:=(zG.1 hy).1;omega
      rw [zI hlt] at hk
      rw [hg _ hk]
      simpa [zC,hlt] using this
   obtain ⟨cells',r1,r2,r3⟩:=ih ps ((v.cells.toList.zipIdx 0).foldl (fun cs p=>cs.setIfInBounds (off+p.2) p.1) cells) (setCells cs off x.cells) cs' (by simpa using hl)
    (fun j pt q hj hq=>hp (j+1) pt q (by simpa using hj) (by simpa using hq)) (by rw [k1,hs];simp [setCells];omega) hcells hf
   refine ⟨cells',?_,r2,r3⟩
   simp only [Instr.fill,h1]
   rw [show (fun (cs:Array Value) (x:Value×Nat)=>match x with|(c,j)=>cs.setIfInBounds (off+j) c)=(fun cs (p:Value×Nat)=>cs.setIfInBounds (off+p.2) p.1) from rfl,hfold]
   simp only [ne_eq,gt_iff_lt,wR,xM] at *
   rw [if_neg (by omega)]
   exact r1
end
section
variable {P:Program} {o:Oper} {c:Ctx} {g:Gh} {σ:St} {a:Act} {w:World} {ob:Nat→Option a0i} {K L:Eff→Prop} {K':Act→World→Prop} {Q':Exit→Act→World→Prop}
theorem b1e {t:TypeId} {n:Nat} (h:a5j P t n=true):∀w':World,(Go.sizeOf t).run P w'=.ok n w':=by
 unfold a5j at h
 split at h<;>try (cases h;done)
 rename_i i hi
 intro w'
 have:i.size=n:=by simpa using h
 simp [Go.sizeOf,typeInfo,hi,this]
theorem run_places:∀(fs:List Field),(fs.all fun f=>(P.info? f.type).isSome)=true→∃ps:List (Nat×Nat),(fs.mapM (fun f=>do pure (f.offset,←Go.sizeOf f.type)):Sem (List (Nat×Nat))).run P w=.ok ps w ∧
  ps.length=fs.length∧∀(i:Nat) (f:Field),fs[i]?=some f→∃inf,P.info? f.type=some inf∧ps[i]?=some (f.offset,inf.size)
 | [],_=>⟨[],rfl,rfl,fun i f h=>by simp at h⟩
 | f::fs,h=>by
  simp only [List.all_cons,wE] at h
  obtain ⟨ps,h1,h2,h3⟩:=run_places fs h.2
  obtain ⟨inf,hinf⟩:=Option.isSome_iff_exists.1 h.1
  refine ⟨(f.offset,inf.size)::ps,?_,by simp [h2],fun i q hq=>?_⟩
  ·simp only [List.mapM_cons,w8,Go.sizeOf,typeInfo,run_program,xN,hinf,w7]
   simp only [Go.sizeOf,typeInfo] at h1
   rw [h1]
   rfl
  ·cases i with
   | zero=>simp at hq;subst hq;exact ⟨inf,hinf,rfl⟩
   | succ i=>simp at hq ⊢;exact h3 i q hq
theorem b3z {fs:Array Field}:∀{ps:List (Nat×Nat×Opd)} {qs:List (Nat×Operand)},a97 P fs ps qs=true→ps.length=qs.length ∧
  ∀(i:Nat) (p:Nat×Nat×Opd) (q:Nat×Operand),ps[i]?=some p→qs[i]?=some q→(∃f inf,fs[q.1]?=some f∧f.offset=p.1∧P.info? f.type=some inf∧inf.size=p.2.1)∧p.2.2.ok q.2=true
 | [],[],_=>⟨rfl,fun i p q h=>by simp at h⟩
 | [],_::_,h=>by simp [a97] at h
 | _::_,[],h=>by simp [a97] at h
 | (off,n,x)::ps,(j,y)::qs,h=>by
  simp only [a97,wE] at h
  obtain ⟨⟨h1,h2⟩,h3⟩:=h
  obtain ⟨l,r⟩:=b3z h3
  refine ⟨by simp [l],fun i p q hp hq=>?_⟩
  cases i with
  | zero =>
   simp at hp hq;subst hp;subst hq
   refine ⟨?_,h2⟩
   split at h1<;>try (cases h1;done)
   rename_i f hf
   simp only [wE] at h1
   obtain ⟨h4,h5⟩:=h1
   unfold a5j at h5
   split at h5<;>try (cases h5;done)
   rename_i inf hinf
   exact ⟨f,inf,hf,by simpa using h4,hinf,by simpa using h5⟩
  | succ i=>simp only [zN] at hp hq;exact r i p q hp hq
theorem d6l {zs:List V} {ps:List (Nat×Nat×Opd)} (hok:(a0a.build zs ps).ok P o.op=true) (hR:Rel P c g σ a w) {d:Nat} (h:p9 P (.build zs ps) d (ps.map fun p=>p.2.2.ev σ.env) ob K L) (hF:Fin o c g σ a w K L K'):o.wp P a w K' Q':=by
 have:∃t parts fs,o.op=.build t parts∧a8x P t zs=true∧P.underlying t=some (.struct fs)∧(fs.toList.all fun f=>(P.info? f.type).isSome)=true∧a97 P fs ps parts.toList=true:=by
  cases ho:o.op<;>rw [ho] at hok<;>try (simp [a0a.ok] at hok;done)
  rename_i t parts
  simp only [a0a.ok,wE] at hok
  obtain ⟨h1,h2⟩:=hok
  split at h2<;>try (cases h2;done)
  rename_i fs hu
  simp only [wE] at h2
  exact ⟨t,parts,fs,rfl,h1,hu,by simpa using h2.1,h2.2⟩
 obtain ⟨t,parts,fs,ho,hz,hu,hall,hp⟩:=this
 obtain ⟨z,hzr,hzl,hzv⟩:=b71 hz
 obtain ⟨pls,hpr,hpl,hpv⟩:=run_places (P:=P) (w:=w) fs.toList hall
 obtain ⟨hlen,hparts⟩:=b3z hp
 simp only [p9] at h
 split at h
 ·rename_i cs hfill
  have e1:(ps.zip (ps.map fun p=>p.2.2.ev σ.env)).map (fun p=>(p.1.1,p.1.2.1,p.2))=ps.map fun p=>(p.1,p.2.1,p.2.2.ev σ.env):=by
   clear hfill hp hlen hparts hok h
   induction ps with
   | nil=>rfl
   | cons p ps ih=>simp [ih]
  rw [e1] at hfill
  obtain ⟨cells',r1,r2,r3⟩:=b1u (g:=g) (w0:=w) (pls.toArray[·]?) (parts.toList.map fun q=>(q.1,a.eval q.2)) (ps.map fun p=>(p.1,p.2.1,p.2.2.ev σ.env)) z.cells zs cs (by simp [hlen])
   (fun i pt q hi hq=>by
    rw [xQ] at hi hq
    cases hpi:parts.toList[i]? with
    | none=>rw [hpi] at hi;cases hi
    | some p0 =>
     cases hqi:ps[i]? with
     | none=>rw [hqi] at hq;cases hq
     | some q0 =>
      rw [hpi] at hi;rw [hqi] at hq
      simp at hi hq;subst hi;subst hq
      obtain ⟨⟨f,inf,k1,k2,k3,k4⟩,k5⟩:=hparts i q0 p0 hqi hpi
      obtain ⟨inf',m1,m2⟩:=hpv p0.1 f (by simpa using k1)
      rw [k3] at m1;cases m1
      refine ⟨?_,Opd.vr hR k5⟩
      simp [m2,k2,k4])
   hzl (fun i x hx=>.rd (hzv g.S w i x hx).1) hfill
  have hbuild:(Instr.build t (parts.map fun (i,x)=>(i,a.eval x))).run P w=.ok (.agg cells') w:=by
   simp only [Instr.build,w8,hzr w,xN,run_underlying hu]
   have hm:(fs.mapM (fun f=>do pure (f.offset,←Go.sizeOf f.type)):Sem (Array (Nat×Nat))).run P w=.ok pls.toArray w:=by
    rw [Array.mapM_eq_mapM_toList,Sem.run_map,hpr];rfl
   simp only [hm,xN]
   have e2:(parts.map fun (i,x)=>(i,a.eval x)).toList=parts.toList.map fun q=>(q.1,a.eval q.2):=by simp
   rw [e2,r1]
   rfl
  refine a0b hR hF (v:=.agg cells') ?_ (.inl h) (.agg _ _ r2 r3)
  simp only [execOp,ho]
  exact a88 hbuild
 ·exact h.elim
theorem flat_get {k:Nat}:∀{xs:List V},(∀x∈xs,x.cells.length=k)→∀(i j:Nat) (x c:V),xs[i]?=some x→x.cells[j]?=some c→(xs.flatMap V.cells)[i*k+j]?=some c
 | [],_,i,j,x,c,hi,_=>by simp at hi
 | y::xs,h,i,j,x,c,hi,hj=>by
  have hy:=h y xG
  rw [xR]
  cases i with
  | zero =>
   simp at hi;subst hi
   have:j<y.cells.length:=(zG.1 hj).1
   rw [Nat.zero_mul,vA,zH this];exact hj
  | succ i =>
   simp only [zN] at hi
   have ih:=flat_get (fun x hx=>h x (xA _ hx)) i j x c hi hj
   rw [zD (by rw [hy,vK,vI];omega),hy,show (i+1)*k+j - k=i*k+j by rw [vK,vI];omega]
   exact ih
theorem c3o {k:Nat}:∀{xs:List V},(∀x∈xs,x.cells.length=k)→(xs.flatMap V.cells).length=xs.length*k
 | [],_=>by simp
 | y::xs,h=>by
  rw [xR,xH,h y xG,c3o (fun x hx=>h x (xA _ hx)),wA,vK,vI];omega
def a3e (k:Nat):Nat→List V→List (Nat×Nat×V)
 | _,[]=>[]
 | i,x::xs=>(i*k,k,x)::a3e k (i+1) xs
theorem fill_flat {k:Nat}:∀(xs:List V) (i:Nat) (pre:List V),pre.length=i*k→(∀x∈xs,x.cells.length=k∧x.nany=true) →
  b0h (pre++List.replicate (xs.length*k) .any) (a3e k i xs)=some (pre++xs.flatMap V.cells)
 | [],i,pre,_,_=>by simp [a3e,b0h]
 | x::xs,i,pre,hl,h=>by
  obtain ⟨h1,h2⟩:=h x xG
  have ih:=fill_flat xs (i+1) (pre++x.cells) (by rw [xH,hl,h1,vK,vI]) (fun y hy=>h y (xA _ hy))
  have hle:i*k+k≤(pre++List.replicate ((x::xs).length*k) V.any).length:=by
   simp [hl,vK]
  have hb:(x.nany&&Nat.beq x.cells.length k&&Nat.ble (i*k+k) (pre++List.replicate ((x::xs).length*k) V.any).length)=true:=by
   simp only [wE]
   exact ⟨⟨h2,by simpa using h1⟩,by simpa using hle⟩
  simp only [a3e,b0h,hb,vO]
  have e:setCells (pre++List.replicate ((x::xs).length*k) V.any) (i*k) x.cells=(pre++x.cells)++List.replicate (xs.length*k) V.any:=by
   unfold setCells
   rw [←hl,List.take_left' rfl,List.drop_append,hl,h1]
   have e2:List.drop (i*k+k) pre=[]:=List.drop_eq_nil_of_le (by omega)
   have e3:i*k+k - i*k=k:=by omega
   rw [e2,e3,List.drop_replicate,wA,vK,vI,Nat.add_sub_cancel]
   simp
  rw [e,ih,xR,List.append_assoc]
theorem b6f {k:Nat} {x:V} (h:a4j k x=true):x.cells.length=k∧(∀c∈x.cells,c.one=true)∧x.sealed=true:=by
 simp only [a4j,wE,wD] at h
 exact ⟨by simpa using h.1.1,h.1.2,h.2⟩
theorem a9u {x c:V} (h:x.sealed=true) (hc:c∈x.cells):c.sc=true:=by
 cases x with
 | agg cs=>simp only [V.sealed,wD] at h;exact h c hc
 | _=>simp [V.cells] at hc;subst hc;simpa [V.sealed] using h
theorem c36 {x:V} (h:∀c∈x.cells,c.one=true):x.nany=true:=by
 cases x with
 | any=>exact absurd (h .any (by simp [V.cells])) (by simp [V.one])
 | at_ a b=>exact absurd (h (.at_ a b) (by simp [V.cells])) (by simp [V.one])
 | _=>rfl
theorem c92 (hR:Rel P c g σ a w) (hF:Fin o c g σ a w K L K') {d:Nat} (hcl:Clean c σ d) {cur:Array Value} {e:TypeId} {fz:Nat×Nat} {k cap:Nat} {xs:List V} {w':World}
  (hkp:0<k) (hsz:cur.size=cap*k) {tg:Option TypeId} (htg:c0j tg e fz) (hfz:a3s fz cur.size) (hle:xs.length≤cap) (hm:cap≤maxLen) (hel:∀x∈xs,x.cells.length=k∧(∀c∈x.cells,c.one=true)∧x.sealed=true)
  (hv:∀(i j:Nat) (x y:V),xs[i]?=some x→x.cells[j]?=some y→Rd g.S w (cur.getD (i*k+j) undef) y)
  (h1:w'.os=w.os) (h2:w'.tape=w.tape) (h3:w'.output=w.output) (h4:w'.heap=w.heap.push (.cells cur e fz)) {n:Nat} (hn:n=xs.length)
  (hrun:(execOp a.eval o).run P w=.ok (.value (.slice (some ⟨w.heap.size,0,none⟩) n cap)) w')
  (hk:K ⟨.osl d k 0 n,[],[(d,.arr k xs tg)]⟩∨L ⟨.osl d k 0 n,[],[(d,.arr k xs tg)]⟩):o.wp P a w K' Q':=by
 unfold Oper.wp
 rw [hrun]
 have hkeep:a2e g.S w w':=a2e.push hR.hp.lt h4
 have e1:(g.set d w.heap.size 0 cap).ρ d=w.heap.size:=by simp [Gh.set]
 have e2:(g.set d w.heap.size 0 cap).base d=0:=by simp [Gh.set]
 have e3:(g.set d w.heap.size 0 cap).cap d=cap:=by simp [Gh.set]
 have e4:¬(g.set d w.heap.size 0 cap).nil d:=by simp [Gh.set]
 refine hF _ hk (g.set d w.heap.size 0 cap) _ _ (a09.alloc _ d 0 cap _ (.cells cur e fz) hR.hp.lt h1 h2 h3 h4 ?_) (a13.of_clean hcl) ?_
 ·refine .inr ⟨e4,?_⟩
  rw [e1,e2,e3]
  refine ⟨hkp,⟨cur,e,fz,by rw [h4];simp,by rw [hsz,vA],⟨hfz,htg⟩,fun i j x y hx hy=>?_⟩,hle,by omega,hel⟩
  rw [vA]
  exact (hv i j x y hx hy).mono hkeep fun _ h=>h
 ·have:=VR.osl (g:=g.set d w.heap.size 0 cap) (w:=w') d k 0 n 0 cap e4 (.inr (by rw [e2];simp)) (by rw [e3];omega) (by omega) hm
  rw [e1] at this
  exact this
theorem b4w:∀{n:Nat} {xs:List Opd} {qs:List (Nat×Operand)},b5t n xs qs=true→xs.length=qs.length∧∀(i:Nat) (x:Opd) (q:Nat×Operand),xs[i]?=some x→qs[i]?=some q→q.1=n+i∧x.ok q.2=true
 | _,[],[],_=>⟨rfl,fun i x q h=>by simp at h⟩
 | _,[],_::_,h=>by simp [b5t] at h
 | _,_::_,[],h=>by simp [b5t] at h
 | n,x::xs,(j,y)::qs,h=>by
  simp only [b5t,wE] at h
  obtain ⟨⟨h1,h2⟩,h3⟩:=h
  obtain ⟨l,r⟩:=b4w h3
  refine ⟨by simp [l],fun i p q hp hq=>?_⟩
  cases i with
  | zero=>simp at hp hq;subst hp;subst hq;exact ⟨by simpa using h1,h2⟩
  | succ i =>
   simp only [zN] at hp hq
   obtain ⟨r1,r2⟩:=r i p q hp hq
   exact ⟨by omega,r2⟩
theorem b2k {k:Nat}:∀{xs:List V} {n:Nat} (i:Nat) (q:Nat×Nat×V),(a3e k n xs)[i]?=some q→∃x,xs[i]?=some x∧q=((n+i)*k,k,x)
 | [],n,i,q,h=>by simp [a3e] at h
 | x::xs,n,i,q,h=>by
  cases i with
  | zero=>simp [a3e] at h;exact ⟨x,rfl,by simp [←h]⟩
  | succ i =>
   simp only [a3e,zN] at h
   obtain ⟨y,h1,h2⟩:=b2k i q h
   exact ⟨y,by simpa using h1,by rw [h2,show n+1+i=n+(i+1) by omega]⟩
theorem b2j {k:Nat}:∀{xs:List V} {n:Nat},(a3e k n xs).length=xs.length
 | [],_=>rfl
 | x::xs,n=>by simp [a3e,b2j]
theorem c2o {k:Nat} {xs:List Opd} {uv:Bool} (hok:(a0a.bslice k xs uv).ok P o.op=true) (hR:Rel P c g σ a w) {d:Nat} (hcl:Clean c σ d) (h:p9 P (.bslice k xs uv) d (xs.map (·.ev σ.env)) ob K L) (hF:Fin o c g σ a w K L K'):o.wp P a w K' Q':=by
 have:∃t parts e inf,o.op=.buildSlice t xs.length parts∧P.underlying t=some (.slice e)∧P.info? e=some inf∧inf.size=k∧inf.zero.isSome=true∧0<k∧xs.length*k≤16777216∧b5t 0 xs parts.toList=true:=by
  cases ho:o.op<;>rw [ho] at hok<;>try (simp [a0a.ok] at hok;done)
  rename_i t n parts
  simp only [a0a.ok,wE,xM] at hok
  obtain ⟨⟨⟨⟨h1,h2⟩,h3⟩,h4⟩,h5⟩:=hok
  split at h1<;>try (cases h1;done)
  rename_i e hu
  simp only [wE] at h1
  obtain ⟨h6,h7⟩:=h1
  split at h7<;>try (cases h7;done)
  rename_i inf hinf
  have hn:n=xs.length:=by simpa using h3
  subst hn
  refine ⟨t,parts,e,inf,rfl,hu,hinf,?_,h7,by simpa [Nat.blt_eq] using h2,h4,h5⟩
  simp only [a5j,hinf] at h6
  simpa using h6
 obtain ⟨t,parts,e,inf,ho,hu,hinf,hsz,hzs,hkp,hbig,hels⟩:=this
 obtain ⟨z,hz⟩:=Option.isSome_iff_exists.1 hzs
 obtain ⟨hlen,hparts⟩:=b4w hels
 have hk:(xs.map (·.ev σ.env)).all (a4j k)=true∧K ⟨.osl d k 0 (xs.map (·.ev σ.env)).length,[],[(d,.arr k (xs.map (·.ev σ.env)) (uvT uv))]⟩:=by
  unfold p9 at h
  by_cases hb:(xs.map (·.ev σ.env)).all (a4j k)=true
  ·simp only [hb,vO] at h;exact ⟨hb,h⟩
  ·simp [hb] at h
 obtain ⟨hall,hk⟩:=hk
 generalize hvs:xs.map (·.ev σ.env)=vs at *
 have hvl:vs.length=xs.length:=by rw [←hvs];simp
 have hel:∀x∈vs,x.cells.length=k∧(∀c∈x.cells,c.one=true)∧x.sealed=true:=fun x hx=>b6f (wD.1 hall x hx)
 obtain ⟨cells0,hc0,hc1⟩:∃cells0:Array Value,cells0.size=vs.length*k ∧
   (Instr.buildSlice t xs.length (parts.map fun (i,x)=>(i,a.eval x))).run P w =
    (match Instr.fill (fun i=>some (i*k,k)) cells0 (parts.toList.map fun q=>(q.1,a.eval q.2)) with
     | some cells=>.ok (.slice (some ⟨w.heap.size,0,none⟩) xs.length xs.length) (w.alloc (.cells cells e))
     | none=>.halt (.stuck "buildSlice: a part of the wrong size") w):=by
  have e2:(parts.map fun (i,x)=>(i,a.eval x)).toList=parts.toList.map fun q=>(q.1,a.eval q.2):=by simp
  have hnb:¬(xs.length*k > 2^24):=by omega
  have main:∀zc:Array Value,(zc=if xs.length*k=0 then #[] else z.cells)→(Instr.buildSlice t xs.length (parts.map fun (i,x)=>(i,a.eval x))).run P w =
    (match Instr.fill (fun i=>some (i*k,k)) ((Array.range (xs.length*k)).map (zc[· % zc.size]!)) (parts.toList.map fun q=>(q.1,a.eval q.2)) with
     | some cells=>.ok (.slice (some ⟨w.heap.size,0,none⟩) xs.length xs.length) (w.alloc (.cells cells e))
     | none=>.halt (.stuck "buildSlice: a part of the wrong size") w):=by
   intro zc hzc
   simp only [Instr.buildSlice,w8,run_underlying hu,xN,Go.sizeOf,typeInfo,run_program,hinf,w7,hsz,hnb,if_false]
   by_cases hzero:xs.length*k=0
   ·rw [if_pos hzero] at hzc ⊢
    subst hzc
    simp only [w8,w7,xN,e2]
    cases hf:Instr.fill (fun i=>some (i*k,k)) ((Array.range (xs.length*k)).map ((#[]:Array Value)[· % (#[]:Array Value).size]!)) (parts.toList.map fun q=>(q.1,a.eval q.2)) with
    | none=>simp
    | some cells=>simp [newRow]
   ·rw [if_neg hzero] at hzc ⊢
    subst hzc
    have hzr:(zeroValue e).run P w=.ok z w:=by simp [zeroValue,typeInfo,hinf,hz]
    simp only [w8,hzr,w7,xN,e2]
    cases hf:Instr.fill (fun i=>some (i*k,k)) ((Array.range (xs.length*k)).map (z.cells[· % z.cells.size]!)) (parts.toList.map fun q=>(q.1,a.eval q.2)) with
    | none=>simp
    | some cells=>simp [newRow]
  exact ⟨_,by simp [hvl],main _ rfl⟩
 obtain ⟨cells',r1,r2,r3⟩:=b1u (g:=g) (w0:=w) (fun i=>some (i*k,k)) (parts.toList.map fun q=>(q.1,a.eval q.2)) (a3e k 0 vs) cells0 (List.replicate (vs.length*k) .any) (vs.flatMap V.cells)
  (by rw [b2j];simp;rw [hvl,hlen];simp) (fun i pt q hi hq=>by
   obtain ⟨x,hx,rfl⟩:=b2k i q hq
   rw [xQ] at hi
   cases hpi:parts.toList[i]? with
   | none=>rw [hpi] at hi;cases hi
   | some p0 =>
    rw [hpi] at hi;simp at hi;subst hi
    rw [←hvs,xQ] at hx
    cases hxi:xs[i]? with
    | none=>rw [hxi] at hx;cases hx
    | some x0 =>
     rw [hxi] at hx;simp at hx;subst hx
     obtain ⟨m1,m2⟩:=hparts i x0 p0 hxi hpi
     exact ⟨by simp [m1],Opd.vr hR m2⟩)
  (by simp [hc0]) (fun i x hx=>by
   rw [List.getElem?_replicate] at hx
   split at hx
   ·cases hx;exact .any _
   ·cases hx) (by have:=fill_flat (k:=k) vs 0 [] (by simp) (fun x hx=>⟨(hel x hx).1,c36 (hel x hx).2.1⟩);simpa using this)
 rw [r1] at hc1
 refine c92 hR hF hcl (cur:=cells') (e:=e) (fz:=(0,0)) (k:=k) (cap:=vs.length) (xs:=vs) (w':=w.alloc (.cells cells' e)) hkp ?_ (tg:=uvT uv) (by cases uv<;>first|trivial|rfl) (a4l _) (vJ _) ?_ hel (fun i j x y hx hy=>?_) rfl rfl rfl rfl rfl ?_ (.inl hk)
 ·rw [r2,c3o (fun x hx=>(hel x hx).1)]
 ·have:vs.length≤16777216:=by
   rw [hvl]
   exact vB (Nat.le_mul_of_pos_right _ hkp) hbig
  rw [maxLen];omega
 ·have hf:=flat_get (k:=k) (fun x hx=>(hel x hx).1) i j x y hx hy
  refine (r3 _ y hf).sc_rd (a9u (hel x (z6 hx)).2.2 (z6 hy))
 ·simp only [execOp,ho]
  rw [hvl]
  exact a88 hc1
theorem a9r {t:TypeId} {k bytes:Nat} (h:a4y P t k bytes=true):∃e i z,P.underlying t=some (.slice e)∧P.info? e=some i∧i.zero=some z∧i.size=k∧i.bytes=bytes∧0<k∧0<bytes∧z.cells.size=k:=by
 unfold a4y at h
 split at h<;>try (cases h;done)
 rename_i e hu
 split at h<;>try (cases h;done)
 rename_i i hi
 simp only [wE] at h
 obtain ⟨⟨⟨⟨h1,h2⟩,h3⟩,h5⟩,h4⟩:=h
 split at h4<;>try (cases h4;done)
 rename_i z hz
 exact ⟨e,i,z,hu,hi,hz,by simpa using h1,by simpa using h2,by simpa [Nat.blt_eq] using h3,by simpa [Nat.blt_eq] using h5,by simpa using h4⟩
theorem e4t {k bytes:Nat} {z:V} {x y:Opd} (hok:(a0a.mksl k bytes z x y).ok P o.op=true) (hR:Rel P c g σ a w) {d:Nat} (hcl:Clean c σ d) (h:p9 P (.mksl k bytes z x y) d [x.ev σ.env,y.ev σ.env] ob K L) (hF:Fin o c g σ a w K L K'):o.wp P a w K' Q':=by
 have:∃t x' y',o.op=.makeSlice t x' y'∧x.ok x'=true∧y.ok y'=true∧a4y P t k bytes=true∧b3q P t z=true∧a4j k z=true:=by
  cases ho:o.op<;>rw [ho] at hok<;>try (simp [a0a.ok] at hok;done)
  simp [a0a.ok] at hok
  exact ⟨_,_,_,rfl,hok.1.1.1.1,hok.1.1.1.2,hok.1.1.2,hok.1.2,hok.2⟩
 obtain ⟨t,x',y',ho,hx,hy,hs,hz,hoz⟩:=this
 obtain ⟨e,i,z0,hu,hi,hz0,hsz,hby,hkp,_,hzs⟩:=a9r hs
 have vx:=Opd.vr hR hx
 have vy:=Opd.vr hR hy
 simp only [p9,c0r] at h
 split at h
 ·rename_i p q hp hq
  rw [hp] at vx;rw [hq] at vy
  obtain ⟨ex,rx⟩:=vx.int_inv
  obtain ⟨ey,ry⟩:=vy.int_inv
  obtain ⟨⟨h0,h1,h2⟩,hk⟩:=h
  rw [a1q] at rx ry
  simp only [rng] at rx ry
  have hrun:=run_make (P:=P) w t e i z0 hu hi hz0 .i64 .i64 p q h0 h1 (by rw [hby,Int.mul_comm];omega) ry.2
  obtain ⟨hel1,hel2,hel3⟩:=b6f hoz
  have hzz:a8x P e z.cells=true:=by
   unfold b3q at hz;rw [hu] at hz;exact hz
  obtain ⟨z1,hz1,hz2,hz3⟩:=b71 hzz
  have:z1=z0:=by
   have:=hz1 w
   simp [zeroValue,typeInfo,hi,hz0] at this
   exact this.symm
  subst this
  refine c92 hR hF hcl (cur:=madeCells z1.cells (q.toNat*k)) (e:=e) (fz:=(0,0)) (k:=k) (cap:=q.toNat) (xs:=List.replicate p.toNat z) (w':=w.alloc (.cells (madeCells z1.cells (q.toNat*k)) e)) hkp (by simp [size_madeCells]) (tg:=none) trivial (a4l _)
   (by simp;omega) (by rw [maxLen];omega) (fun x hx=>by rw [List.eq_of_mem_replicate hx];exact ⟨hel1,hel2,hel3⟩) (fun i' j u v hu' hv'=>?_) rfl rfl rfl rfl (n:=p.toNat) (by simp) ?_ (.inl hk)
  ·rw [List.getElem?_replicate] at hu'
   split at hu'<;>cases hu'
   rename_i hlt
   have hj:j<k:=by rw [←hel1];exact (zG.1 hv').1
   have hb:i'*k+j<q.toNat*k:=by
    have:(i'+1)*k≤q.toNat*k:=zZ _ (by omega)
    rw [vK,vI] at this;omega
   have e1:(madeCells z1.cells (q.toNat*k)).getD (i'*k+j) undef=z1.cells.getD j undef:=by
    have hm:(i'*k+j) % z1.cells.size=j:=by rw [hzs,Nat.mul_comm,Nat.mul_add_mod,Nat.mod_eq_of_lt hj]
    have hlt2:j<z1.cells.size:=by omega
    simp only [madeCells,zC]
    rw [Array.getElem?_map,Array.getElem?_range,if_pos hb]
    simp only [wI,xW,hm]
    rw [getElem!_pos z1.cells j hlt2]
    simp [hlt2]
   rw [e1]
   exact (hz3 g.S w j v hv').1
  ·simp only [execOp,ho,ex,ey]
   have hrun':=hrun
   rw [hsz] at hrun'
   exact a88 hrun'
 ·exact h.elim
theorem d48 (s:List UInt8):∀x∈s.map a18,x.cells.length=1∧(∀c∈x.cells,c.one=true)∧x.sealed=true:=by
 intro x hx
 obtain ⟨b,_,rfl⟩:=vE.1 hx
 refine ⟨rfl,fun c hc=>?_,rfl⟩
 simp [a18,V.cells] at hc;subst hc;rfl
theorem e09 {S:Nat→Prop} {w':World} (b:UInt8):Rd S w' (.int .u8 b.toNat) (a18 b):=by
 refine .int _ _ ?_
 rw [a1q]
 have:=b.toNat_lt
 simp only [rng];omega
end
section
variable {P:Program} {o:Oper} {c:Ctx} {g:Gh} {σ:St} {a:Act} {w:World} {ob:Nat→Option a0i} {K L:Eff→Prop} {K':Act→World→Prop} {Q':Exit→Act→World→Prop}
theorem b33 {w:World} {b i:Nat} {cur:Array Value} {e:TypeId} {fz:Nat×Nat} {v:Value} (h:w.heap[b]?=some (.cells cur e fz)):(w.setCell ⟨b,i,none⟩ v).heap[b]?=some (.cells (cur.setIfInBounds i v) e fz):=by
 simp [World.setCell,zX,h]
theorem a5l (b s:Nat) (e:TypeId) (fz:Nat×Nat):∀(vs:List Value) (i:Nat) (cur:Array Value) (w:World),w.heap[b]?=some (.cells cur e fz)→a3s fz cur.size→s+i+vs.length≤cur.size→(∀v∈vs,v.oneCell'=true) →
  ∃w' cur',(storeCells ⟨b,s,none⟩ vs i).run P w=.ok () w'∧w'.os=w.os∧w'.tape=w.tape∧w'.output=w.output∧w'.heap.size=w.heap.size∧(∀b',b'≠b→w'.heap[b']?=w.heap[b']?) ∧
   w'.heap[b]?=some (.cells cur' e fz)∧cur'.size=cur.size∧∀j,cur'[j]?=if s+i≤j∧j<s+i+vs.length then vs[j - (s+i)]? else cur[j]?
 | [],i,cur,w,h,_,_,_=>⟨w,cur,rfl,rfl,rfl,rfl,rfl,fun _ _=>rfl,h,rfl,fun j=>by rw [if_neg (by simp only [wM];omega)]⟩
 | v :: vs,i,cur,w,h,hf,hl,h1=>by
  have hlt:s+i<cur.size:=by simp at hl;omega
  have ha:(⟨b,s,none⟩:Addr).add i=⟨b,s+i,none⟩:=Addr.add_lit _ _ _
  have hc:w.cell? ⟨b,s+i,none⟩=some cur[s+i]:=by
   rw [cell_of_row w b _ cur e fz h];simp [hlt]
  have hz:w.frozen? ⟨b,s+i,none⟩=false:=by
   have:=hf.at hlt
   simpa [World.frozen?,h] using this
  have hst:(store ((⟨b,s,none⟩:Addr).add i) v).run P w=.ok () (w.setCell ⟨b,s+i,none⟩ v):=by
   rw [run_store P w _ v .plain (h1 v xG),ha,hc]
   simp [hz]
  obtain ⟨w',cur',r1,r2,r3,r4,r5,r6,r7,r8,r9⟩:=a5l b s e fz vs (i+1) (cur.setIfInBounds (s+i) v) (w.setCell ⟨b,s+i,none⟩ v) (b33 h) (by simpa using hf) (by simp at hl ⊢;omega)
   (fun u hu=>h1 u (xA _ hu))
  refine ⟨w',cur',?_,r2,r3,r4,by rw [r5];simp,fun b' hb'=>(r6 b' hb').trans (Below.heap_setCell _ _ _ _ hb'),r7,by rw [r8];simp,fun j=>?_⟩
  ·simp only [storeCells,w8,hst,xN,r1]
  ·rw [r9 j]
   simp only [wA]
   by_cases e1:j=s+i
   ·subst e1
    rw [if_neg (by omega),if_pos (by omega)]
    simp [hlt]
   ·by_cases hin:s+(i+1)≤j∧j<s+(i+1)+vs.length
    ·rw [if_pos hin,if_pos (by omega)]
     obtain ⟨q,hq⟩:∃q,j - (s+i)=q+1:=⟨j - (s+i) - 1,by omega⟩
     rw [hq,zN]
     congr 1;omega
    ·rw [if_neg hin,if_neg (by omega)]
     have hne:¬s+i=j:=fun h=>e1 h.symm
     rw [zA hne]
theorem a2e.upd {w':World} {H:Heap} {n:Nat} {o':a0i} (hH:a3p P g w H) (hf:find n H=some o') (hn:¬g.nil n) (h:∀b,b≠g.ρ n→w'.heap[b]?=w.heap[b]?):a2e g.S w w' :=
 fun b hb=>h b fun e=>hH.sep n o' hf hn (e▸hb)
theorem b27 {cs ys:List V} {off:Nat} (h:off+ys.length≤cs.length) (j:Nat):(setCells cs off ys)[j]?=if off≤j∧j<off+ys.length then ys[j - off]? else cs[j]?:=by
 simp only [setCells,List.getElem?_append,xH,xZ,Nat.min_eq_left (show off≤cs.length by omega)]
 by_cases h1:j<off
 ·rw [if_pos (by omega),if_pos (by omega),if_neg (by omega),xI,if_pos h1]
 ·by_cases h2:j<off+ys.length
  ·rw [if_pos (by omega),if_neg (by omega),if_pos (by omega)]
  ·rw [if_neg (by omega),if_neg (by omega),xJ]
   congr 1;omega
theorem b25 {cs ys:List V} {off:Nat} (h:off+ys.length≤cs.length):(setCells cs off ys).length=cs.length:=by
 simp [setCells];omega
theorem getD_of_getElem? {cur:Array Value} {j:Nat} {u:Value} (h:cur[j]?=some u):cur.getD j undef=u:=by
 simp [zC,h]
theorem b5h.set {S:Nat→Prop} {w w':World} {b base cap k:Nat} {xs:List V} {t:Option TypeId} (h:b5h S w b base cap k xs t) (hk:a2e S w w') {i off:Nat} {x x':V} {ys:List V} (hi:xs[i]?=some x) (hx':x'.cells=setCells x.cells off ys) (hoff:off+ys.length≤k)
  (hok:x'.cells.length=k∧(∀c∈x'.cells,c.one=true)∧x'.sealed=true) {cur cur':Array Value} {e:TypeId} {fz:Nat×Nat} {vs:List Value} (hb:w.heap[b]?=some (.cells cur e fz)) (hb':w'.heap[b]?=some (.cells cur' e fz)) (hs:cur'.size=cur.size)
  (hvl:vs.length=ys.length) (hv:∀(j:Nat) (y:V),ys[j]?=some y→Rd S w (vs.getD j undef) y)
  (hc:∀j,cur'[j]?=if (base+i)*k+off≤j∧j<(base+i)*k+off+vs.length then vs[j - ((base+i)*k+off)]? else cur[j]?):b5h S w' b base cap k (xs.set i x') t:=by
 obtain ⟨hp,⟨cur0,e0,fz0,h1,h2,h3,h4⟩,h5,h6,h7⟩:=h
 rw [hb] at h1;cases h1
 refine ⟨hp,⟨cur',_,_,hb',by rw [hs,h2],⟨by rw [hs];exact h3.1,h3.2⟩,fun i' j u y hu hy=>?_⟩,by simpa using h5,h6,fun u hu=>?_⟩
 ·have hlt:i<xs.length:=(zG.1 hi).1
  have hxk:=h7 x (z6 hi)
  rw [xP] at hu
  by_cases e1:i=i'
  ·subst e1
   rw [if_pos rfl,if_pos hlt] at hu
   cases hu
   rw [hx',b27 (by rw [hxk.1];exact hoff)] at hy
   have hcj:=hc ((base+i)*k+j)
   by_cases h8:off≤j∧j<off+ys.length
   ·rw [if_pos h8] at hy
    rw [if_pos (by omega)] at hcj
    have hv':=hv (j - off) y hy
    have e2:(base+i)*k+j - ((base+i)*k+off)=j - off:=by omega
    rw [e2] at hcj
    have hlt2:j - off<vs.length:=by omega
    rw [zJ hlt2] at hcj
    rw [getD_of_getElem? hcj]
    have e3:vs.getD (j - off) undef=vs[j - off]:=by simp [hlt2]
    rw [e3] at hv'
    exact hv'.mono hk fun _ h=>h
   ·rw [if_neg h8] at hy
    rw [if_neg (by omega)] at hcj
    have:=h4 i j x y hi hy
    have e2:cur'.getD ((base+i)*k+j) undef=cur.getD ((base+i)*k+j) undef:=by
     simp only [zC,hcj]
    rw [e2];exact this.mono hk fun _ h=>h
  ·rw [if_neg e1] at hu
   have hj:j<k:=by
    rw [←(h7 u (z6 hu)).1];exact (zG.1 hy).1
   have hcj:=hc ((base+i')*k+j)
   rw [if_neg ?_] at hcj
   ·have:=h4 i' j u y hu hy
    have e2:cur'.getD ((base+i')*k+j) undef=cur.getD ((base+i')*k+j) undef:=by
     simp only [zC,hcj]
    rw [e2];exact this.mono hk fun _ h=>h
   ·rintro ⟨q1,q2⟩
    rw [hvl] at q2
    rcases Nat.lt_or_gt_of_ne e1 with h9|h9
    ·have:(base+i+1)*k≤(base+i')*k:=zZ _ (by omega)
     rw [vK (base+i) 1,vI] at this
     omega
    ·have:(base+i'+1)*k≤(base+i)*k:=zZ _ (by omega)
     rw [vK (base+i') 1,vI] at this
     omega
 ·rcases List.mem_or_eq_of_mem_set hu with h8|h8
  ·exact h7 u h8
  ·rw [h8];exact hok
theorem g9t {n:Nat} {x y:Opd} (hok:(a0a.st n x y).ok P o.op=true) (hR:Rel P c g σ a w) (hob:∀id o,ob id=some o→find id σ.heap=some o) {d:Nat} (h:p9 P (.st n x y) d [x.ev σ.env,y.ev σ.env] ob K L) (hF:Fin o c g σ a w K L K'):o.wp P a w K' Q':=by
 have:∃t x' y',o.op=.store t x' y'∧x.ok x'=true∧y.ok y'=true∧a5j P t n=true:=by
  cases ho:o.op<;>rw [ho] at hok<;>try (simp [a0a.ok] at hok;done)
  simp [a0a.ok] at hok
  exact ⟨_,_,_,rfl,hok.1.1,hok.1.2,hok.2⟩
 obtain ⟨t,x',y',ho,hx,hy,ht⟩:=this
 have vx:=Opd.vr hR hx
 have vy:=Opd.vr hR hy
 have hsz:=b1e ht
 simp only [p9,sSt] at h
 generalize hyv:y.ev σ.env=v at h vy
 by_cases hb:(Nat.beq v.cells.length n&&v.cells.all V.one)=true
 case neg=>simp [hb] at h
 simp only [hb,vO] at h
 simp only [wE,wD] at hb
 obtain ⟨hn,hone⟩:=hb
 have hn:v.cells.length=n:=by simpa using hn
 have hna:v.nany=true:=c36 hone
 obtain ⟨hvl,hvc⟩:=vy.cells_of hna
 have hone':∀u∈(a.eval y').cells.toList,u.oneCell'=true:=by
  intro u hu
  obtain ⟨i,hi,rfl⟩:=z7.1 hu
  have hi':i<v.cells.length:=by simp at hi;omega
  have:=(hvc i v.cells[i] (zJ hi')).one_cell (hone _ (wB hi'))
  have e1:(a.eval y').cells.getD i undef=(a.eval y').cells.toList[i]:=by
   simp at hi;simp [zC,hi]
  rw [←e1];exact this
 have fin:∀(ad:Addr) (w':World),a.eval x'=.pointer (some ad)→(storeCells ad (a.eval y').cells.toList).run P w=.ok () w'→∀eff g',(K eff∨L eff)→a09 g σ.heap w eff g' w'→a13 c.H0 g g' σ eff→eff.val=.any→o.wp P a w K' Q':=by
  intro ad w' e1 hrun eff g' hk h1 h2 h3
  unfold Oper.wp
  have:(execOp a.eval o).run P w=.ok .skip w':=by
   have hne:¬((a.eval y').cells.size≠n):=by omega
   simp only [execOp,ho,Instr.storeAt,e1,Instr.sureAddr,storeVar,w8,w7,xN,hsz w,hne,if_false,hrun]
  rw [this]
  exact hF eff hk g' undef w' h1 h2 (by rw [h3];exact .any _)
 split at h
 ·rename_i id off hc
  rw [hc] at vx
  split at h
  ·rename_i cs ty hobj
   have hfd:=hob _ _ hobj
   obtain ⟨hnn,cur,e,fz,h1,h2,⟨h3,hty⟩,h4⟩:=hR.hp.obj _ _ hfd
   by_cases hle:Nat.ble (off+n) cs.length=true
   case neg=>simp [hle] at h
   simp only [hle,vO] at h
   have hle:off+n≤cs.length:=by simpa using hle
   obtain ⟨w',cur',r1,r2,r3,r4,r5,r6,r7,r8,r9⟩:=a5l (P:=P) (g.ρ id) off e fz (a.eval y').cells.toList 0 cur w h1 h3 (by simp;omega) hone'
   have hkeep:a2e g.S w w':=a2e.upd hR.hp hfd hnn r6
   refine fin _ w' vx.ptr_inv r1 (eup id (.cells (setCells cs off v.cells) ty)) g (.inl h) (a09.upd .any id (.cells cs ty) _ hR.hp hfd hnn r2 r3 r4 r5 r6 ?_) (a13.upd _) rfl
   refine ⟨hnn,cur',e,fz,r7,by rw [r8,h2,b25 (by omega)],⟨by rw [r8];exact h3,hty⟩,fun i q hq=>?_⟩
   rw [b27 (by omega)] at hq
   have r9':=r9 i
   simp only [vD,xD] at r9'
   by_cases h8:off≤i∧i<off+v.cells.length
   ·rw [if_pos h8] at hq
    rw [if_pos (by omega)] at r9'
    have hlt:i - off<(a.eval y').cells.size:=by omega
    have hq':=hvc (i - off) q hq
    rw [zW,zI hlt] at r9'
    rw [getD_of_getElem? r9']
    have e3:(a.eval y').cells.getD (i - off) undef=(a.eval y').cells[i - off]:=by simp [zC,hlt]
    rw [e3] at hq'
    exact hq'.mono (g':=g) hkeep (fun _ h=>h) fun id _=>Gh.agree.refl _ _
   ·rw [if_neg h8] at hq
    rw [if_neg (by omega)] at r9'
    have e2:cur'.getD i undef=cur.getD i undef:=by simp only [zC,r9']
    rw [e2]
    exact (h4 i q hq).mono (g':=g) hkeep (fun _ h=>h) fun id _=>Gh.agree.refl _ _
  ·exact h.elim
 ·rename_i id k i off hc
  rw [hc] at vx
  split at h
  ·rename_i k' xs t0 hobj
   have hfd:=hob _ _ hobj
   by_cases hkk:(Nat.beq k k'&&v.sealed)=true
   case neg=>simp [hkk] at h
   simp only [hkk,vO] at h
   simp only [wE] at hkk
   obtain ⟨hkk,hsea⟩:=hkk
   have:=zR hkk;subst this
   have main:∀(x0 x1:V),xs[i]?=some x0→x1.cells=setCells x0.cells off v.cells→off+n≤k→(x1.cells.length=k∧(∀c∈x1.cells,c.one=true)∧x1.sealed=true) →
     (K (eup id (.arr k (xs.set i x1) t0))∨L (eup id (.arr k (xs.set i x1) t0)))→o.wp P a w K' Q':=by
    intro x0 x1 hxi hx1 hoff hok1 hk
    rcases hR.hp.obj _ _ hfd with ⟨_,hnil⟩|⟨hnn,ha⟩
    ·rw [hnil] at hxi;simp at hxi
    ·have ha0:=ha
     obtain ⟨hkp,⟨cur,e,fz,h1,h2,⟨h3,_⟩,h4⟩,h5,h6,h7⟩:=ha
     have hlt:i<xs.length:=(zG.1 hxi).1
     have hle:(g.base id+i)*k+off+(a.eval y').cells.toList.length≤cur.size:=by
      have:(g.base id+i+1)*k≤cur.size:=by rw [h2];exact zZ _ (by omega)
      rw [vK (g.base id+i) 1,vI] at this
      simp;omega
     obtain ⟨w',cur',r1,r2,r3,r4,r5,r6,r7,r8,r9⟩:=a5l (P:=P) (g.ρ id) ((g.base id+i)*k+off) e fz (a.eval y').cells.toList 0 cur w h1 h3 hle hone'
     have hkeep:a2e g.S w w':=a2e.upd hR.hp hfd hnn r6
     refine fin _ w' vx.optr_inv r1 (eup id (.arr k (xs.set i x1) t0)) g hk (a09.upd .any id (.arr k xs t0) _ hR.hp hfd hnn r2 r3 r4 r5 r6 ?_) (a13.upd _) rfl
     refine .inr ⟨hnn,ha0.set hkeep hxi hx1 (by omega) hok1 h1 r7 r8 (vs:=(a.eval y').cells.toList) (by simp [hvl]) (fun j q hq=>?_) (fun j=>by have:=r9 j;simpa using this)⟩
     have hlt2:j<(a.eval y').cells.size:=by rw [hvl];exact (zG.1 hq).1
     have e3:(a.eval y').cells.toList.getD j undef=(a.eval y').cells.getD j undef:=by simp [zC,List.getD,hlt2]
     rw [e3]
     exact (hvc j q hq).sc_rd (a9u hsea (z6 hq))
   by_cases hw:(Nat.beq off 0&&Nat.beq n k)=true
   ·simp only [hw,vO] at h
    simp only [wE] at hw
    have h0:off=0:=by simpa using hw.1
    have hnk:n=k:=by simpa using hw.2
    obtain ⟨hlt,hk⟩:=h
    have hxi:xs[i]?=some xs[i]:=zJ hlt
    subst h0
    have hxk:xs[i].cells.length=k:=by
     rcases hR.hp.obj _ _ hfd with ⟨_,hnil⟩|⟨hnn,ha⟩
     ·subst hnil;simp at hlt
     ·exact (ha.elem _ (wB hlt)).1
    refine main xs[i] v hxi ?_ (by omega) ⟨by omega,hone,hsea⟩ (.inl hk)
    unfold setCells
    rw [List.take_zero,wJ,List.drop_eq_nil_of_le (by omega),wQ]
   ·simp only [hw,vM] at h
    obtain ⟨cs,hxi,hoff,hk⟩:=h
    have hx0:(V.agg cs).cells.length=k∧(∀c∈(V.agg cs).cells,c.one=true)∧(V.agg cs).sealed=true:=by
     rcases hR.hp.obj _ _ hfd with ⟨_,hnil⟩|⟨hnn,ha⟩
     ·rw [hnil] at hxi;simp at hxi
     ·exact ha.elem _ (z6 hxi)
    have hcl:cs.length=k:=hx0.1
    have hmem:∀c'∈setCells cs off v.cells,c'∈cs∨c'∈v.cells:=by
     intro c' hc'
     simp only [setCells,wL] at hc'
     rcases hc' with (h|h)|h
     ·exact .inl (List.mem_of_mem_take h)
     ·exact .inr h
     ·exact .inl (z5 h)
    refine main (.agg cs) (.agg (setCells cs off v.cells)) hxi rfl hoff ⟨by rw [V.cells,b25 (by omega)];exact hcl,fun c' hc'=>?_,?_⟩ (.inr hk)
    ·rcases hmem c' hc' with h|h
     ·exact hx0.2.1 c' h
     ·exact hone c' h
    ·simp only [V.sealed,wD]
     intro c' hc'
     rcases hmem c' hc' with h|h
     ·exact a9u hx0.2.2 h
     ·exact a9u hsea h
  ·exact h.elim
 ·exact h.elim
theorem b8s (hR:Rel P c g σ a w):∀{x:Option Opd} {y:Option Operand},b1i x y=true→(x=none∧y=none)∨∃x' y',x=some x'∧y=some y'∧VR g w (a.eval y') (x'.ev σ.env)
 | none,none,_=>.inl ⟨rfl,rfl⟩
 | some x,some y,h=>.inr ⟨x,y,rfl,rfl,Opd.vr hR h⟩
 | none,some _,h=>by simp [b1i] at h
 | some _,none,h=>by simp [b1i] at h
theorem b6t (hR:Rel P c g σ a w) {lo hi:Option Opd} {lo' hi':Option Operand} (h1:b1i lo lo'=true) (h2:b1i hi hi'=true) {len cap:Nat} {isS:Bool} {p q:Int}
  (hb:bounds lo.isSome hi.isSome len ((a5a lo++a5a hi).map (·.ev σ.env))=some (p,q)) (h0:0≤p) (hpq:p≤q) (hq:q≤len) (hc:len≤cap) :
  (Instr.sliceBounds isS len cap (lo'.map a.eval) (hi'.map a.eval) none).run P w=.ok (p.toNat,q.toNat,cap) w:=by
 have bnd:∀(k:IntKind) (n:Int) (m:Nat) (code:BoundsCode),0≤n→n≤m→(Instr.sliceBound (.int k n) m code).run P w=.ok n.toNat w:=fun k n m code a1 a2=>run_sliceBound w k n m code a1 a2
 rcases b8s hR h1 with ⟨rfl,rfl⟩|⟨x,y,rfl,rfl,vx⟩<;>rcases b8s hR h2 with ⟨rfl,rfl⟩|⟨x2,y2,rfl,rfl,vx2⟩
 ·simp [bounds,a5a] at hb
  obtain ⟨rfl,rfl⟩:=hb
  simp [Instr.sliceBounds]
 ·simp only [a5a,wJ,wZ,vF,Option.isSome_none,Option.isSome_some] at hb
  cases hx:x2.ev σ.env<;>simp [bounds,hx] at hb
  rename_i k n
  obtain ⟨rfl,rfl⟩:=hb
  rw [hx] at vx2
  simp only [Option.map_none,wI,vx2.int_inv.1,Instr.sliceBounds,w8,w7,xN]
  rw [bnd k n cap _ hpq (by omega)]
  rfl
 ·simp only [a5a,wQ,wZ,vF,Option.isSome_none,Option.isSome_some] at hb
  cases hx:x.ev σ.env<;>simp [bounds,hx] at hb
  rename_i k n
  obtain ⟨rfl,rfl⟩:=hb
  rw [hx] at vx
  simp only [Option.map_none,wI,vx.int_inv.1,Instr.sliceBounds,w8,w7,xN]
  rw [bnd k n len _ h0 (by omega)]
  simp
 ·simp only [a5a,wC,wJ,wZ,vF,Option.isSome_some] at hb
  cases hx:x.ev σ.env<;>cases hx2:x2.ev σ.env<;>simp [bounds,hx,hx2] at hb
  rename_i k n k2 n2
  obtain ⟨rfl,rfl⟩:=hb
  rw [hx] at vx;rw [hx2] at vx2
  simp only [wI,vx.int_inv.1,vx2.int_inv.1,Instr.sliceBounds,w8,w7,xN]
  rw [bnd k2 n2 cap _ (by omega) (by omega)]
  simp only [xN]
  rw [bnd k n n2.toNat _ h0 (by omega)]
  rfl
theorem g0n {x:Opd} {lo hi:Option Opd} (hok:(a0a.sls x lo hi).ok P o.op=true) (hR:Rel P c g σ a w) {d:Nat} (h:p9 P (.sls x lo hi) d (x.ev σ.env::(a5a lo++a5a hi).map (·.ev σ.env)) ob K L) (hF:Fin o c g σ a w K L K'):o.wp P a w K' Q':=by
 have:∃t y lo' hi',o.op=.slice t y lo' hi' none∧x.ok y=true∧b1i lo lo'=true∧b1i hi hi'=true∧P.underlying t=some .string:=by
  cases ho:o.op<;>rw [ho] at hok<;>try (simp [a0a.ok] at hok;done)
  rename_i t y lo' hi' mx
  cases mx<;>try (simp [a0a.ok] at hok;done)
  simp [a0a.ok] at hok
  exact ⟨_,_,_,_,rfl,hok.1.1.1,hok.1.1.2,hok.1.2,g6u hok.2⟩
 obtain ⟨t,y,lo',hi',ho,hx,hlo,hhi,ht⟩:=this
 have vx:=Opd.vr hR hx
 simp only [p9,d6o] at h
 split at h
 ·rename_i s hs
  rw [hs] at vx
  obtain ⟨b,eb,hb,hm⟩:=vx.str_inv
  have hsz:b.size=s.length:=by rw [←hb,xD];rfl
  split at h
  ·rename_i p q hpq
   obtain ⟨⟨h0,h1,h2⟩,hk⟩:=h
   have hrun:=b6t (P:=P) hR hlo hhi (isS:=false) (cap:=s.length) hpq h0 h1 h2 (vJ _)
   have hext:(b.extract p.toNat q.toNat).data.toList=(s.take q.toNat).drop p.toNat:=by
    rw [←hb]
    obtain ⟨⟨l⟩⟩:=b
    have:=ByteArray.extract_mk l p.toNat q.toNat
    rw [this]
    simp only
    rw [List.drop_take]
   refine a0b hR hF (v:=.string (b.extract p.toNat q.toNat)) ?_ (.inl hk) (.rd ?_)
   ·simp only [execOp,ho,eb]
    refine a88 ?_
    rw [run_sliceAt_string w t _ _ _ _ ht]
    simp only [Option.map_none,Instr.slice,w8,run_underlying ht,xN,Option.isSome_none,xL,if_false,w7,hsz]
    rw [hrun]
    rfl
   ·rw [←hext]
    refine .str _ ?_
    have:(b.extract p.toNat q.toNat).size=(b.extract p.toNat q.toNat).data.toList.length:=by rw [xD];rfl
    rw [this,hext]
    simp;omega
  ·exact h.elim
 ·exact h.elim
theorem g0o {k:Nat} {x:Opd} {lo hi:Option Opd} (hok:(a0a.slc k x lo hi).ok P o.op=true) (hR:Rel P c g σ a w) {d:Nat} (h:p9 P (.slc k x lo hi) d (x.ev σ.env::(a5a lo++a5a hi).map (·.ev σ.env)) ob K L) (hF:Fin o c g σ a w K L K'):o.wp P a w K' Q':=by
 have:∃t y lo' hi',o.op=.slice t y lo' hi' none∧x.ok y=true∧b1i lo lo'=true∧b1i hi hi'=true∧isSlice P t k=true:=by
  cases ho:o.op<;>rw [ho] at hok<;>try (simp [a0a.ok] at hok;done)
  rename_i t y lo' hi' mx
  cases mx<;>try (simp [a0a.ok] at hok;done)
  simp [a0a.ok] at hok
  exact ⟨_,_,_,_,rfl,hok.1.1.1,hok.1.1.2,hok.1.2,hok.2⟩
 obtain ⟨t,y,lo',hi',ho,hx,hlo,hhi,ht⟩:=this
 obtain ⟨e,hu,hsz⟩:=c2j ht
 have vx:=Opd.vr hR hx
 have hrun:∀(ad:Option Addr) (len cap:Nat) (p q:Int),a.eval y=.slice ad len cap→bounds lo.isSome hi.isSome len ((a5a lo++a5a hi).map (·.ev σ.env))=some (p,q)→0≤p→p≤q→q≤len→len≤cap →
   (execOp a.eval o).run P w=.ok (.value (.slice (if cap=p.toNat then ad else ad.map (·.add (p.toNat*k))) (q.toNat - p.toNat) (cap - p.toNat))) w:=by
  intro ad len cap p q e1 hb h0 h1 h2 h3
  have hr:=b6t (P:=P) hR hlo hhi (isS:=true) hb h0 h1 h2 h3
  simp only [execOp,ho,e1]
  refine a88 ?_
  have e2:P.elem t=e:=by simp [Program.elem,hu]
  rw [run_sliceAt_slice w t _ _ _ _ (by rw [e2];exact hu)]
  simp only [Option.map_none,Instr.slice,w8,run_underlying hu,xN]
  rw [hr]
  simp only [xN,hsz w,w7]
 simp only [p9,d4z] at h
 split at h
 ·rename_i xs hs
  rw [hs] at vx
  split at h
  ·rename_i p q hpq
   obtain ⟨⟨h0,h1,h2⟩,hkk,hk⟩:=h
   have hrd:=vx.sl_inv
   generalize hvy:a.eval y=vy at hrd
   cases hrd with
   | nilsl =>
    simp at h2
    have hp0:p=0:=by omega
    have hq0:q=0:=by omega
    subst hp0;subst hq0
    refine a0b hR hF (hrun none 0 0 0 0 hvy hpq (by omega) (by omega) (by simp) (vJ _)) (.inl hk) (.rd ?_)
    simp
    exact .nilsl
   | slz a0 cap0 =>
    simp at h2
    have hp0:p=0:=by omega
    have hq0:q=0:=by omega
    subst hp0;subst hq0
    refine a0b hR hF (hrun (some a0) 0 cap0 0 0 hvy hpq (by omega) (by omega) (by simp) (vH _)) (.inl hk) (.rd ?_)
    simp only [Int.toNat_zero,List.take_zero,wU,Nat.sub_zero,wI]
    split<;>exact .slz _ _
   | sl b o' len cap k' cur e' fz _ hS hg hl hm hcc hb hkx hr =>
    subst hl
    refine a0b hR hF (hrun _ _ cap p q hvy hpq h0 h1 h2 hcc) (.inl hk) (.rd ?_)
    have hlen:((xs.take q.toNat).drop p.toNat).length=q.toNat - p.toNat:=by simp;omega
    have hget:∀(i:Nat) (u:V),((xs.take q.toNat).drop p.toNat)[i]?=some u→xs[p.toNat+i]?=some u:=by
     intro i u hu'
     rw [xJ,xI] at hu'
     split at hu'
     ·exact hu'
     ·cases hu'
    obtain ⟨o'',ho''⟩:∃o'',(if cap=p.toNat then (some (⟨b,o',none⟩:Addr)) else (some (⟨b,o',none⟩:Addr)).map (·.add (p.toNat*k)))=some ⟨b,o'',none⟩∧(cap=p.toNat∨o''=o'+p.toNat*k):=by
     by_cases hcp:cap=p.toNat
     ·exact ⟨o',by rw [if_pos hcp],.inl hcp⟩
     ·refine ⟨o'+p.toNat*k,?_,.inr rfl⟩
      rw [if_neg hcp]
      simp only [wI]
      congr 1
      exact Addr.add_lit _ _ _
    rw [ho''.1]
    by_cases hz:q.toNat - p.toNat=0
    ·have hnil:(xs.take q.toNat).drop p.toNat=[]:=zB (by rw [hlen];exact hz)
     rw [hnil,hz]
     exact .sl b o'' 0 _ k cur e' fz [] hS hg rfl (by omega) (by omega) (.inl rfl) (fun x hx=>by simp at hx) (fun i j u y hu' _=>by simp at hu')
    ·have hkp:k'=k:=by
      have hlt:p.toNat<xs.length:=by omega
      have m1:=wB hlt
      rw [←(hkx _ m1).1];exact hkk _ m1
     subst hkp
     have hoo:o''=o'+p.toNat*k':=by
      rcases ho''.2 with h|h
      ·omega
      ·exact h
     subst hoo
     refine .sl b _ _ _ k' cur e' fz _ hS hg hlen (by omega) (by omega) (.inr ?_) (fun u hu'=>?_) (fun i j u y hu' hy=>?_)
     ·rcases hb with hb|hb
      ·omega
      ·refine vB ?_ hb
       have:(p.toNat+(q.toNat - p.toNat))*k'≤xs.length*k':=zZ _ (by omega)
       rw [vK] at this
       omega
     ·exact hkx u (List.mem_of_mem_take (z5 hu'))
     ·have:=hr (p.toNat+i) j u y (hget i u hu') hy
      rw [vK] at this
      rw [show o'+p.toNat*k'+i*k'+j=o'+(p.toNat*k'+i*k')+j by omega]
      exact this
  ·exact h.elim
 ·rename_i id k' l n hs
  rw [hs] at vx
  split at h
  ·rename_i p q hpq
   by_cases hkk:Nat.beq k k'=true
   case neg=>simp [hkk] at h
   simp only [hkk,vO] at h
   have:=zR hkk;subst this
   obtain ⟨⟨h0,h1,h2⟩,hk⟩:=h
   rcases vx.osl_inv with ⟨hnil,hv,hz⟩|⟨hnn,o',cc,hv,ho',hcap,hlc,hm⟩
   ·subst hz
    have hp0:p=0:=by omega
    have hq0:q=0:=by omega
    subst hp0;subst hq0
    refine a0b hR hF (hrun none 0 0 0 0 hv hpq (by omega) (by omega) (by simp) (vJ _)) (.inl hk) ?_
    simp
    exact .oslnil _ _ _ hnil
   ·refine a0b hR hF (hrun _ _ cc p q hv hpq h0 h1 h2 hlc) (.inl hk) ?_
    by_cases hcp:cc=p.toNat
    ·rw [if_pos hcp]
     exact .osl _ _ _ _ _ _ hnn (.inl (by omega)) (by omega) (by omega) (by omega)
    ·rw [if_neg hcp]
     simp only [wI]
     rw [show (⟨g.ρ id,o',none⟩:Addr).add (p.toNat*k)=⟨g.ρ id,o'+p.toNat*k,none⟩ from Addr.add_lit _ _ _]
     refine .osl _ _ _ _ _ _ hnn (.inr ?_) (by omega) (by omega) (by omega)
     rcases ho' with h|h
     ·omega
     ·rw [h,←vK,wW]
  ·exact h.elim
 ·exact h.elim
end
section
variable {P:Program} {o:Oper} {c:Ctx} {g:Gh} {σ:St} {a:Act} {w:World} {ob:Nat→Option a0i} {K L:Eff→Prop} {K':Act→World→Prop} {Q':Exit→Act→World→Prop}
theorem d7a {w:World} {b o' n:Nat} {cur:Array Value} {e:TypeId} {fz:Nat×Nat} (hb:w.heap[b]?=some (.cells cur e fz)) (h:o'+n≤cur.size) :
  (loadCells ⟨b,o',none⟩ n).run P w=.ok ((cur.toList.drop o').take n).toArray w:=by
 have hl:((cur.toList.drop o').take n).length=n:=by simp;omega
 have:=run_loadCells_list (P:=P) w ⟨b,o',none⟩ ((cur.toList.drop o').take n) (fun j v hv=>by
  rw [show (⟨b,o',none⟩:Addr).add j=⟨b,o'+j,none⟩ from Addr.add_lit _ _ _,cell_of_row w b _ cur e fz hb]
  rw [xI] at hv
  split at hv
  ·simpa using hv
  ·cases hv)
 rwa [hl] at this
theorem b7d {cur:Array Value} {o' n j:Nat} (hj:j<n) (h:o'+n≤cur.size):((cur.toList.drop o').take n)[j]?=some (cur.getD (o'+j) undef):=by
 rw [xI,if_pos hj,xJ,zW]
 have:o'+j<cur.size:=by omega
 simp [zC,this]
structure Src (P:Program) (S:Nat→Prop) (w:World) (k:Nat) (v:Value) (ys:List V) (news:List Value):Prop where
 len:news.length=ys.length*k
 lenOf:(Builtin.lenOf v).run P w=.ok ys.length w
 first:(Builtin.firstCells k ys.length v).run P w=.ok news.toArray w
 one:∀u∈news,u.oneCell'=true
 rd:∀(i j:Nat) (x y:V),ys[i]?=some x→x.cells[j]?=some y→Rd S w (news.getD (i*k+j) undef) y
 elem:∀x∈ys,x.cells.length=k∧(∀c∈x.cells,c.one=true)∧x.sealed=true
 big:ys.length≤maxLen
theorem b3o {w:World} {S:Nat→Prop} {b o' k len cap:Nat} {cur:Array Value} {e:TypeId} {fz:Nat×Nat} {ys:List V} (hb:w.heap[b]?=some (.cells cur e fz)) (hl:ys.length=len) (h:len=0∨o'+len*k≤cur.size)
  (hrd:∀(i j:Nat) (x y:V),ys[i]?=some x→x.cells[j]?=some y→Rd S w (cur.getD (o'+i*k+j) undef) y) (hel:∀x∈ys,x.cells.length=k∧(∀c∈x.cells,c.one=true)∧x.sealed=true) (hm:len≤maxLen) :
  ∃news,Src P S w k (.slice (some ⟨b,o',none⟩) len cap) ys news:=by
 subst hl
 by_cases h0:ys.length=0
 ·have hnil:ys=[]:=zB h0
  subst hnil
  refine ⟨[],by simp,rfl,?_,by simp,by simp,by simp,by simp⟩
  simp [Builtin.firstCells,loadCells,loadCellsFrom]
 ·have h:o'+ys.length*k≤cur.size:=h.resolve_left h0
  refine ⟨(cur.toList.drop o').take (ys.length*k),by simp;omega,rfl,d7a hb h,?_,?_,hel,hm⟩
  ·intro u hu
   obtain ⟨j,hj,rfl⟩:=z7.1 hu
   have hj':j<ys.length*k:=by simp at hj;omega
   have hkp:0<k:=by rcases Nat.eq_zero_or_pos k with h|h<;>simp_all
   have e1:=b7d (cur:=cur) hj' h
   rw [zJ hj] at e1
   have e3:=wH e1
   have hi:j / k<ys.length:=Nat.div_lt_of_lt_mul (by rw [Nat.mul_comm];exact hj')
   have hx:=hel _ (wB hi)
   have hm':j % k<ys[j / k].cells.length:=by rw [hx.1];exact Nat.mod_lt _ hkp
   have:=hrd (j / k) (j % k) _ _ (zJ hi) (zJ hm')
   have e2:o'+j / k*k+j % k=o'+j:=by
    have:=Nat.div_add_mod j k
    rw [Nat.mul_comm] at this;omega
   rw [e2] at this
   rw [e3]
   exact (VR.rd (g:=⟨S,id,id,id,fun _=>False⟩) this).one_cell (hx.2.1 _ (wB hm'))
  ·intro i j x y hi hj
   have hlt:i<ys.length:=(zG.1 hi).1
   have hjk:j<k:=by rw [←(hel x (z6 hi)).1];exact (zG.1 hj).1
   have hij:i*k+j<ys.length*k:=by
    have:(i+1)*k≤ys.length*k:=zZ _ hlt
    rw [vK,vI] at this;omega
   have e1:=b7d (cur:=cur) hij h
   have e2:((cur.toList.drop o').take (ys.length*k)).getD (i*k+j) undef=cur.getD (o'+(i*k+j)) undef:=by
    rw [zE,e1];rfl
   rw [e2,←wW]
   exact hrd i j x y hi hj
theorem b78 {w:World} {S:Nat→Prop} {k:Nat}:Src P S w k (.slice none 0 0) [] [] :=
 ⟨by simp,rfl,by simp [Builtin.firstCells],by simp,by simp,by simp,by simp⟩
theorem b84 (hR:Rel P c g σ a w) (hob:∀id o,ob id=some o→find id σ.heap=some o) {k:Nat} {v:Value} {y:V} {ys:List V} (hv:VR g w v y) (h:a7i k y ob=some ys) (hvl:e3x y≤ys.length) (hk:∀x∈ys,x.cells.length=k):∃news,Src P g.S w k v ys news:=by
 unfold a7i at h
 split at h
 ·cases h
  rw [hv.nils_inv]
  exact ⟨[],b78⟩
 ·rename_i zs
  cases h
  have hrd:=hv.sl_inv
  cases hrd with
  | nilsl=>exact ⟨[],b78⟩
  | slz a0 cap0=>exact ⟨[],by simp,rfl,by simp [Builtin.firstCells,loadCells,loadCellsFrom],by simp,by simp,by simp,by simp⟩
  | sl b o' len cap k' cur e fz _ hS hg hl hm hc hb hkk hr =>
   by_cases h0:ys.length=0
   ·have hnil:ys=[]:=zB h0
    subst hnil
    exact b3o hg hl (.inl (by simpa using hl.symm)) (fun i j x y hx _=>by simp at hx) (fun x hx=>by simp at hx) hm
   ·obtain ⟨x,hx⟩:∃x,x∈ys:=List.exists_mem_of_length_pos (by omega)
    have:k'=k:=by rw [←(hkk x hx).1];exact hk x hx
    subst this
    exact b3o hg hl hb hr hkk hm
 ·rename_i id k' lo n
  split at h
  ·rename_i k'' xs t0 hobj
   by_cases hb:(Nat.beq k k'&&Nat.beq k k'')=true
   case neg=>simp [hb] at h
   simp only [hb,vO,xO] at h
   simp only [wE] at hb
   have e1:=zR hb.1;subst e1
   have e2:=zR hb.2;subst e2
   rcases hv.osl_inv with ⟨hnil,rfl,rfl⟩|⟨hnn,o',cc,rfl,ho',hcap,hlc,hm⟩
   ·have:ys=[]:=by rw [←h];simp
    subst this
    exact ⟨[],b78⟩
   ·rcases hR.hp.obj _ _ (hob _ _ hobj) with ⟨hnil,_⟩|⟨_,ha⟩
    ·exact absurd hnil hnn
    ·obtain ⟨hkp,⟨cur,e,fz,h1,h2,h3,h4⟩,h5,h6,h7⟩:=ha
     have hget:∀(i:Nat) (x:V),ys[i]?=some x→xs[lo+i]?=some x∧i<n:=by
      intro i x hi
      rw [←h,xI] at hi
      split at hi
      ·rename_i hlt
       rw [xJ] at hi;exact ⟨hi,hlt⟩
      ·cases hi
     have hel:∀x∈ys,x.cells.length=k∧(∀c∈x.cells,c.one=true)∧x.sealed=true:=by
      intro x hx
      obtain ⟨i,hi,rfl⟩:=z7.1 hx
      exact h7 _ (z6 (hget i _ (zJ hi)).1)
     have hlen:ys.length=n:=by
      have h8:ys.length≤n:=by rw [←h];simp;omega
      simp only [e3x] at hvl
      omega
     ·by_cases hn0:n=0
      ·have hnil:ys=[]:=zB (by omega)
       subst hnil
       exact b3o h1 hlen (.inl hn0) (fun i j x y hx _=>by simp at hx) (fun x hx=>by simp at hx) (by omega)
      ·have hoo:o'=(g.base id+lo)*k:=by
        rcases ho' with h|h
        ·omega
        ·exact h
       refine b3o h1 hlen (.inr ?_) (fun i j x y hx hy=>?_) hel (by omega)
       ·rw [hoo,←vK,h2];exact zZ _ (by omega)
       ·have:=h4 (lo+i) j x y (hget i x hx).1 hy
        rw [hoo,←vK,wW];exact this
  ·cases h
 ·rename_i s
  by_cases hb:Nat.beq k 1=true
  case neg=>simp [hb] at h
  simp only [hb,vO,xO] at h
  have e1:=zR hb;subst e1;subst h
  obtain ⟨b,rfl,hb',hm⟩:=hv.str_inv
  have hsz:b.size=s.length:=by rw [←hb',xD];rfl
  refine ⟨s.map fun c=>.int .u8 c.toNat,by simp,?_,?_,fun u hu=>?_,fun i j x y hi hj=>?_,d48 s,by simp;omega⟩
  ·simp [Builtin.lenOf,hsz]
  ·simp only [Builtin.firstCells,w7]
   congr 1
   apply wF.1
   simp only [wN,Array.toList_map]
   have:(b.extract 0 s.length).data.toList=s:=by
    obtain ⟨⟨l⟩⟩:=b
    rw [ByteArray.extract_mk]
    simp only at hb' ⊢
    rw [wU,Nat.sub_zero,hb'];exact xY
   rw [this]
  ·obtain ⟨b',_,rfl⟩:=vE.1 hu;rfl
  ·rw [xQ] at hi
   cases hsi:s[i]? with
   | none=>rw [hsi] at hi;cases hi
   | some b' =>
    rw [hsi] at hi;simp at hi;subst hi
    cases j with
    | succ j=>simp [a18,V.cells] at hj
    | zero =>
     simp [a18,V.cells] at hj;subst hj
     have:(s.map fun c=>Value.int .u8 c.toNat).getD (i*1+0) undef=.int .u8 b'.toNat:=by
      simp [zE,hsi]
     rw [this]
     exact e09 b'
 ·cases h
def f9z (P:Program) (t':TypeId):Prop:=P.underlying t'=some .string∨∃e',P.underlying t'=some (.slice e')
theorem b2b {t t' ty e:TypeId} {i:TypeInfo} (hu:P.underlying t=some (.slice e)) (hu':f9z P t') (hi:P.info? e=some i)
  {ad:Addr} {n cap m:Nat} {y:Value} {news:List Value} (hy:(Builtin.lenOf y).run P w=.ok m w) (hf:(Builtin.firstCells i.size m y).run P w=.ok news.toArray w) (h:n+m≤cap) {w':World}
  (hst:(storeCells (ad.add (n*i.size)) news).run P w=.ok () w') :
  (Builtin.append_ #[t,t'] ty #[.slice (some ad) n cap,y]).run P w=.ok (.slice (some ad) (n+m) cap) w':=by
 rcases hu' with hu'|⟨e',hu'⟩ <;>
  simp [Builtin.append_,run_underlying hu,run_underlying hu',Go.sizeOf,typeInfo,hi,hy,hf,h,hst]
theorem b2c {t t' ty e:TypeId} {i:TypeInfo} (hu:P.underlying t=some (.slice e)) (hu':f9z P t') (hi:P.info? e=some i)
  {y:Value} (hy:(Builtin.lenOf y).run P w=.ok 0 w) (hf:(Builtin.firstCells i.size 0 y).run P w=.ok #[] w) :
  (Builtin.append_ #[t,t'] ty #[.slice none 0 0,y]).run P w=.ok (.slice none 0 0) w:=by
 rcases hu' with hu'|⟨e',hu'⟩ <;>
  simp [Builtin.append_,run_underlying hu,run_underlying hu',Go.sizeOf,typeInfo,hi,hy,hf]
theorem b8l {t t' ty e:TypeId} {i:TypeInfo} {z:Value} (hu:P.underlying t=some (.slice e)) (hu':f9z P t') (hi:P.info? e=some i) (hz:i.zero=some z)
  {base:Option Addr} {n cap m:Nat} {y:Value} {olds news:Array Value} (hy:(Builtin.lenOf y).run P w=.ok m w) (hof:(Builtin.firstCells i.size n (.slice base n cap)).run P w.drew=.ok olds w.drew) (hf:(Builtin.firstCells i.size m y).run P w.drew=.ok news w.drew)
  (h:cap<n+m) (h63:n+m≤9223372036854775807) (hfit:Builtin.nextslicecap (n+m) cap*i.bytes≤281474976710656) :
  (Builtin.append_ #[t,t'] ty #[.slice base n cap,y]).run P w =
   .ok (.slice (some ⟨w.heap.size,0,none⟩) (n+m) (grownCap w (n+m) cap e)) (w.drew.alloc (.cells (olds++news++Builtin.zeroCells z.cells (grownCap w (n+m) cap e - (n+m))) e)):=by
 have h1:¬n+m≤cap:=by omega
 have h2:¬((9223372036854775807:Int)<((n:Int)+(m:Int))):=by omega
 have h3:¬(281474976710656<Builtin.nextslicecap (n+m) cap*i.bytes):=by omega
 rcases hu' with hu'|⟨e',hu'⟩ <;>
  simp [Builtin.append_,run_underlying hu,run_underlying hu',Go.sizeOf,typeInfo,zeroValue,hi,hz,hy,h1,h2,h3,Question.forced,grownCap,hof,hf,newRow]
end
section
variable {P:Program} {o:Oper} {c:Ctx} {g:Gh} {σ:St} {a:Act} {w:World} {ob:Nat→Option a0i} {K L:Eff→Prop} {K':Act→World→Prop} {Q':Exit→Act→World→Prop}
theorem a3p.same {w':World} {H:Heap} (h:a3p P g w H) (e:w'.heap=w.heap):a3p P g w' H:=by
 have hk:a2e g.S w w':=fun b _=>by rw [e]
 refine ⟨fun id o ho=>(h.obj id o ho).mono (g':=g) hk (fun _ h=>h) (Gh.agree.refl _ _) (fun _=>by rw [e]) (fun n _=>Gh.agree.refl _ _) (by rw [e];exact vJ _),h.inj,h.sep,fun b hb=>by rw [e];exact h.lt b hb,fun w2 hw2=>h.tabs w2 fun b hb=>(hw2 b hb).trans (hk b hb)⟩
theorem Rel.drew (h:Rel P c g σ a w):Rel P c g σ a w.drew:=by
 have hk:a2e g.S w w.drew:=fun b _=>rfl
 refine ⟨h.size,h.dfr,fun s x hx=>⟨(h.env s x hx).1,(h.env s x hx).2.mono (g':=g) hk (fun _ h=>h) fun _ _=>Gh.agree.refl _ _⟩,h.hp.same rfl,?_⟩
 exact ⟨h.fr.os,h.fr.tape,h.fr.output,h.fr.size,h.fr.old,h.fr.own,h.fr.sup,h.fr.sub,h.fr.par⟩
theorem d6h (z:Array Value) (n:Nat):(Builtin.zeroCells z n).size=n*z.size:=by simp [Builtin.zeroCells]
theorem Fin.mk' (hF:Fin o c g σ a w K L K') {eff:Eff} (hk:K eff) {g':Gh} {v:Value} {w':World} (hrun:(execOp a.eval o).run P w=.ok (.value v) w') (h1:a09 g σ.heap w eff g' w') (h2:a13 c.H0 g g' σ eff) (h3:VR g' w' v eff.val):o.wp P a w K' Q':=by
 unfold Oper.wp
 rw [hrun]
 exact hF eff (.inl hk) g' v w' h1 h2 h3
def Gh.setNil (g:Gh) (n:Nat):Gh:={ g with nil:=fun i=>i=n∨g.nil i }
theorem Gh.setNil_agree {g:Gh} {n i:Nat} (h:i≠n):g.agree (g.setNil n) i:=by simp [Gh.agree,Gh.setNil,h]
theorem a09.newNil {g:Gh} {H:Heap} {w:World} (x:V) (n k:Nat) (dr:List Nat) (ty:Option TypeId) (hH:a3p P g w H):a09 g H w ⟨x,dr,[(n,.arr k [] ty)]⟩ (g.setNil n) w:=by
 refine ⟨rfl,rfl,rfl,vJ _,fun _ _ _=>rfl,fun _ h=>h,fun b hb=>.inl hb,hH.lt,fun id hid=>Gh.setNil_agree fun e=>hid (.arr k [] ty) (by simp [e]),?_,?_,?_,?_⟩
 ·intro id o h;simp at h;obtain ⟨rfl,rfl⟩:=h;exact .inl ⟨.inl rfl,rfl⟩
 ·intro id o h hn;simp at h;obtain ⟨rfl,rfl⟩:=h;exact absurd (.inl rfl) hn
 ·intro i j o1 o2 hi hj hn;simp at hi;obtain ⟨rfl,rfl⟩:=hi;exact absurd (.inl rfl) hn
 ·intro id o h hn;simp at h;obtain ⟨rfl,rfl⟩:=h;exact absurd (.inl rfl) hn
theorem a09.pass {g:Gh} {H:Heap} {w w':World} (x:V) (n id0 base cap:Nat) (o o0:a0i) (hH:a3p P g w H) (hf:find id0 H=some o0) (hn:¬g.nil id0) (h1:w'.os=w.os) (h2:w'.tape=w.tape) (h3:w'.output=w.output) (h4:w'.heap.size=w.heap.size)
  (h5:∀b,b≠g.ρ id0→w'.heap[b]?=w.heap[b]?) (ho:OR (g.set n (g.ρ id0) base cap) w' n o):a09 g H w ⟨x,[id0],[(n,o)]⟩ (g.set n (g.ρ id0) base cap) w':=by
 refine ⟨h1,h2,h3,by omega,fun b hb hb'=>h5 b fun e=>hb' id0 o0 (by simp [Eff.ids]) hf hn e.symm,fun _ h=>h,fun b hb=>.inl hb,fun b hb=>by have:=hH.lt b hb;omega,fun id hid=>Gh.set_agree fun e=>hid o (by simp [e]),?_,?_,?_,?_⟩
 ·intro id o' h;simp at h;obtain ⟨rfl,rfl⟩:=h;exact ho
 ·intro id o' h _;simp at h;obtain ⟨rfl,rfl⟩:=h;exact .inr ⟨id0,o0,by simp [Eff.ids],hf,hn,by simp [Gh.set]⟩
 ·intro i j o1 o2 hi hj;simp at hi hj;intro _ _ _;rw [hi.1,hj.1]
 ·intro id o' h _ hS
  simp at h;obtain ⟨rfl,rfl⟩:=h
  have:(g.set id (g.ρ id0) base cap).ρ id=g.ρ id0:=by simp [Gh.set]
  rw [this] at hS
  exact hH.sep id0 o0 hf hn hS
theorem b9y {S:Nat→Prop} {w:World} {k n m:Nat} {xs ys:List V} {olds news:List Value} {cur:Array Value} {s:Nat} (hxl:xs.length=n) (hol:olds.length=n*k) (hxe:∀x∈xs,x.cells.length=k)
  (hx:∀(i j:Nat) (x y:V),xs[i]?=some x→x.cells[j]?=some y→Rd S w (olds.getD (i*k+j) undef) y) (hyl:ys.length=m) (hnl:news.length=m*k) (hye:∀x∈ys,x.cells.length=k)
  (hy:∀(i j:Nat) (x y:V),ys[i]?=some x→x.cells[j]?=some y→Rd S w (news.getD (i*k+j) undef) y) (hcur:∀j,j<(n+m)*k→cur[s+j]?=(olds++news)[j]?) :
  ∀(i j:Nat) (x y:V),(xs++ys)[i]?=some x→x.cells[j]?=some y→Rd S w (cur.getD (s+(i*k+j)) undef) y:=by
 intro i j x y hi hj
 have hjk:∀z:V,z.cells.length=k→z.cells[j]?=some y→j<k:=fun z hz h=>by rw [←hz];exact (zG.1 h).1
 rw [List.getElem?_append] at hi
 by_cases hlt:i<xs.length
 ·rw [if_pos hlt] at hi
  have hj':=hjk x (hxe x (z6 hi)) hj
  have hb:(i+1)*k≤n*k:=zZ _ (by omega)
  rw [vK,vI] at hb
  have hb2:n*k≤(n+m)*k:=zZ _ (by omega)
  have:=hcur (i*k+j) (by omega)
  rw [zH (by omega)] at this
  have e1:cur.getD (s+(i*k+j)) undef=olds.getD (i*k+j) undef:=by
   rw [zC,this,zE]
  rw [e1];exact hx i j x y hi hj
 ·rw [if_neg hlt] at hi
  have hj':=hjk x (hye x (z6 hi)) hj
  have hi2:i - xs.length<ys.length:=(zG.1 hi).1
  have hb:(i+1)*k≤(n+m)*k:=zZ _ (by omega)
  rw [vK i,vI] at hb
  have h3:n*k≤i*k:=zZ _ (by omega)
  have:=hcur (i*k+j) (by omega)
  rw [zD (by omega),hol] at this
  have e2:i*k+j - n*k=(i - xs.length)*k+j:=by
   rw [Nat.sub_mul,hxl];omega
  rw [e2] at this
  have e1:cur.getD (s+(i*k+j)) undef=news.getD ((i - xs.length)*k+j) undef:=by
   rw [zC,this,zE]
  rw [e1];exact hy _ j x y hi hj
theorem e3z {a b:Option TypeId} {e:TypeId} {fz:Nat×Nat} (h:c0j a e fz):c0j (tyJ a b) e fz:=by
 cases a<;>cases b<;>simp only [tyJ]<;>try exact trivial
 rename_i a b
 cases Nat.beq a b
 ·exact trivial
 ·exact h
theorem e3y {a b:Option TypeId} {e:TypeId} {fz:Nat×Nat} (h:c0j b e fz):c0j (tyJ a b) e fz:=by
 cases a<;>cases b<;>simp only [tyJ]<;>try exact trivial
 rename_i a b
 cases hb:Nat.beq a b
 ·exact trivial
 ·rw [zR hb];exact h
def Gh.plus (g:Gh) (T:Nat→Prop):Gh:={ g with S:=fun b=>g.S b∨T b }
theorem a09.allocDropT {g:Gh} {H:Heap} {w w':World} (T:Nat→Prop) (x:V) (n base cap:Nat) (o:a0i) (dr:List Nat) (B:Obj) (hlt:∀b,g.S b→b<w.heap.size) (h1:w'.os=w.os) (h2:w'.tape=w.tape) (h3:w'.output=w.output) (h4:w'.heap=w.heap.push B)
  (hT:∀b,T b→b<w.heap.size∧∃id0 o0,id0∈dr∧find id0 H=some o0∧¬g.nil id0∧g.ρ id0=b)
  (ho:OR ((g.plus T).set n w.heap.size base cap) w' n o):a09 g H w ⟨x,dr,[(n,o)]⟩ ((g.plus T).set n w.heap.size base cap) w':=by
 have hsz:w'.heap.size=w.heap.size+1:=by rw [h4];simp
 have hlt':∀b,(g.plus T).S b→b<w.heap.size:=fun b hb=>hb.elim (hlt b) fun h=>(hT b h).1
 refine ⟨h1,h2,h3,by omega,fun b hb _=>?_,fun _ h=>.inl h,fun b hb=>?_,fun b hb=>by have:=hlt' b hb;omega,fun id hid=>Gh.set_agree (g:=g.plus T) fun e=>hid o (by simp [e]),?_,?_,?_,?_⟩
 ·rw [h4,Array.getElem?_push,if_neg (by omega)]
 ·rcases hb with hb|hb
  ·exact .inl hb
  ·obtain ⟨_,id0,o0,k1,k2,k3,k4⟩:=hT b hb
   exact .inr (.inr ⟨id0,o0,by simp [Eff.ids,k1],k2,k3,k4⟩)
 ·intro id o' h;simp at h;obtain ⟨rfl,rfl⟩:=h;exact ho
 ·intro id o' h _;simp at h;obtain ⟨rfl,rfl⟩:=h;exact .inl (by simp [Gh.set])
 ·intro i j o1 o2 hi hj;simp at hi hj;intro _ _ _;rw [hi.1,hj.1]
 ·intro id o' h _ hS
  simp at h;obtain ⟨rfl,rfl⟩:=h
  have:((g.plus T).set id w.heap.size base cap).ρ id=w.heap.size:=by simp [Gh.set]
  rw [this] at hS
  have:=hlt' _ hS
  omega
def d0m (g g':Gh) (w':World) (id k:Nat) (xs:List V) (d:Nat):Prop :=
 xs=[]∨∃(cur:Array Value) (e:TypeId) (fz:Nat×Nat),w'.heap[g.ρ id]?=some (.cells cur e fz)∧(∀i x,xs[i]?=some x→(g.base id+i)*k+x.cells.length≤cur.size) ∧
  (∀(i j:Nat) (x y:V),xs[i]?=some x→x.cells[j]?=some y→Rd g'.S w' (cur.getD ((g.base id+i)*k+j) undef) y)∧(g'.S (g.ρ id)∨(¬g'.nil d∧g'.ρ d=g.ρ id))
def d5r (o:Oper) (c:Ctx) (g:Gh) (σ:St) (a:Act) (w:World) (K:Eff→Prop) (k d:Nat) (x:V) (ob:Nat→Option a0i) (K':Act→World→Prop):Prop :=
 ∀eff,K eff→∀(g':Gh) (v:Value) (w':World),a09 g σ.heap w eff g' w'→a13 c.H0 g g' σ eff→VR g' w' v eff.val→(∀id k' lo n k'' xs t0,x=.osl id k' lo n→ob id=some (.arr k'' xs t0)→d0m g g' w' id k xs d)→K' (a.put o.dst v) w'
theorem d5r.mk {k d:Nat} {x:V} (hF:d5r o c g σ a w K k d x ob K') {eff:Eff} (hk:K eff) {g':Gh} {v:Value} {w':World} (hrun:(execOp a.eval o).run P w=.ok (.value v) w') (h1:a09 g σ.heap w eff g' w') (h2:a13 c.H0 g g' σ eff) (h3:VR g' w' v eff.val)
  (h4:∀id k' lo n k'' xs t0,x=.osl id k' lo n→ob id=some (.arr k'' xs t0)→d0m g g' w' id k xs d):o.wp P a w K' Q':=by
 unfold Oper.wp
 rw [hrun]
 exact hF eff hk g' v w' h1 h2 h3 h4
theorem d0m.of {g g':Gh} {w w':World} {id k d:Nat} {xs:List V} {cur cur':Array Value} {e:TypeId} {fz:Nat×Nat} {bs:Nat} (hb:w'.heap[g.ρ id]?=some (.cells cur' e fz)) (hsz:cur'.size=cur.size) (h2:cur.size=(g.base id+bs)*k) (h5:xs.length≤bs)
  (h4:∀(i j:Nat) (x c:V),xs[i]?=some x→x.cells[j]?=some c→Rd g.S w (cur.getD ((g.base id+i)*k+j) undef) c) (h7:∀x∈xs,x.cells.length=k) (hk:a2e g.S w w') (hs:∀b,g.S b→g'.S b)
  (hsame:∀q,q<(g.base id+xs.length)*k→cur'[q]?=cur[q]?) (hr:g'.S (g.ρ id)∨(¬g'.nil d∧g'.ρ d=g.ρ id)):d0m g g' w' id k xs d:=by
 have hfit:∀i x,xs[i]?=some x→(g.base id+i)*k+x.cells.length≤(g.base id+xs.length)*k:=by
  intro i x hi
  have h8:=h7 x (z6 hi)
  have hlt:=(zG.1 hi).1
  have:(g.base id+i+1)*k≤(g.base id+xs.length)*k:=zZ _ (by omega)
  rw [vK,vI] at this
  omega
 refine .inr ⟨cur',e,fz,hb,fun i x hi=>?_,fun i j x y hi hj=>?_,hr⟩
 ·have:=hfit i x hi
  have:(g.base id+xs.length)*k≤(g.base id+bs)*k:=zZ _ (by omega)
  omega
 ·have h8:=hfit i x hi
  have hjl:=(zG.1 hj).1
  have:=h4 i j x y hi hj
  rw [zC] at this ⊢
  rw [hsame _ (by omega)]
  exact this.mono hk hs
theorem d4y {k bytes:Nat} {x y:Opd} {ty:Option TypeId} (hok:(a0a.app k bytes x y ty).ok P o.op=true) (hR:Rel P c g σ a w) (hob:∀id o,ob id=some o→find id σ.heap=some o) {d:Nat} (hcl:Clean c σ d) (h:p9 P (.app k bytes x y ty) d [x.ev σ.env,y.ev σ.env] ob K L) (hF:d5r o c g σ a w K k d (x.ev σ.env) ob K'):o.wp P a w K' Q':=by
 have:∃cl u v t t',o.op=.call cl∧cl.callee=.builtin .append∧cl.args=#[u,v]∧cl.argTypes=#[t,t']∧x.ok u=true∧y.ok v=true∧a4y P t k bytes=true∧b85 P t'=true∧d4k P t ty=true:=by
  cases ho:o.op<;>rw [ho] at hok<;>try (simp [a0a.ok] at hok;done)
  rename_i cl
  obtain ⟨callee,args,ts⟩:=cl
  cases callee<;>try (simp [a0a.ok] at hok;done)
  rename_i b
  cases b<;>try (simp [a0a.ok] at hok;done)
  unfold a0a.ok at hok
  simp only at hok
  split at hok
  ·rename_i u v t t' he1 he2
   simp only [wE] at hok
   exact ⟨_,u,v,t,t',rfl,rfl,wF.1 (by simpa using he1),wF.1 (by simpa using he2),hok.1.1.1.1,hok.1.1.1.2,hok.1.1.2,hok.1.2,hok.2⟩
  ·cases hok
 obtain ⟨cl,u,v,t,t',ho,hcl',hargs,hts,hx,hy,hse,hat,hty⟩:=this
 obtain ⟨e,i,z,hu,hi,hz,hsz,hby,hkp,hbp,hzs⟩:=a9r hse
 have hty:∀fz,c0j ty e fz:=by
  intro fz
  cases ty with
  | none=>exact trivial
  | some u =>
   simp only [d4k,hu,wE,xV] at hty
   simp only [c0j,hty.2,vM]
   exact zR hty.1
 have hu':f9z P t':=by
  unfold b85 at hat
  split at hat
  ·exact .inr ⟨_,‹_›⟩
  ·exact .inl ‹_›
  ·cases hat
 have vx:=Opd.vr hR hx
 have vy:=Opd.vr hR hy
 have hexec:∀{r:Value} {w':World},(Builtin.append_ #[t,t'] o.type #[a.eval u,a.eval v]).run P w=.ok r w'→(execOp a.eval o).run P w=.ok (.value r) w':=by
  intro r w' hr
  simp [execOp,ho,resolve,hcl',hargs,hts,invoke,builtin,hr]
 simp only [p9,c2r] at h
 split at h
 ·rename_i ys hsrc
  obtain ⟨hvl,h⟩:=h
  have grow:∀(base:Option Addr) (n cap:Nat) (xs:List V) (olds:List Value) (dr:List Nat),a.eval u=.slice base n cap→xs.length=n→olds.length=n*k →
    (Builtin.firstCells k n (.slice base n cap)).run P w.drew=.ok olds.toArray w.drew→(∀x∈xs,x.cells.length=k∧(∀c∈x.cells,c.one=true)∧x.sealed=true) →
    (∀(i j:Nat) (x y:V),xs[i]?=some x→x.cells[j]?=some y→Rd g.S w (olds.getD (i*k+j) undef) y)→(∀y∈ys,y.cells.length=k)→cap<n+ys.length→(n+ys.length)*bytes≤140737488355328→n≤maxLen →
    n+ys.length≤9223372036854775807→∀tq,c0j tq e (0,0)→K ⟨.osl d k 0 (n+ys.length),dr,[(d,.arr k (xs++ys) tq)]⟩→∀T:Nat→Prop,(∀b,T b→b<w.heap.size∧∃id0 o0,id0∈dr∧find id0 σ.heap=some o0∧¬g.nil id0∧g.ρ id0=b) →
    (∀(g':Gh) (w':World),(∀b,g'.S b↔g.S b∨T b)→(∀b,b<w.heap.size→w'.heap[b]?=w.heap[b]?)→∀id k' lo n k'' xs t0,x.ev σ.env=.osl id k' lo n→ob id=some (.arr k'' xs t0)→d0m g g' w' id k xs d)→o.wp P a w K' Q':=by
   intro base n cap xs olds dr eu hxl hol hof hxe hxr hye hlt hbd hnm h63 tq htq hk T hT hpin
   obtain ⟨news,hsr⟩:=b84 hR hob vy hsrc hvl hye
   obtain ⟨news2,hsr2⟩:=b84 (hR.drew) hob (vy.mono (g':=g) (w:=w) (w':=w.drew) (fun b _=>rfl) (fun _ h=>h) fun _ _=>Gh.agree.refl _ _) hsrc hvl hye
   have hrun:=b8l (P:=P) (w:=w) (t:=t) (t':=t') (ty:=o.type) hu hu' hi hz (base:=base) (n:=n) (cap:=cap) (m:=ys.length) (y:=a.eval v) (olds:=olds.toArray) (news:=news2.toArray) hsr.lenOf (by rw [hsz];exact hof) (by rw [hsz];exact hsr2.first) hlt h63 (growslice_fits hlt (by rw [hby];exact hbd))
   obtain ⟨gc,hgc⟩:∃gc,gc=grownCap w (n+ys.length) cap e:=⟨_,rfl⟩
   rw [←hgc] at hrun
   have hge:n+ys.length≤gc:=by rw [hgc];exact grownCap_ge w _ cap e
   have hgm:gc≤maxLen:=by rw [hgc];exact grownCap_le_maxLen w _ cap e (by rw [maxLen];omega)
   obtain ⟨cur,hcur⟩:∃cur:Array Value,cur=olds.toArray++news2.toArray++Builtin.zeroCells z.cells (gc - (n+ys.length)):=⟨_,rfl⟩
   rw [←hcur] at hrun
   have hcs:cur.size=gc*k:=by
    rw [hcur]
    simp only [Array.size_append,List.size_toArray,d6h,hzs,hol,hsr2.len]
    rw [←vK,←vK]
    congr 1;omega
   have e1:((g.plus T).set d w.heap.size 0 gc).ρ d=w.heap.size:=by simp [Gh.set]
   have e2:((g.plus T).set d w.heap.size 0 gc).base d=0:=by simp [Gh.set]
   have e3:((g.plus T).set d w.heap.size 0 gc).cap d=gc:=by simp [Gh.set]
   have e4:¬((g.plus T).set d w.heap.size 0 gc).nil d:=by simp [Gh.set]
   have hkeep:a2e g.S w (w.drew.alloc (.cells cur e)):=a2e.push hR.hp.lt rfl
   rw [←eu] at hrun
   refine d5r.mk hF hk (hexec hrun) (a09.allocDropT T _ d 0 gc _ dr (.cells cur e) hR.hp.lt rfl rfl rfl rfl hT ?_) (a13.of_clean hcl) ?_ (hpin _ _ (fun b=>vP) fun b hb=>?_)
   ·refine .inr ⟨e4,?_⟩
    rw [e1,e2,e3]
    refine ⟨hkp,⟨cur,e,(0,0),heap_alloc_new w.drew _,by rw [hcs,vA],⟨a4l _,htq⟩,fun i' j x' y' hi' hj'=>?_⟩,by simp [hxl];omega,by omega,fun x' hx'=>?_⟩
    ·have:=b9y (S:=g.S) (w:=w) (cur:=cur) (s:=0) (n:=n) (m:=ys.length) (k:=k) (olds:=olds) (news:=news2) hxl hol (fun x hx=>(hxe x hx).1) hxr rfl hsr2.len hye
      (fun i j x y hx hy=>(hsr2.rd i j x y hx hy).mono (w:=w.drew) (w':=w) (fun b _=>rfl) fun _ h=>h) (fun j hj=>by
       rw [hcur,vA,Array.getElem?_append_left (by simp [hol,hsr2.len,←vK];exact hj)]
       simp) i' j x' y' hi' hj'
     rw [vA] at this ⊢
     exact this.mono hkeep fun _ h=>.inl h
    ·rcases wL.1 hx' with h8|h8
     ·exact hxe x' h8
     ·exact hsr2.elem x' h8
   ·have:=VR.osl (g:=(g.plus T).set d w.heap.size 0 gc) (w:=w.drew.alloc (.cells cur e)) d k 0 (n+ys.length) 0 gc e4 (.inr (by rw [e2];simp)) (by rw [e3];omega) (by omega) hgm
    rw [e1] at this
    exact this
   ·show (w.heap.push _)[b]?=_
    rw [Array.getElem?_push,if_neg (by omega)]
  split at h
  ·rename_i hxn
   rw [hxn] at vx
   obtain ⟨⟨hbd,hye⟩,hk⟩:=h
   have eu:=vx.nils_inv
   obtain ⟨news,hsr⟩:=b84 hR hob vy hsrc hvl hye
   by_cases h0:ys.length=0
   ·have hnil:ys=[]:=zB h0
    subst hnil
    have hnn:news=[]:=zB (by have:=hsr.len;simpa using this)
    subst hnn
    have hrun:=b2c (P:=P) (w:=w) (t:=t) (t':=t') (ty:=o.type) hu hu' hi (y:=a.eval v) hsr.lenOf (by rw [hsz];exact hsr.first)
    rw [←eu] at hrun
    refine d5r.mk hF hk (hexec hrun) (a09.newNil _ d k [] _ hR.hp) (a13.of_clean hcl) ?_ (fun id1 k1 lo1 n1 k2 xs1 t1 e _=>by rw [hxn] at e;cases e)
    rw [eu]
    exact .oslnil d k 0 (.inl rfl)
   ·refine grow none 0 0 [] [] [] eu rfl (by simp) (by simp [Builtin.firstCells]) (fun x hx=>by simp at hx) (fun i j x y hx _=>by simp at hx) hye (by omega) (by rw [vA];exact hbd) (by omega) ?_ ty (hty _) ?_ (fun _=>False) (fun _ h=>h.elim) (fun _ _ _ _ id1 k1 lo1 n1 k2 xs1 t1 e _=>by rw [hxn] at e;cases e)
    ·have:=hsr.big;rw [maxLen] at this;omega
    ·rw [vA,wJ];exact hk
  ·rename_i id k' lo n hxo
   rw [hxo] at vx
   split at h
   ·rename_i k'' xs t0 hobj
    by_cases hb:(Nat.beq k k'&&Nat.beq k k'')=true
    case neg=>simp [hb] at h
    simp only [hb,vO] at h
    simp only [wE] at hb
    have q1:=zR hb.1;subst q1
    have q2:=zR hb.2;subst q2
    obtain ⟨⟨hlo,hbd,hye⟩,hk⟩:=h
    have hfd:=hob _ _ hobj
    obtain ⟨news,hsr⟩:=b84 hR hob vy hsrc hvl hye
    have hdl:(xs.drop lo).length=n:=by simp;omega
    rcases vx.osl_inv with ⟨hnil,eu,hn0⟩|⟨hnn,o',cc,eu,ho',hcap,hlc,hm⟩
    ·subst hn0
     have hx0:xs=[]:=by
      rcases hR.hp.obj _ _ hfd with ⟨_,h8⟩|⟨h8,_⟩
      ·exact h8
      ·exact absurd hnil h8
     subst hx0
     simp only [List.drop_nil,wJ,vA] at hk
     by_cases h0:ys.length=0
     ·have hnl:ys=[]:=zB h0
      subst hnl
      have hnn:news=[]:=zB (by have:=hsr.len;simpa using this)
      subst hnn
      have hrun:=b2c (P:=P) (w:=w) (t:=t) (t':=t') (ty:=o.type) hu hu' hi (y:=a.eval v) hsr.lenOf (by rw [hsz];exact hsr.first)
      rw [←eu] at hrun
      refine d5r.mk hF hk (hexec hrun) (a09.newNil _ d k [id] _ hR.hp) (a13.of_clean hcl) ?_ (fun id1 k1 lo1 n1 k2 xs1 t1 e e'=>by rw [hxo] at e;cases e;rw [hobj] at e';cases e';exact .inl rfl)
      rw [eu]
      exact .oslnil d k 0 (.inl rfl)
     ·refine grow none 0 0 [] [] [id] eu rfl (by simp) (by simp [Builtin.firstCells]) (fun x hx=>by simp at hx) (fun i j x y hx _=>by simp at hx) hye (by omega) hbd (by omega) ?_ (tyJ t0 ty) (e3y (hty _)) ?_ (fun _=>False) (fun _ h=>h.elim) (fun _ _ _ _ id1 k1 lo1 n1 k2 xs1 t1 e e'=>by rw [hxo] at e;cases e;rw [hobj] at e';cases e';exact .inl rfl)
      ·have:=hsr.big;rw [maxLen] at this;omega
      ·rw [vA,wJ];exact hk
    ·rcases hR.hp.obj _ _ hfd with ⟨hnil,_⟩|⟨_,ha⟩
     ·exact absurd hnil hnn
     obtain ⟨_,⟨cur,e',fz,h1,h2,⟨h3,ht0⟩,h4⟩,h5,h6,h7⟩:=ha
     have hoo:n≠0∨0<cc→o'=(g.base id+lo)*k:=by
      intro h8
      rcases ho' with h|h
      ·omega
      ·exact h
     by_cases hroom:n+ys.length≤cc
     · -- in place
      by_cases hcc:cc=0
      · -- nothing there,nothing appended
       have hn0:n=0:=by omega
       have hy0:ys.length=0:=by omega
       have hnl:ys=[]:=zB hy0
       subst hnl;subst hn0;subst hcc
       have hnn':news=[]:=zB (by have:=hsr.len;simpa using this)
       subst hnn'
       have hrun:=b2b (P:=P) (w:=w) (t:=t) (t':=t') (ty:=o.type) hu hu' hi (ad:=⟨g.ρ id,o',none⟩) (n:=0) (cap:=0) (m:=0) (y:=a.eval v) (news:=[]) hsr.lenOf (by rw [hsz];exact hsr.first) (vJ _) (w':=w) rfl
       rw [←eu] at hrun
       have hlo':lo=xs.length:=by omega
       have hdn:xs.drop lo=[]:=List.drop_eq_nil_of_le (by omega)
       rw [hdn,wQ] at hk
       refine d5r.mk hF hk (hexec hrun) (a09.pass _ d id (g.base id+lo) (g.cap id - lo) _ _ hR.hp hfd hnn rfl rfl rfl rfl (fun _ _=>rfl) ?_) (a13.of_clean hcl) ?_ (fun id1 k1 lo1 n1 k2 xs1 t1 e e2=>by rw [hxo] at e;cases e;rw [hobj] at e2;cases e2;exact d0m.of h1 rfl h2 h5 h4 (fun x hx=>(h7 x hx).1) (fun _ _=>rfl) (fun _ h=>h) (fun _ _=>rfl) (.inr ⟨by simp [Gh.set],by simp [Gh.set]⟩))
       ·have e1:(g.set d (g.ρ id) (g.base id+lo) (g.cap id - lo)).ρ d=g.ρ id:=by simp [Gh.set]
        have e2:(g.set d (g.ρ id) (g.base id+lo) (g.cap id - lo)).base d=g.base id+lo:=by simp [Gh.set]
        have e3:(g.set d (g.ρ id) (g.base id+lo) (g.cap id - lo)).cap d=g.cap id - lo:=by simp [Gh.set]
        refine .inr ⟨by simp [Gh.set],?_⟩
        rw [e1,e2,e3]
        exact ⟨hkp,⟨cur,e',fz,h1,by rw [h2];congr 1;omega,⟨h3,e3z ht0⟩,fun i' j x' y' hi' _=>by simp at hi'⟩,by simp,by omega,fun x' hx'=>by simp at hx'⟩
       ·have e1:(g.set d (g.ρ id) (g.base id+lo) (g.cap id - lo)).ρ d=g.ρ id:=by simp [Gh.set]
        have:=VR.osl (g:=g.set d (g.ρ id) (g.base id+lo) (g.cap id - lo)) (w:=w) d k 0 0 o' 0 (by simp [Gh.set]) (.inl rfl) (by simp) (vJ _) (by simp)
        rw [e1] at this
        rw [eu]
        exact this
      ·have ho'':=hoo (.inr (by omega))
       have hfit:o'+n*k+0+news.length≤cur.size:=by
        rw [ho'',hsr.len,vD,←vK,←vK,h2]
        exact zZ _ (by omega)
       obtain ⟨w',cur',r1,r2,r3,r4,r5,r6,r7,r8,r9⟩:=a5l (P:=P) (g.ρ id) (o'+n*k) e' fz news 0 cur w h1 h3 hfit hsr.one
       have hrun:=b2b (P:=P) (w:=w) (t:=t) (t':=t') (ty:=o.type) hu hu' hi (ad:=⟨g.ρ id,o',none⟩) (n:=n) (cap:=cc) (m:=ys.length) (y:=a.eval v) (news:=news) hsr.lenOf (by rw [hsz];exact hsr.first) hroom (w':=w')
        (by rw [hsz,show (⟨g.ρ id,o',none⟩:Addr).add (n*k)=⟨g.ρ id,o'+n*k,none⟩ from Addr.add_lit _ _ _];exact r1)
       rw [←eu] at hrun
       have hkeep:a2e g.S w w':=a2e.upd hR.hp hfd hnn r6
       have e1:(g.set d (g.ρ id) (g.base id+lo) (g.cap id - lo)).ρ d=g.ρ id:=by simp [Gh.set]
       have e2:(g.set d (g.ρ id) (g.base id+lo) (g.cap id - lo)).base d=g.base id+lo:=by simp [Gh.set]
       have e3:(g.set d (g.ρ id) (g.base id+lo) (g.cap id - lo)).cap d=g.cap id - lo:=by simp [Gh.set]
       refine d5r.mk hF hk (hexec hrun) (a09.pass _ d id (g.base id+lo) (g.cap id - lo) _ _ hR.hp hfd hnn r2 r3 r4 r5 r6 ?_) (a13.of_clean hcl) ?_ ?_
       ·refine .inr ⟨by simp [Gh.set],?_⟩
        rw [e1,e2,e3]
        refine ⟨hkp,⟨cur',e',fz,r7,by rw [r8,h2];congr 1;omega,⟨by rw [r8];exact h3,e3z ht0⟩,fun i' j x' y' hi' hj'=>?_⟩,by simp;omega,by omega,fun x' hx'=>?_⟩
        ·have hold:((cur.toList.drop o').take (n*k)).length=n*k:=by
          have:o'+n*k≤cur.size:=by omega
          simp;omega
         have:=b9y (S:=g.S) (w:=w) (cur:=cur') (s:=o') (n:=n) (m:=ys.length) (k:=k) (xs:=xs.drop lo) (olds:=(cur.toList.drop o').take (n*k)) (news:=news) hdl hold (fun x hx=>(h7 x (z5 hx)).1)
          (fun i j x y hx hy=>by
           rw [xJ] at hx
           have hil:lo+i<xs.length:=(zG.1 hx).1
           have hjk:j<k:=by rw [←(h7 x (z6 hx)).1];exact (zG.1 hy).1
           have hij:i*k+j<n*k:=by
            have:(i+1)*k≤n*k:=zZ _ (by omega)
            rw [vK,vI] at this;omega
           have e5:=b7d (cur:=cur) (o':=o') (n:=n*k) (j:=i*k+j) hij (by omega)
           rw [zE,e5]
           have:=h4 (lo+i) j x y hx hy
           rw [ho'',←wW,←vK,wW (g.base id)]
           exact this) rfl hsr.len hye hsr.rd (fun j hj=>by
           rw [r9 (o'+j)]
           simp only [vD]
           by_cases hjn:j<n*k
           ·rw [if_neg (by omega),zH (by omega),b7d hjn (by omega)]
            have:o'+j<cur.size:=by omega
            simp [zC,this]
           ·rw [vK] at hj
            rw [if_pos (by have:=hsr.len;omega),zD (by omega),hold]
            congr 1;omega) i' j x' y' hi' hj'
         rw [ho'',←wW,←vK] at this
         exact this.mono hkeep fun _ h=>h
        ·rcases wL.1 hx' with h8|h8
         ·exact h7 x' (z5 h8)
         ·exact hsr.elem x' h8
       ·have:=VR.osl (g:=g.set d (g.ρ id) (g.base id+lo) (g.cap id - lo)) (w:=w') d k 0 (n+ys.length) o' cc (by simp [Gh.set]) (.inr (by rw [e2];simpa using ho'')) (by rw [e3];omega) hroom hm
        rw [e1] at this
        exact this
       ·intro id1 k1 lo1 n1 k2 xs1 t1 e e2
        rw [hxo] at e;cases e;rw [hobj] at e2;cases e2
        refine d0m.of r7 r8 h2 h5 h4 (fun x hx=>(h7 x hx).1) hkeep (fun _ h=>h) (fun q hq=>?_) (.inr ⟨by simp [Gh.set],e1⟩)
        have e9:(g.base id+xs.length)*k=o'+n*k:=by rw [ho'',←vK];congr 1;omega
        rw [r9 q,if_neg (by omega)]
     ·have hfit:n=0∨o'+n*k≤cur.size:=by
       by_cases hn0:n=0
       ·exact .inl hn0
       ·right
        rw [hoo (.inl hn0),←vK,h2]
        exact zZ _ (by omega)
      obtain ⟨olds,hso⟩:=b3o (P:=P) (S:=g.S) (w:=w.drew) (b:=g.ρ id) (o':=o') (k:=k) (len:=n) (cap:=cc) (cur:=cur) (e:=e') (fz:=fz) (ys:=xs.drop lo) h1 hdl hfit (fun i j x y hx hy=>by
        rw [xJ] at hx
        have hil:lo+i<xs.length:=(zG.1 hx).1
        have:=h4 (lo+i) j x y hx hy
        rw [hoo (.inl (by omega)),←vK,wW (g.base id)]
        exact this.mono (w:=w) (w':=w.drew) (fun b _=>rfl) fun _ h=>h) (fun x hx=>h7 x (z5 hx)) (by omega)
      have hol:=hso.len
      have hfi:=hso.first
      rw [hdl] at hol hfi
      refine grow (some ⟨g.ρ id,o',none⟩) n cc (xs.drop lo) olds [id] eu hdl hol hfi (fun x hx=>h7 x (z5 hx)) (fun i j x y hx hy=>(hso.rd i j x y hx hy).mono (w:=w.drew) (w':=w) (fun b _=>rfl) fun _ h=>h) hye (by omega) hbd (by omega) ?_ (tyJ t0 ty) (e3y (hty _)) hk (fun b=>b=g.ρ id) (fun b hb=>by subst hb;exact ⟨(hR.hp.obj _ _ hfd).block hnn,id,_,by simp,hfd,hnn,rfl⟩) (fun g' w' hS hW id1 k1 lo1 n1 k2 xs1 t1 e e2=>by rw [hxo] at e;cases e;rw [hobj] at e2;cases e2;exact d0m.of ((hW _ ((hR.hp.obj _ _ hfd).block hnn)).trans h1) rfl h2 h5 h4 (fun x hx=>(h7 x hx).1) (fun b hb=>hW b (hR.hp.lt b hb)) (fun b hb=>(hS b).2 (.inl hb)) (fun _ _=>rfl) (.inl ((hS _).2 (.inr rfl))))
      have h10:n+ys.length≤(n+ys.length)*bytes:=Nat.le_mul_of_pos_right _ hbp
      omega
   ·exact h.elim
  ·exact h.elim
 ·exact h.elim
theorem e4x {k bytes:Nat} {x y:Opd} {ty:Option TypeId} (hok:(a0a.app k bytes x y ty).ok P o.op=true) (hR:Rel P c g σ a w) (hob:∀id o,ob id=some o→find id σ.heap=some o) {d:Nat} (hcl:Clean c σ d) (h:p9 P (.app k bytes x y ty) d [x.ev σ.env,y.ev σ.env] ob K L) (hF:Fin o c g σ a w K L K'):o.wp P a w K' Q' :=
 d4y hok hR hob hcl h fun eff hk g' v w' h1 h2 h3 _=>hF eff (.inl hk) g' v w' h1 h2 h3
end
end Go.Ab