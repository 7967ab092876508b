/- The abstract layer, part 1: abstract values, objects and states, and what it means that they describe a world. -/
import Derived.WalkKit
import Derived.Orders
import Derived.Lib.LaidTab
import Derived.MapKept
import Derived.Lib.SliceRun
import Derived.Laws.IdiomRangeMap
set_option linter.all false
namespace Go.Ab
open Go.RowKit
abbrev zA:=@Array.getElem?_setIfInBounds_ne
abbrev zB:=@List.eq_nil_of_length_eq_zero
abbrev zC:=@Array.getD_eq_getD_getElem?
abbrev zD:=@List.getElem?_append_right
abbrev zE:=@List.getD_eq_getElem?_getD
abbrev zF:=@Array.getElem?_eq_some_iff
abbrev zG:=@List.getElem?_eq_some_iff
abbrev zH:=@List.getElem?_append_left
abbrev zI:=@Array.getElem?_eq_getElem
abbrev zJ:=@List.getElem?_eq_getElem
abbrev zK:=@decide_eq_false_iff_not
abbrev zL:=@Option.bind_eq_some_iff
abbrev zM:=@List.length_eq_zero_iff
abbrev zN:=@List.getElem?_cons_succ
abbrev zO:=@Option.map_eq_some_iff
abbrev zP:=@List.take_of_length_le
abbrev zQ:=@Nat.le_of_ble_eq_true
abbrev zR:=@Nat.eq_of_beq_eq_true
abbrev zT:=@List.mem_iff_getElem?
abbrev zU:=@List.mem_append_right
abbrev zV:=@List.length_singleton
abbrev zW:=@Array.getElem?_toList
abbrev zX:=@Array.getElem?_modify
abbrev zY:=@Array.getElem?_append
abbrev zZ:=@Nat.mul_le_mul_right
abbrev xA:=@List.mem_of_mem_drop
abbrev xB:=@List.mem_of_getElem?
abbrev xC:=@List.mem_iff_getElem
abbrev xD:=@List.mem_cons_of_mem
abbrev xE:=@Bool.or_eq_false_iff
abbrev xF:=@List.drop_succ_cons
abbrev xG:=@Array.length_toList
abbrev xH:=@Nat.lt_of_lt_of_le
abbrev xI:=@List.mem_singleton
abbrev xJ:=@List.mem_cons_self
abbrev xK:=@List.length_append
abbrev xL:=@List.getElem?_take
abbrev xM:=@List.getElem?_drop
abbrev xN:=@Bool.false_eq_true
abbrev xO:=@decide_eq_true_eq
abbrev xP:=@Result.andThen_ok
abbrev xQ:=@Option.some.injEq
abbrev xR:=@List.getElem?_set
abbrev xS:=@List.getElem?_map
abbrev xU:=@List.flatMap_cons
abbrev xV:=@List.ext_getElem?
abbrev xW:=@Int.toNat_natCast
abbrev xX:=@Bool.not_eq_true'
abbrev xY:=@Option.getD_some
abbrev xZ:=@Option.bind_some
abbrev wA:=@List.take_length
abbrev wB:=@List.length_take
abbrev wC:=@List.length_cons
abbrev wD:=@List.getElem_mem
abbrev wE:=@List.cons_append
abbrev wF:=@List.all_eq_true
abbrev wG:=@Bool.and_eq_true
abbrev wH:=@Array.toList_inj
abbrev wI:=@decide_eq_false
abbrev wJ:=@Option.some.inj
abbrev wK:=@Option.map_some
abbrev wL:=@List.nil_append
abbrev wM:=@List.mem_filter
abbrev wN:=@List.mem_append
abbrev wO:=@List.length_nil
abbrev wP:=@List.length_map
abbrev wQ:=@List.foldl_cons
abbrev wR:=@List.cons.injEq
abbrev wS:=@List.append_nil
abbrev wT:=@Bool.or_eq_true
abbrev wU:=@Bool.eq_iff_iff
abbrev wV:=@decide_eq_true
abbrev wW:=@List.drop_zero
abbrev wY:=@Bool.not_false
abbrev wZ:=@Nat.add_assoc
abbrev w4:=@List.mem_cons
abbrev w5:=@List.map_cons
abbrev w6:=@Bool.not_true
abbrev w7:=@Bool.false_or
abbrev w8:=@Bool.and_self
abbrev vA:=@Sem.run_pure
abbrev vB:=@Sem.run_bind
abbrev vC:=@Nat.zero_add
abbrev vD:=@Nat.le_trans
abbrev vE:=@Nat.beq_refl
abbrev vF:=@Nat.add_zero
abbrev vG:=@List.mem_map
abbrev vH:=@List.map_nil
abbrev vI:=@Int.le_of_lt
abbrev vJ:=@Nat.zero_le
abbrev vK:=@Nat.one_mul
abbrev vL:=@Nat.le_refl
abbrev vM:=@Nat.add_mul
abbrev vN:=@Int.le_refl
abbrev vO:=@cond_false
abbrev vP:=@Nat.beq_eq
abbrev vQ:=@cond_true
abbrev vR:=@Iff.rfl
inductive KD where
 | int (k:IntKind)
 | str
 | bool
inductive V where
 | bool (b:Bool)
 | int (k:IntKind) (n:Int)
 | str (s:List UInt8)
 | nils
 | nilp
 | nilm
 | nilf
 | nili
 | agg (cs:List V)
 | tup (cs:List V)
 | sl (xs:List V)
 | ptr (id off:Nat)
 | eptr (x:V) (off:Nat)
 | osl (id k lo len:Nat)
 | optr (id k i off:Nat)
 | omap (id:Nat)
 | bptr (id:Nat)
 | smap (kd:KD) (es:List (V×V))
 | fn (f:Fn) (cap:List V)
 | any
 | nsl (z k:Nat) (xs:List V)
 | nsmap (z k:Nat) (kd:KD) (es:List (V×V))
 | ifc (b:Bool)
 | adr (b off:Nat)
 | at_ (id b:Nat)
namespace V
def cells:V→List V
 | .agg cs=>cs
 | v=>[v]
def one:V→Bool
 | .agg _|.tup _|.any|.at_ _ _=>false
 | _=>true
def sc:V→Bool
 | .bool _|.int _ _|.str _|.nils|.nilp|.nilm|.nilf|.nili|.ifc _|.sl _|.smap _ _|.adr _ _=>true
 | .fn (.func _) []=>true
 | _=>false
def sealed:V→Bool
 | .agg cs=>cs.all V.sc
 | x=>x.sc
def fl1:V→Bool
 | .bool _|.int _ _|.str _|.nils|.nilp|.nilm|.nilf|.nili|.ifc _|.sl []=>true
 | _=>false
def flat:V→Bool
 | .agg cs=>cs.all V.fl1
 | x=>x.fl1
mutual
def has (n:Nat):V→Bool
 | .ptr id _=>Nat.beq n id
 | .osl id _ _ _=>Nat.beq n id
 | .optr id _ _ _=>Nat.beq n id
 | .omap id=>Nat.beq n id
 | .bptr id=>Nat.beq n id
 | .nsl z _ _=>Nat.beq n z
 | .nsmap z _ _ _=>Nat.beq n z
 | .at_ id _=>Nat.beq n id
 | .agg cs=>hasL n cs
 | .tup cs=>hasL n cs
 | .fn _ cs=>hasL n cs
 | _=>false
def hasL (n:Nat):List V→Bool
 | []=>false
 | x::r=>has n x||hasL n r
end
theorem hasL_mem {n:Nat}:∀{l:List V} {x:V},x∈l→hasL n l=false→x.has n=false
 | y::r,x,hm,h=>by
  simp only [hasL,xE] at h
  rcases w4.1 hm with rfl|hm
  ·exact h.1
  ·exact hasL_mem hm h.2
end V
def KD.is:KD→V→Bool
 | .int .i8,.int .i8 _|.int .i16,.int .i16 _|.int .i32,.int .i32 _|.int .i64,.int .i64 _=>true
 | .int .u8,.int .u8 _|.int .u16,.int .u16 _|.int .u32,.int .u32 _|.int .u64,.int .u64 _=>true
 | .str,.str _=>true
 | .bool,.bool _=>true
 | _,_=>false
inductive a0c where
 | cells (cs:List V) (t:Option TypeId:=none)
 | arr (k:Nat) (xs:List V) (t:Option TypeId:=none)
 | map (kd:KD) (es:List (V×V))
 | iter (rem:List (V×V)) (cur:Option (V×V))
 | mark
 | nmap (z k:Nat) (kd:KD) (es:List (V×V))
def a0c.has (n:Nat):a0c→Bool
 | .cells cs _=>V.hasL n cs
 | .nmap z _ _ _=>Nat.beq n z
 | _=>false
def inR (k:IntKind) (n:Int):Prop:=k.min≤n∧n≤k.max
def a3d (fz:Nat×Nat) (n:Nat):Prop:=fz.1=fz.2∨n≤fz.1
theorem a3d.at {fz:Nat×Nat} {n i:Nat} (h:a3d fz n) (hi:i<n):(decide (fz.1≤i)&&decide (i<fz.2))=false:=by
 rw [Bool.and_eq_false_iff,zK,zK]
 unfold a3d at h
 omega
inductive Rd (S:Nat→Prop) (w:World):Value→V→Prop
 | bool (b:Bool):Rd S w (.bool b) (.bool b)
 | int (k:IntKind) (n:Int) (h:inR k n):Rd S w (.int k n) (.int k n)
 | str (s:ByteArray) (h:s.size≤maxLen):Rd S w (.string s) (.str s.data.toList)
 | nils:Rd S w (.slice none 0 0) .nils
 | nilsl:Rd S w (.slice none 0 0) (.sl [])
 | slz (a:Addr) (cap:Nat):Rd S w (.slice (some a) 0 cap) (.sl [])
 | nilp:Rd S w (.pointer none) .nilp
 | nilm:Rd S w (.map none) .nilm
 | nilf:Rd S w .nilFunc .nilf
 | nili:Rd S w .nilIface .nili
 | ifcn:Rd S w .nilIface (.ifc true)
 | ifcs (t:TypeId) (p:Value):Rd S w (.iface t p) (.ifc false)
 | adr (b off:Nat):Rd S w (.pointer (some ⟨b,off,none⟩)) (.adr b off)
 | fnc (n:Nat):Rd S w (.func (.func n) #[] #[]) (.fn (.func n) [])
 | agg (vs:Array Value) (cs:List V) (hl:vs.size=cs.length) (hr:∀(i:Nat) (c:V),cs[i]?=some c→Rd S w (vs.getD i undef) c):Rd S w (.agg vs) (.agg cs)
 | sl (g o len cap k:Nat) (cur:Array Value) (e:TypeId) (fz:Nat×Nat) (xs:List V) (hS:S g) (hg:w.heap[g]?=some (.cells cur e fz))
   (hl:xs.length=len) (hm:len≤maxLen) (hc:len≤cap) (hb:len=0∨o+len*k≤cur.size) (hk:∀x∈xs,x.cells.length=k∧(∀c∈x.cells,c.one=true)∧x.sealed=true)
   (hr:∀(i j:Nat) (x c:V),xs[i]?=some x→x.cells[j]?=some c→Rd S w (cur.getD (o+i*k+j) undef) c) :
   Rd S w (.slice (some ⟨g,o,none⟩) len cap) (.sl xs)
 | smap (b:Nat) (kd:KD) (ents:Array MapEntry) (clock:Nat) (es:List (V×V)) (hS:S b) (hg:w.heap[b]?=some (.map ents clock)) (hl:ents.size=es.length) (hk:∀kv∈es,kd.is kv.1=true)
   (hb:∀ent∈ents.toList,ent.born<clock) (hn:(ents.toList.map (·.born)).Nodup)
   (hr1:∀(i:Nat) (ent:MapEntry) (kv:V×V),ents[i]?=some ent→es[i]?=some kv→Rd S w ent.key kv.1) (hr2:∀(i:Nat) (ent:MapEntry) (kv:V×V),ents[i]?=some ent→es[i]?=some kv→Rd S w ent.val kv.2) :
   Rd S w (.map (some b)) (.smap kd es)
def a1o (S:Nat→Prop) (w w':World):Prop:=∀b,S b→w'.heap[b]?=w.heap[b]?
theorem Rd.mono {S S':Nat→Prop} {w w':World} (hk:a1o S w w') (hs:∀b,S b→S' b):∀{v:Value} {x:V},Rd S w v x→Rd S' w' v x:=by
 intro v x h
 induction h with
 | bool b=>exact .bool b
 | int k n h=>exact .int k n h
 | str s h=>exact .str s h
 | nils=>exact .nils
 | nilsl=>exact .nilsl
 | slz a cap=>exact .slz a cap
 | nilp=>exact .nilp
 | nilm=>exact .nilm
 | nilf=>exact .nilf
 | nili=>exact .nili
 | ifcn=>exact .ifcn
 | ifcs t p=>exact .ifcs t p
 | adr b off=>exact .adr b off
 | fnc n=>exact .fnc n
 | agg vs cs hl _ ih=>exact .agg vs cs hl ih
 | sl g o len cap k cur e fz xs hS hg hl hm hc hb hk' _ ih=>exact .sl g o len cap k cur e fz xs (hs _ hS) ((hk _ hS).trans hg) hl hm hc hb hk' ih
 | smap b kd ents clock es hS hg hl hk' hb hn _ _ ih1 ih2=>exact .smap b kd ents clock es (hs _ hS) ((hk _ hS).trans hg) hl hk' hb hn ih1 ih2
theorem Rd.agg_inv {S w v cs} (h:Rd S w v (.agg cs)):∃vs:Array Value,v=.agg vs∧vs.size=cs.length∧∀(i:Nat) (c:V),cs[i]?=some c→Rd S w (vs.getD i undef) c:=by
 cases h with
 | agg vs cs hl hr=>exact ⟨vs,rfl,hl,hr⟩
structure Gh where
 S:Nat→Prop
 ρ:Nat→Nat
 base:Nat→Nat
 cap:Nat→Nat
 nil:Nat→Prop
def Gh.agree (g g':Gh) (id:Nat):Prop:=g'.ρ id=g.ρ id∧g'.base id=g.base id∧g'.cap id=g.cap id∧(g'.nil id↔g.nil id)
theorem Gh.agree.refl (g:Gh) (id:Nat):g.agree g id:=⟨rfl,rfl,rfl,vR⟩
theorem Gh.agree.trans {a b c:Gh} {id:Nat} (h:a.agree b id) (k:b.agree c id):a.agree c id :=
 ⟨k.1.trans h.1,k.2.1.trans h.2.1,k.2.2.1.trans h.2.2.1,k.2.2.2.trans h.2.2.2⟩
def e2k:TypeId:=4000000000
def c2m (t:Option TypeId) (e:TypeId) (fz:Nat×Nat):Prop:=match t with
 | none=>True
 | some u=>bif Nat.beq u e2k then fz.1=fz.2 else e=u
def tyF:Option TypeId→Option TypeId
 | none=>none
 | some u=>bif Nat.beq u e2k then none else some u
structure b3r (S:Nat→Prop) (w:World) (b base cap k:Nat) (xs:List V) (t:Option TypeId):Prop where
 kpos:0<k
 row:∃(cur:Array Value) (e:TypeId) (fz:Nat×Nat),w.heap[b]?=some (.cells cur e fz)∧cur.size=(base+cap)*k∧(a3d fz cur.size∧c2m t e fz) ∧
  ∀(i j:Nat) (x c:V),xs[i]?=some x→x.cells[j]?=some c→Rd S w (cur.getD ((base+i)*k+j) undef) c
 len:xs.length≤cap
 big:base+cap≤maxLen
 elem:∀x∈xs,x.cells.length=k∧(∀c∈x.cells,c.one=true)∧x.sealed=true
theorem b3r.keepB {S S':Nat→Prop} {w w':World} {b base cap k:Nat} {xs:List V} {t:Option TypeId} (h:b3r S w b base cap k xs t) (hb:w'.heap[b]?=w.heap[b]?) (hk:a1o S w w') (hs:∀b,S b→S' b):b3r S' w' b base cap k xs t:=by
 obtain ⟨h1,⟨cur,e,fz,h2,h3,h4,h5⟩,h6,h7,h8⟩:=h
 exact ⟨h1,⟨cur,e,fz,hb.trans h2,h3,h4,fun i j x c hx hc=>(h5 i j x c hx hc).mono hk hs⟩,h6,h7,h8⟩
def a7g (S:Nat→Prop) (m k:Nat) (w:World) (v:Value) (xs:List V):Prop :=
 (v=.slice none 0 0∧xs=[])∨∃b o base cap c,v=.slice (some ⟨b,o,none⟩) xs.length c∧(c=0∨o=base*k)∧xs.length≤c∧c≤cap∧c≤maxLen∧m.testBit b=false∧S b∧b3r S w b base cap k xs none
theorem a7g.mono {S S':Nat→Prop} {m k:Nat} {w w':World} {v:Value} {xs:List V} (h:a7g S m k w v xs) (hk:a1o S w w') (hs:∀b,S b→S' b):a7g S' m k w' v xs:=by
 rcases h with h|⟨b,o,base,cap,c,h1,h0,h2,h3,h4,h5,h6,h7⟩
 ·exact .inl h
 ·exact .inr ⟨b,o,base,cap,c,h1,h0,h2,h3,h4,h5,hs b h6,h7.keepB (hk b h6) hk hs⟩
theorem a7g.rd {S:Nat→Prop} {m k:Nat} {w:World} {v:Value} {xs:List V} (h:a7g S m k w v xs):Rd S w v (.sl xs):=by
 rcases h with ⟨rfl,rfl⟩|⟨b,o,base,cap,c,rfl,h0,h2,h3,h4,h5,h6,⟨h7,⟨cur,e,fz,h8,h9,h10,h11⟩,h12,h13,h14⟩⟩
 ·exact .nilsl
 ·refine .sl b o xs.length c k cur e fz xs h6 h8 rfl (vD h2 h4) h2 ?_ h14 fun i j x y hx hy=>?_
  ·rcases h0 with h0|h0
   ·exact .inl (by omega)
   ·refine .inr ?_
    rw [h0,h9,←vM];exact zZ k (by omega)
  ·have hi:=(zG.1 hx).1
   have:=h11 i j x y hx hy
   rw [h0.resolve_left (by omega)]
   rwa [vM] at this
inductive VR (g:Gh) (w:World):Value→V→Prop
 | rd {v:Value} {x:V} (h:Rd g.S w v x):VR g w v x
 | any (v:Value):VR g w v .any
 | ptr (id off:Nat):VR g w (.pointer (some ⟨g.ρ id,off,none⟩)) (.ptr id off)
 | eptr (b o off:Nat) (cur:Array Value) (e:TypeId) (fz:Nat×Nat) (x:V) (hS:g.S b) (hg:w.heap[b]?=some (.cells cur e fz))
   (hb:o+x.cells.length≤cur.size) (hr:∀(j:Nat) (c:V),x.cells[j]?=some c→Rd g.S w (cur.getD (o+j) undef) c) :
   VR g w (.pointer (some ⟨b,o+off,none⟩)) (.eptr x off)
 | oslnil (id k lo:Nat) (h:g.nil id):VR g w (.slice none 0 0) (.osl id k lo 0)
 | osl (id k lo len o c:Nat) (h:¬g.nil id) (ho:c=0∨o=(g.base id+lo)*k) (hc:lo+c≤g.cap id) (hl:len≤c) (hm:c≤maxLen) :
   VR g w (.slice (some ⟨g.ρ id,o,none⟩) len c) (.osl id k lo len)
 | optr (id k i off:Nat):VR g w (.pointer (some ⟨g.ρ id,(g.base id+i)*k+off,none⟩)) (.optr id k i off)
 | omap (id:Nat):VR g w (.map (some (g.ρ id))) (.omap id)
 | bnil (id:Nat):VR g w (.pointer none) (.bptr id)
 | bself (id:Nat):VR g w (.pointer (some ⟨g.ρ id,0,none⟩)) (.bptr id)
 | at_ (id b:Nat) (v:Value) (h:g.ρ id=b):VR g w v (.at_ id b)
 | nsl (z k:Nat) (xs:List V) (v:Value) (h:a7g g.S (g.base z) k w v xs):VR g w v (.nsl z k xs)
 | nsmap (b z k:Nat) (kd:KD) (ents:Array MapEntry) (clock:Nat) (es:List (V×V)) (hr:Rd g.S w (.map (some b)) (.smap kd es)) (hS:g.S b) (hg:w.heap[b]?=some (.map ents clock))
   (hn:∀(i:Nat) (ent:MapEntry) (kv:V×V),ents[i]?=some ent→es[i]?=some kv→∃xs,kv.2=.sl xs∧a7g g.S (g.base z) k w ent.val xs):VR g w (.map (some b)) (.nsmap z k kd es)
 | agg (vs:Array Value) (cs:List V) (hl:vs.size=cs.length) (hr:∀(i:Nat) (c:V),cs[i]?=some c→VR g w (vs.getD i undef) c):VR g w (.agg vs) (.agg cs)
 | tup (vs:Array Value) (cs:List V) (hl:vs.size=cs.length) (hr:∀(i:Nat) (c:V),cs[i]?=some c→VR g w (vs.getD i undef) c):VR g w (.tuple vs) (.tup cs)
 | fn (n:Nat) (vs:Array Value) (cs:List V) (hl:vs.size=cs.length) (hr:∀(i:Nat) (c:V),cs[i]?=some c→VR g w (vs.getD i undef) c):VR g w (.func (.func n) #[] vs) (.fn (.func n) cs)
 | bnd (n:Nat) (vs:Array Value) (cs:List V) (hl:vs.size=cs.length) (hr:∀(i:Nat) (c:V),cs[i]?=some c→VR g w (vs.getD i undef) c):VR g w (.func (.func n) vs #[]) (.fn (.yield n) cs)
theorem VR.mono {g g':Gh} {w w':World} (hk:a1o g.S w w') (hs:∀b,g.S b→g'.S b) :
  ∀{v:Value} {x:V},VR g w v x→(∀id,x.has id=true→g.agree g' id)→VR g' w' v x:=by
 intro v x h
 induction h with
 | rd h=>exact fun _=>.rd (h.mono hk hs)
 | any v=>exact fun _=>.any v
 | ptr id off =>
  intro ha
  have:=(ha id (by simp [V.has])).1
  rw [←this];exact .ptr id off
 | eptr b o off cur e fz x hS hg hb hr=>exact fun _=>.eptr b o off cur e fz x (hs _ hS) ((hk _ hS).trans hg) hb fun j c hc=>(hr j c hc).mono hk hs
 | oslnil id k lo h=>exact fun ha=>.oslnil id k lo ((ha id (by simp [V.has])).2.2.2.2 h)
 | osl id k lo len o c h ho hc hl hm =>
  intro ha
  obtain ⟨h1,h2,h3,h4⟩:=ha id (by simp [V.has])
  rw [←h1]
  exact .osl id k lo len o c (fun h'=>h (h4.1 h')) (by rw [h2];exact ho) (by rw [h3];exact hc) hl hm
 | optr id k i off =>
  intro ha
  obtain ⟨h1,h2,h3,h4⟩:=ha id (by simp [V.has])
  rw [←h1,←h2];exact .optr id k i off
 | omap id =>
  intro ha
  rw [←(ha id (by simp [V.has])).1];exact .omap id
 | bnil id=>exact fun _=>.bnil id
 | bself id =>
  intro ha
  rw [←(ha id (by simp [V.has])).1];exact .bself id
 | at_ id b v h=>exact fun ha=>.at_ id b v ((ha id (by simp [V.has])).1.trans h)
 | nsl z k xs v h =>
  intro ha
  have:=(ha z (by simp [V.has])).2.1
  exact .nsl z k xs v (by rw [this];exact h.mono hk hs)
 | nsmap b z k kd ents clock es hr hS hg hn =>
  intro ha
  have:=(ha z (by simp [V.has])).2.1
  refine .nsmap b z k kd ents clock es (hr.mono hk hs) (hs _ hS) ((hk _ hS).trans hg) fun i ent kv h1 h2=>?_
  obtain ⟨xs,h3,h4⟩:=hn i ent kv h1 h2
  exact ⟨xs,h3,by rw [this];exact h4.mono hk hs⟩
 | agg vs cs hl _ ih =>
  refine fun ha=>.agg vs cs hl fun i c hc=>ih i c hc fun id hid=>ha id ?_
  by_cases hx:V.has id (.agg cs)=true
  ·exact hx
  ·simp only [V.has,Bool.not_eq_true] at hx
   have:=V.hasL_mem (xB hc) hx
   rw [this] at hid;cases hid
 | tup vs cs hl _ ih =>
  refine fun ha=>.tup vs cs hl fun i c hc=>ih i c hc fun id hid=>ha id ?_
  by_cases hx:V.has id (.tup cs)=true
  ·exact hx
  ·simp only [V.has,Bool.not_eq_true] at hx
   have:=V.hasL_mem (xB hc) hx
   rw [this] at hid;cases hid
 | fn f vs cs hl _ ih =>
  refine fun ha=>.fn f vs cs hl fun i c hc=>ih i c hc fun id hid=>ha id ?_
  by_cases hx:V.has id (.fn (.func f) cs)=true
  ·exact hx
  ·simp only [V.has,Bool.not_eq_true] at hx
   have:=V.hasL_mem (xB hc) hx
   rw [this] at hid;cases hid
 | bnd n vs cs hl _ ih =>
  refine fun ha=>.bnd n vs cs hl fun i c hc=>ih i c hc fun id hid=>ha id ?_
  by_cases hx:V.has id (.fn (.yield n) cs)=true
  ·exact hx
  ·simp only [V.has,Bool.not_eq_true] at hx
   have:=V.hasL_mem (xB hc) hx
   rw [this] at hid;cases hid
structure b3q (S:Nat→Prop) (w:World) (kd:KD) (ents:List MapEntry) (es:List (V×V)):Prop where
 len:ents.length=es.length
 key:∀kv∈es,kd.is kv.1=true
 rd:∀(i:Nat) (ent:MapEntry) (kv:V×V),ents[i]?=some ent→es[i]?=some kv→Rd S w ent.key kv.1∧Rd S w ent.val kv.2
def b8l (S:Nat→Prop) (w:World) (b:Nat) (rem:List (V×V)) (cur:Option (V×V)):Prop :=
 (∃x y z,w.heap[b]?=some (.mapIter none x y z)∧rem=[]∧cur=none) ∨
 ∃m clock seen ents,w.heap[b]?=some (.mapIter (some m) clock seen clock)∧S m∧w.heap[m]?=some (.map ents clock)∧(∀ent∈ents.toList,ent.born<clock)∧(ents.toList.map (·.born)).Nodup ∧
  (ents.toList.filter fun e=>!seen.contains e.born).length=rem.length ∧
  (∀(i:Nat) (ent:MapEntry) (kv:V×V),(ents.toList.filter fun e=>!seen.contains e.born)[i]?=some ent→rem[i]?=some kv→Rd S w ent.key kv.1∧Rd S w ent.val kv.2) ∧
  ∀kv,cur=some kv→∃ent∈ents.toList,seen.back?=some ent.born∧Rd S w ent.key kv.1∧Rd S w ent.val kv.2
def OR (g:Gh) (w:World) (id:Nat):a0c→Prop
 | .cells cs t=>¬g.nil id∧∃(cur:Array Value) (e:TypeId) (fz:Nat×Nat),w.heap[g.ρ id]?=some (.cells cur e fz)∧cur.size=cs.length∧(a3d fz cur.size∧c2m t e fz) ∧
   ∀(i:Nat) (c:V),cs[i]?=some c→VR g w (cur.getD i undef) c
 | .arr k xs t=>(g.nil id∧xs=[])∨(¬g.nil id∧b3r g.S w (g.ρ id) (g.base id) (g.cap id) k xs t)
 | .map kd es=>¬g.nil id∧∃(ents:Array MapEntry) (clock:Nat),w.heap[g.ρ id]?=some (.map ents clock)∧b3q g.S w kd ents.toList es∧(∀ent∈ents.toList,ent.born<clock)∧(ents.toList.map (·.born)).Nodup
 | .iter rem cur=>¬g.nil id∧b8l g.S w (g.ρ id) rem cur
 | .mark=>g.nil id∧∀b,(g.base id).testBit b=true→g.S b
 | .nmap z k kd es=>¬g.nil id∧∃(ents:Array MapEntry) (clock:Nat),w.heap[g.ρ id]?=some (.map ents clock)∧b3q g.S w kd ents.toList es∧(∀ent∈ents.toList,ent.born<clock)∧(ents.toList.map (·.born)).Nodup ∧
   (∀(i:Nat) (ent:MapEntry) (kv:V×V),ents[i]?=some ent→es[i]?=some kv→∃xs,kv.2=.sl xs∧a7g g.S (g.base z) k w ent.val xs)∧∀b,(g.base z).testBit b=true→g.S b
abbrev Heap:=List (Nat×a0c)
def find {α:Type} (n:Nat):List (Nat×α)→Option α
 | []=>none
 | (m,x)::r=>bif Nat.beq n m then some x else find n r
def put {α:Type} (n:Nat) (x:α):List (Nat×α)→List (Nat×α)
 | []=>[(n,x)]
 | (m,y)::r=>bif Nat.beq n m then (m,x)::r else (m,y)::put n x r
def del {α:Type} (n:Nat):List (Nat×α)→List (Nat×α)
 | []=>[]
 | (m,y)::r=>bif Nat.beq n m then del n r else (m,y)::del n r
theorem a0s {α:Type} (n m:Nat) (x:α):∀l:List (Nat×α),find m (put n x l)=if m=n then some x else find m l
 | []=>by
  by_cases h:m=n
  ·subst h;simp [put,find,cond_eq_ite,vP]
  ·simp [put,find,cond_eq_ite,vP,h]
 | (q,y)::r=>by
  have ih:=a0s n m x r
  by_cases hq:n=q
  ·subst hq
   by_cases h:m=n
   ·subst h;simp [put,find,cond_eq_ite,vP]
   ·simp [put,find,cond_eq_ite,vP,h]
  ·by_cases h:m=q
   ·subst h
    have hne:m≠n:=fun e=>hq e.symm
    simp [put,find,cond_eq_ite,vP,hq,hne]
   ·simp [put,find,cond_eq_ite,vP,hq,h,ih]
theorem c27 {α:Type} (n m:Nat):∀l:List (Nat×α),find m (del n l)=if m=n then none else find m l
 | []=>by simp [del,find]
 | (q,y)::r=>by
  have ih:=c27 n m r
  by_cases hq:n=q
  ·subst hq
   by_cases h:m=n
   ·subst h;simp [del,cond_eq_ite,vP,ih]
   ·simp [del,find,cond_eq_ite,vP,h,ih]
  ·by_cases h:m=q
   ·subst h
    have hne:m≠n:=fun e=>hq e.symm
    simp [del,find,cond_eq_ite,vP,hq,hne]
   ·simp [del,find,cond_eq_ite,vP,hq,h,ih]
theorem mem_of_find {α:Type} {n:Nat} {x:α}:∀{l:List (Nat×α)},find n l=some x→(n,x)∈l
 | (m,y)::r,h=>by
  by_cases e:n=m
  ·subst e
   simp [find,cond_eq_ite,vP] at h
   subst h;simp
  ·simp only [find,cond_eq_ite,vP,e,if_false] at h
   exact xD _ (mem_of_find h)
structure St where
 env:List (Nat×V)
 heap:Heap
def b8w:List (String×IntKind×List Int):=[
 ("internal/strconv.uint64pow10",.u64,[1,10,100,1000,10000,100000,1000000,10000000,100000000,1000000000,10000000000,100000000000,1000000000000,10000000000000,100000000000000,1000000000000000,10000000000000000,100000000000000000,1000000000000000000,10000000000000000000]),
 ("leakresponse/severity.levels",.i64,[1,100,1000,10000]),
 ("leakresponse/notice.deadlines",.i64,[40,16,4,1])]
def b7u:List String:=["strconv.ErrSyntax", "strconv.ErrRange"]
def f0s (P:Program) (w:World):Prop:=(∀d∈b8w,(P.globalNamed d.1).isSome=true→Lib.TabIs P w d.1 d.2.1 d.2.2)∧∀n∈b7u,(P.globalNamed n).isSome=true→∃tp p,World.var? P w n=some #[.iface tp p]
structure a2l (P:Program) (g:Gh) (w:World) (H:Heap):Prop where
 obj:∀id o,find id H=some o→OR g w id o
 inj:∀i j o o',find i H=some o→find j H=some o'→¬g.nil i→¬g.nil j→g.ρ i=g.ρ j→i=j
 sep:∀id o,find id H=some o→¬g.nil id→¬g.S (g.ρ id)
 lt:∀b,g.S b→b<w.heap.size
 tabs:∀w',a1o g.S w w'→f0s P w'
structure Ctx where
 w0:World
 g0:Gh
 H0:Heap
 nt:Nat
 dfr:List Deferred
 kp:List (Nat×Obj)
 hm:Heap
 gp:Gh
 wp:World
def Ctx.M (c:Ctx) (b:Nat):Prop:=∃id o,find id c.hm=some o∧¬c.g0.nil id∧c.g0.ρ id=b
def Ctx.free (c:Ctx) (b:Nat):Prop:=∀o,(b,o)∉c.kp
def Dfr (c:Ctx) (w:World) (ds:List Deferred):Prop :=
 ds=c.dfr∧(∀b o,(b,o)∈c.kp→(c.w0.heap.size≤b∨c.M b)∧w.heap[b]?=some o)∧a1o c.gp.S c.wp w
structure Frm (c:Ctx) (g:Gh) (w:World) (H:Heap):Prop where
 os:w.os=c.w0.os
 tape:w.tape=c.w0.tape
 output:w.output=c.w0.output
 size:c.w0.heap.size≤w.heap.size
 old:∀b,b<c.w0.heap.size→¬c.M b→w.heap[b]?=c.w0.heap[b]?
 own:∀id o,find id H=some o→¬g.nil id→(c.w0.heap.size≤g.ρ id∨c.M (g.ρ id))∧c.free (g.ρ id)
 sup:∀b,c.g0.S b∨c.gp.S b→g.S b
 sub:∀b,g.S b→(c.g0.S b∨c.w0.heap.size≤b∨c.M b)∧c.free b
 par:∀id o,find id c.H0=some o→c.gp.agree g id
structure Rel (P:Program) (c:Ctx) (g:Gh) (σ:St) (a:Act) (w:World):Prop where
 size:a.tmps.size=c.nt
 dfr:Dfr c w a.defers
 env:∀s x,find s σ.env=some x→s<c.nt∧VR g w (a.tmps.getD s undef) x
 hp:a2l P g w σ.heap
 fr:Frm c g w σ.heap
structure Eff where
 val:V
 drop:List Nat
 new:List (Nat×a0c)
def c83:List Nat→Heap→Heap
 | [],H=>H
 | n::r,H=>c83 r (del n H)
def puts:List (Nat×a0c)→Heap→Heap
 | [],H=>H
 | (n,o)::r,H=>puts r (put n o H)
def Eff.heap (e:Eff) (H:Heap):Heap:=puts e.new (c83 e.drop H)
def c2u (d:Option Nat) (x:V) (env:List (Nat×V)):List (Nat×V) :=
 match d with
 | some d=>put d x env
 | none=>env
def St.app (σ:St) (d:Option Nat) (e:Eff):St:=⟨c2u d e.val σ.env,e.heap σ.heap⟩
theorem a4p (m:Nat):∀(l:List Nat) (H:Heap),find m (c83 l H)=if m∈l then none else find m H
 | [],H=>by simp [c83]
 | n::r,H=>by
  rw [c83,a4p m r,c27]
  by_cases h1:m∈r<;>by_cases h2:m=n<;>simp [h1,h2]
theorem a1h {m:Nat}:∀{l:List (Nat×a0c)} {H:Heap},(∀o,(m,o)∉l)→find m (puts l H)=find m H
 | [],H,_=>rfl
 | (n,o)::r,H,h=>by
  rw [puts,a1h (fun o ho=>h o (xD _ ho)),a0s]
  have:m≠n:=fun e=>h o (by rw [e];exact xJ)
  simp [this]
theorem a8x {m:Nat} {o:a0c}:∀{l:List (Nat×a0c)} {H:Heap},find m (puts l H)=some o→(∃o',(m,o')∈l)→(m,o)∈l
 | [],H,_,⟨_,h⟩=>by cases h
 | (n,o1)::r,H,h,⟨o',hm⟩=>by
  rw [puts] at h
  by_cases hr:∃o'',(m,o'')∈r
  ·exact xD _ (a8x h hr)
  ·rw [a1h (fun o ho=>hr ⟨o,ho⟩),a0s] at h
   rcases w4.1 hm with hm|hm
   ·cases hm
    simp at h;subst h;exact xJ
   ·exact absurd ⟨_,hm⟩ hr
def Eff.ids (e:Eff):List Nat:=e.drop++e.new.map (·.1)
theorem Eff.find_other {e:Eff} {H:Heap} {id:Nat} (h:id∉e.ids):find id (e.heap H)=find id H:=by
 simp only [Eff.ids,wN,not_or,vG,not_exists,not_and] at h
 rw [Eff.heap,a1h (fun o ho=>h.2 _ ho rfl),a4p,if_neg h.1]
theorem Eff.find_cases {e:Eff} {H:Heap} {id:Nat} {o:a0c} (h:find id (e.heap H)=some o):(id,o)∈e.new∨(id∉e.ids∧find id H=some o):=by
 by_cases hn:∃o',(id,o')∈e.new
 ·exact .inl (a8x h hn)
 ·rw [Eff.heap,a1h (fun o ho=>hn ⟨o,ho⟩),a4p] at h
  by_cases hd:id∈e.drop
  ·simp [hd] at h
  ·refine .inr ⟨?_,by simpa [hd] using h⟩
   simp only [Eff.ids,wN,not_or,vG,not_exists,not_and]
   exact ⟨hd,fun p hp he=>hn ⟨p.2,by rw [←he];exact hp⟩⟩
def a5z (n:Nat):List (Nat×V)→Bool
 | []=>true
 | (_,x)::r=>!x.has n&&a5z n r
def a0z (n:Nat):Heap→Bool
 | []=>true
 | (_,x)::r=>!x.has n&&a0z n r
theorem a2p {n s:Nat} {x:V}:∀{l:List (Nat×V)},a5z n l=true→find s l=some x→x.has n=false:=by
 intro l h hf
 have hm:=mem_of_find hf
 clear hf
 induction l with
 | nil=>cases hm
 | cons p r ih =>
  obtain ⟨m,y⟩:=p
  simp only [a5z,wG,xX] at h
  rcases w4.1 hm with hm|hm
  ·cases hm;exact h.1
  ·exact ih h.2 hm
theorem a2o {n s:Nat} {x:a0c}:∀{l:Heap},a0z n l=true→find s l=some x→x.has n=false:=by
 intro l h hf
 have hm:=mem_of_find hf
 clear hf
 induction l with
 | nil=>cases hm
 | cons p r ih =>
  obtain ⟨m,y⟩:=p
  simp only [a0z,wG,xX] at h
  rcases w4.1 hm with hm|hm
  ·cases hm;exact h.1
  ·exact ih h.2 hm
theorem b3r.mono {S S':Nat→Prop} {w w':World} {b base cap k:Nat} {xs:List V} {t:Option TypeId} (h:b3r S w b base cap k xs t) (hk:a1o S w w') (hs:∀b,S b→S' b) (hb:w'.heap[b]?=w.heap[b]?) :
  b3r S' w' b base cap k xs t:=by
 obtain ⟨hp,⟨cur,e,fz,h1,h2,h3,h4⟩,h5,h6,h7⟩:=h
 exact ⟨hp,⟨cur,e,fz,hb.trans h1,h2,h3,fun i j x c hx hc=>(h4 i j x c hx hc).mono hk hs⟩,h5,h6,h7⟩
theorem b3q.mono {S S':Nat→Prop} {w w':World} {kd:KD} {ents:List MapEntry} {es:List (V×V)} (h:b3q S w kd ents es) (hk:a1o S w w') (hs:∀b,S b→S' b):b3q S' w' kd ents es :=
 ⟨h.len,h.key,fun i ent kv hi hj=>⟨(h.rd i ent kv hi hj).1.mono hk hs,(h.rd i ent kv hi hj).2.mono hk hs⟩⟩
theorem b8l.mono {S S':Nat→Prop} {w w':World} {b:Nat} {rem:List (V×V)} {cur:Option (V×V)} (h:b8l S w b rem cur) (hk:a1o S w w') (hs:∀b,S b→S' b) (hb:w'.heap[b]?=w.heap[b]?):b8l S' w' b rem cur:=by
 rcases h with ⟨x,y,z,h1,h2⟩|⟨m,clock,seen,ents,h1,h2,h3,h4,h5,h6,h7,h8⟩
 ·exact .inl ⟨x,y,z,hb.trans h1,h2⟩
 ·refine .inr ⟨m,clock,seen,ents,hb.trans h1,hs _ h2,(hk _ h2).trans h3,h4,h5,h6,fun i ent kv hi hj=>⟨(h7 i ent kv hi hj).1.mono hk hs,(h7 i ent kv hi hj).2.mono hk hs⟩,fun kv hc=>?_⟩
  obtain ⟨ent,k1,k2,k3,k4⟩:=h8 kv hc
  exact ⟨ent,k1,k2,k3.mono hk hs,k4.mono hk hs⟩
theorem OR.mono {g g':Gh} {w w':World} {id:Nat} {o:a0c} (h:OR g w id o) (hk:a1o g.S w w') (hs:∀b,g.S b→g'.S b)
  (hid:g.agree g' id) (hb:¬g.nil id→w'.heap[g.ρ id]?=w.heap[g.ρ id]?) (hr:∀n,o.has n=true→g.agree g' n) (hz:w.heap.size≤w'.heap.size):OR g' w' id o:=by
 obtain ⟨e1,e2,e3,e4⟩:=hid
 cases o with
 | cells cs t =>
  obtain ⟨hn,cur,e,fz,h1,h2,h3,h4⟩:=h
  refine ⟨fun h=>hn (e4.1 h),cur,e,fz,by rw [e1,hb hn];exact h1,h2,h3,fun i c hc=>(h4 i c hc).mono hk hs fun n hn=>hr n ?_⟩
  by_cases hx:a0c.has n (.cells cs t)=true
  ·exact hx
  ·simp only [a0c.has,Bool.not_eq_true] at hx
   have:=V.hasL_mem (xB hc) hx
   rw [this] at hn;cases hn
 | arr k xs t =>
  rcases h with ⟨hn,hx⟩|⟨hn,ha⟩
  ·exact .inl ⟨e4.2 hn,hx⟩
  ·refine .inr ⟨fun h=>hn (e4.1 h),?_⟩
   rw [e1,e2,e3];exact ha.mono hk hs (hb hn)
 | map kd es =>
  obtain ⟨hn,ents,clock,h1,h2,h3⟩:=h
  exact ⟨fun h=>hn (e4.1 h),ents,clock,by rw [e1,hb hn];exact h1,h2.mono hk hs,h3⟩
 | iter rem cur =>
  obtain ⟨hn,h1⟩:=h
  refine ⟨fun h=>hn (e4.1 h),?_⟩
  rw [e1];exact h1.mono hk hs (hb hn)
 | mark =>
  obtain ⟨h1,h2⟩:=h
  exact ⟨e4.2 h1,fun b hb=>hs b (h2 b (by rw [←e2];exact hb))⟩
 | nmap z k kd es =>
  obtain ⟨hn,ents,clock,h1,h2,h3,h4,h5,h6⟩:=h
  have ez:=(hr z (by simp [a0c.has])).2.1
  refine ⟨fun h=>hn (e4.1 h),ents,clock,by rw [e1,hb hn];exact h1,h2.mono hk hs,h3,h4,fun i ent kv hi hj=>?_,fun b hb=>hs b (h6 b (by rw [←ez];exact hb))⟩
  obtain ⟨xs,k1,k2⟩:=h5 i ent kv hi hj
  exact ⟨xs,k1,by rw [ez];exact k2.mono hk hs⟩
theorem OR.block {g:Gh} {w:World} {id:Nat} {o:a0c} (h:OR g w id o) (hn:¬g.nil id):g.ρ id<w.heap.size:=by
 have hlt:∀{o:Obj},w.heap[g.ρ id]?=some o→g.ρ id<w.heap.size:=fun h=>(zF.1 h).1
 cases o with
 | cells cs t=>obtain ⟨_,cur,e,fz,h1,_⟩:=h;exact hlt h1
 | arr k xs t =>
  rcases h with ⟨h,_⟩|⟨_,_,⟨cur,e,fz,h1,_⟩,_⟩
  ·exact absurd h hn
  ·exact hlt h1
 | map kd es=>obtain ⟨_,ents,clock,h1,_⟩:=h;exact hlt h1
 | iter rem cur =>
  obtain ⟨_,h1⟩:=h
  rcases h1 with ⟨x,y,z,h1,_⟩|⟨m,clock,seen,ents,h1,_⟩<;>exact hlt h1
 | mark=>exact absurd h.1 hn
 | nmap z k kd es=>obtain ⟨_,ents,clock,h1,_⟩:=h;exact hlt h1
structure a07 (g:Gh) (H:Heap) (w:World) (e:Eff) (g':Gh) (w':World):Prop where
 os:w'.os=w.os
 tape:w'.tape=w.tape
 output:w'.output=w.output
 size:w.heap.size≤w'.heap.size
 keep:∀b,b<w.heap.size→(∀id o,id∈e.ids→find id H=some o→¬g.nil id→g.ρ id≠b)→w'.heap[b]?=w.heap[b]?
 sup:∀b,g.S b→g'.S b
 sub:∀b,g'.S b→g.S b∨w.heap.size≤b∨∃id o,id∈e.ids∧find id H=some o∧¬g.nil id∧g.ρ id=b
 slt:∀b,g'.S b→b<w'.heap.size
 agree:∀id,(∀o,(id,o)∉e.new)→g.agree g' id
 obj:∀id o,(id,o)∈e.new→OR g' w' id o
 blk:∀id o,(id,o)∈e.new→¬g'.nil id→w.heap.size≤g'.ρ id∨∃id0 o0,id0∈e.ids∧find id0 H=some o0∧¬g.nil id0∧g.ρ id0=g'.ρ id
 inj:∀i j o o',(i,o)∈e.new→(j,o')∈e.new→¬g'.nil i→¬g'.nil j→g'.ρ i=g'.ρ j→i=j
 sep:∀id o,(id,o)∈e.new→¬g'.nil id→¬g'.S (g'.ρ id)
def a0v (H0:Heap) (g g':Gh) (σ:St) (e:Eff):Prop :=
 ∀id o,(id,o)∈e.new→g.agree g' id∨(find id H0=none∧(∀s x,find s σ.env=some x→x.has id=false)∧∀n o',find n σ.heap=some o'→n∉e.ids→o'.has id=false)
theorem a2l.step {P:Program} {H0:Heap} {g g':Gh} {σ:St} {w w':World} {e:Eff} (h:a2l P g w σ.heap) (hs:a07 g σ.heap w e g' w') (hf:a0v H0 g g' σ e) :
  a1o g.S w w'∧a2l P g' w' (e.heap σ.heap)∧(∀v x,VR g w v x→(∃s,find s σ.env=some x)→VR g' w' v x):=by
 have hkeep:a1o g.S w w':=fun b hb=>hs.keep b (h.lt b hb) fun id o _ ho hn he=>h.sep id o ho hn (he▸hb)
 have hag:∀id,(∀o,(id,o)∉e.new)∨g.agree g' id∨((∀s x,find s σ.env=some x→x.has id=false)∧∀n o',find n σ.heap=some o'→n∉e.ids→o'.has id=false):=by
  intro id
  by_cases hn:∃o,(id,o)∈e.new
  ·obtain ⟨o,ho⟩:=hn
   rcases hf id o ho with h1|h1
   ·exact .inr (.inl h1)
   ·exact .inr (.inr h1.2)
  ·exact .inl fun o ho=>hn ⟨o,ho⟩
 refine ⟨hkeep,⟨?_,?_,?_,hs.slt,fun w2 hw2=>h.tabs w2 fun b hb=>(hw2 b (hs.sup b hb)).trans (hkeep b hb)⟩,?_⟩
 ·intro id o ho
  rcases Eff.find_cases ho with hn|⟨hid,ho⟩
  ·exact hs.obj id o hn
  ·have hnew:∀o',(id,o')∉e.new:=fun o' ho'=>hid (by
    simp only [Eff.ids,wN,vG]
    exact .inr ⟨_,ho',rfl⟩)
   refine (h.obj id o ho).mono hkeep hs.sup (hs.agree id hnew) (fun hn=>hs.keep _ ((h.obj id o ho).block hn) fun id0 o0 hid0 ho0 hn0 he=>?_) (fun n hn=>?_) hs.size
   ·exact hid (h.inj id0 id o0 o ho0 ho hn0 hn he▸hid0)
   ·rcases hag n with h1|h1|h1
    ·exact hs.agree n h1
    ·exact h1
    ·rw [h1.2 id o ho hid] at hn;cases hn
 ·intro i j o o' hi hj hni hnj he
  rcases Eff.find_cases hi with hi|⟨hii,hi⟩<;>rcases Eff.find_cases hj with hj|⟨hjj,hj⟩
  ·exact hs.inj i j o o' hi hj hni hnj he
  ·have hnew:∀o',(j,o')∉e.new:=fun o' ho'=>hjj (by simp only [Eff.ids,wN,vG];exact .inr ⟨_,ho',rfl⟩)
   obtain ⟨a1,_,_,a4⟩:=hs.agree j hnew
   have hnj':¬g.nil j:=fun h=>hnj (a4.2 h)
   have hb:=(h.obj j o' hj).block hnj'
   rcases hs.blk i o hi hni with h1|⟨id0,o0,hid0,ho0,hn0,he0⟩
   ·rw [he,a1] at h1;omega
   ·exact absurd (h.inj id0 j o0 o' ho0 hj hn0 hnj' (by rw [he0,he,a1])) (fun e1=>hjj (e1▸hid0))
  ·have hnew:∀o',(i,o')∉e.new:=fun o' ho'=>hii (by simp only [Eff.ids,wN,vG];exact .inr ⟨_,ho',rfl⟩)
   obtain ⟨a1,_,_,a4⟩:=hs.agree i hnew
   have hni':¬g.nil i:=fun h=>hni (a4.2 h)
   have hb:=(h.obj i o hi).block hni'
   rcases hs.blk j o' hj hnj with h1|⟨id0,o0,hid0,ho0,hn0,he0⟩
   ·rw [←he,a1] at h1;omega
   ·exact absurd (h.inj id0 i o0 o ho0 hi hn0 hni' (by rw [he0,←he,a1])) (fun e1=>hii (e1▸hid0))
  ·have hnew:∀k,k∉e.ids→∀o',(k,o')∉e.new:=fun k hk o' ho'=>hk (by simp only [Eff.ids,wN,vG];exact .inr ⟨_,ho',rfl⟩)
   obtain ⟨a1,_,_,a4⟩:=hs.agree i (hnew i hii)
   obtain ⟨b1,_,_,b4⟩:=hs.agree j (hnew j hjj)
   exact h.inj i j o o' hi hj (fun h=>hni (a4.2 h)) (fun h=>hnj (b4.2 h)) (by rw [←a1,←b1];exact he)
 ·intro id o ho hn hS
  rcases Eff.find_cases ho with hnew|⟨hid,ho⟩
  ·exact hs.sep id o hnew hn hS
  ·have hnew:∀o',(id,o')∉e.new:=fun o' ho'=>hid (by simp only [Eff.ids,wN,vG];exact .inr ⟨_,ho',rfl⟩)
   obtain ⟨a1,_,_,a4⟩:=hs.agree id hnew
   have hn':¬g.nil id:=fun h=>hn (a4.2 h)
   rw [a1] at hS
   rcases hs.sub _ hS with h1|h1|⟨id0,o0,hid0,ho0,hn0,he0⟩
   ·exact h.sep id o ho hn' h1
   ·have:=(h.obj id o ho).block hn';omega
   ·exact hid (h.inj id0 id o0 o ho0 ho hn0 hn' he0▸hid0)
 ·intro v x hv ⟨s,hx⟩
  refine hv.mono hkeep hs.sup fun id hid=>?_
  rcases hag id with h1|h1|h1
  ·exact hs.agree id h1
  ·exact h1
  ·rw [h1.1 s x hx] at hid;cases hid
theorem Dfr.step {c:Ctx} {g g':Gh} {σ:St} {w w':World} {e:Eff} {ds:List Deferred} (h:Dfr c w ds) (hf:Frm c g w σ.heap) (hk:a1o g.S w w') (hs:a07 g σ.heap w e g' w'):Dfr c w' ds :=
 ⟨h.1,fun b o hb=>⟨(h.2.1 b o hb).1,(hs.keep b (zF.1 (h.2.1 b o hb).2).1 fun id o' _ ho hn e=>(hf.own id o' ho hn).2 o (e▸hb)).trans (h.2.1 b o hb).2⟩,
  fun b hb=>(hk b (hf.sup b (.inr hb))).trans (h.2.2 b hb)⟩
theorem Frm.step {c:Ctx} {g g':Gh} {σ:St} {w w':World} {e:Eff} {ds:List Deferred} (hd:Dfr c w ds) (hf:Frm c g w σ.heap) (hs:a07 g σ.heap w e g' w') (hfr:a0v c.H0 g g' σ e):Frm c g' w' (e.heap σ.heap):=by
 have new:∀b,w.heap.size≤b→c.free b:=fun b hb o hm=>by
  have:=(zF.1 (hd.2.1 b o hm).2).1
  omega
 refine ⟨hs.os.trans hf.os,hs.tape.trans hf.tape,hs.output.trans hf.output,vD hf.size hs.size,?_,?_,fun b hb=>hs.sup b (hf.sup b hb),?_,?_⟩
 ·intro b hb hM
  refine (hs.keep b (xH hb hf.size) fun id o _ ho hn he=>?_).trans (hf.old b hb hM)
  rcases (hf.own id o ho hn).1 with h1|h1
  ·omega
  ·exact hM (he▸h1)
 ·intro id o ho hn
  rcases Eff.find_cases ho with hnew|⟨hid,ho⟩
  ·rcases hs.blk id o hnew hn with h1|⟨id0,o0,hid0,ho0,hn0,he0⟩
   ·exact ⟨.inl (vD hf.size h1),new _ h1⟩
   ·rw [←he0];exact hf.own id0 o0 ho0 hn0
  ·have hnew:∀o',(id,o')∉e.new:=fun o' ho'=>hid (by simp only [Eff.ids,wN,vG];exact .inr ⟨_,ho',rfl⟩)
   obtain ⟨a1,_,_,a4⟩:=hs.agree id hnew
   rw [a1];exact hf.own id o ho fun h=>hn (a4.2 h)
 ·intro b hb
  rcases hs.sub b hb with h1|h1|⟨id0,o0,hid0,ho0,hn0,he0⟩
  ·exact hf.sub b h1
  ·exact ⟨.inr (.inl (vD hf.size h1)),new _ h1⟩
  ·rw [←he0];exact ⟨.inr (hf.own id0 o0 ho0 hn0).1,(hf.own id0 o0 ho0 hn0).2⟩
 ·intro id o1 hid
  refine (hf.par id o1 hid).trans ?_
  by_cases hn:∃o,(id,o)∈e.new
  ·obtain ⟨o,ho⟩:=hn
   rcases hfr id o ho with h1|h1
   ·exact h1
   ·rw [hid] at h1;cases h1.1
  ·exact hs.agree id fun o ho=>hn ⟨o,ho⟩
theorem Rel.step {P:Program} {c:Ctx} {g g':Gh} {σ:St} {a:Act} {w w':World} {d:Option Nat} {v:Value} {e:Eff} (h:Rel P c g σ a w) (hd:∀n,d=some n→n<c.nt)
  (hs:a07 g σ.heap w e g' w') (hf:a0v c.H0 g g' σ e) (hv:VR g' w' v e.val):Rel P c g' (σ.app d e) (a.put d v) w':=by
 obtain ⟨hk,hH,hV⟩:=h.hp.step hs hf
 refine ⟨?_,?_,?_,hH,h.fr.step h.dfr hs hf⟩
 ·cases d<;>simp [Act.put,h.size]
 ·have:=h.dfr.step h.fr hk hs
  cases d<;>exact this
 ·intro s x hx
  cases d with
  | none =>
   obtain ⟨h1,h2⟩:=h.env s x hx
   exact ⟨h1,hV _ _ h2 ⟨s,hx⟩⟩
  | some d =>
   simp only [St.app,c2u,a0s] at hx
   have hdn:=hd d rfl
   by_cases e1:s=d
   ·subst e1
    simp at hx;subst hx
    refine ⟨hdn,?_⟩
    have hlt:s<a.tmps.size:=by rw [h.size];exact hdn
    simpa [Act.put,zC,hlt] using hv
   ·simp only [e1,if_false] at hx
    obtain ⟨h1,h2⟩:=h.env s x hx
    have hne:¬d=s:=fun e=>e1 e.symm
    refine ⟨h1,?_⟩
    have:=hV _ _ h2 ⟨s,hx⟩
    simpa [Act.put,zC,zA hne] using this
theorem a07.val {g:Gh} {H:Heap} {w w':World} (x:V) (hlt:∀b,g.S b→b<w.heap.size) (h1:w'.os=w.os) (h2:w'.tape=w.tape) (h3:w'.output=w.output) (h4:w'.heap=w.heap) :
  a07 g H w ⟨x,[],[]⟩ g w' :=
 ⟨h1,h2,h3,by rw [h4];exact vL _,fun b _ _=>by rw [h4],fun _ h=>h,fun b hb=>.inl hb,fun b hb=>by rw [h4];exact hlt b hb,
  fun id _=>Gh.agree.refl _ _,fun _ _ h=>by simp at h,fun _ _ h=>by simp at h,fun _ _ _ _ h=>by simp at h,fun _ _ h=>by simp at h⟩
theorem a0v.val {H0:Heap} {g:Gh} {σ:St} (x:V):a0v H0 g g σ ⟨x,[],[]⟩:=fun _ _ h=>by simp at h
theorem Rel.put {P:Program} {c:Ctx} {g:Gh} {σ:St} {a:Act} {w:World} {d:Option Nat} {v:Value} {x:V} (h:Rel P c g σ a w) (hd:∀n,d=some n→n<c.nt) (hv:VR g w v x) :
  Rel P c g (σ.app d ⟨x,[],[]⟩) (a.put d v) w :=
 h.step hd (a07.val x h.hp.lt rfl rfl rfl rfl) (a0v.val x) hv
def Gh.set (g:Gh) (n b base cap:Nat):Gh :=
 { g with ρ:=fun i=>if i=n then b else g.ρ i,base:=fun i=>if i=n then base else g.base i,cap:=fun i=>if i=n then cap else g.cap i,nil:=fun i=>i≠n∧g.nil i }
theorem Gh.set_agree {g:Gh} {n b base cap i:Nat} (h:i≠n):g.agree (g.set n b base cap) i:=by
 simp [Gh.agree,Gh.set,h]
theorem a07.alloc {g:Gh} {H:Heap} {w w':World} (x:V) (n base cap:Nat) (o:a0c) (B:Obj) (hlt:∀b,g.S b→b<w.heap.size) (h1:w'.os=w.os) (h2:w'.tape=w.tape) (h3:w'.output=w.output) (h4:w'.heap=w.heap.push B)
  (ho:OR (g.set n w.heap.size base cap) w' n o):a07 g H w ⟨x,[],[(n,o)]⟩ (g.set n w.heap.size base cap) w':=by
 have hsz:w'.heap.size=w.heap.size+1:=by rw [h4];simp
 refine ⟨h1,h2,h3,by omega,fun b hb _=>?_,fun _ h=>h,fun b hb=>.inl hb,fun b hb=>by have:=hlt b hb;omega,fun id hid=>Gh.set_agree fun e=>hid o (by simp [e]),?_,?_,?_,?_⟩
 ·rw [h4,Array.getElem?_push,if_neg (by omega)]
 ·intro id o' h;simp at h;obtain ⟨rfl,rfl⟩:=h;exact ho
 ·intro id o' h _;simp at h;obtain ⟨rfl,rfl⟩:=h;exact .inl (by simp [Gh.set])
 ·intro i j o1 o2 hi hj;simp at hi hj;intro _ _ _;rw [hi.1,hj.1]
 ·intro id o' h _ hS
  simp at h;obtain ⟨rfl,rfl⟩:=h
  have:(g.set id w.heap.size base cap).ρ id=w.heap.size:=by simp [Gh.set]
  rw [this] at hS
  have:=hlt _ hS
  omega
theorem a0v.one {H0:Heap} {g g':Gh} {σ:St} {x:V} {n:Nat} {o:a0c} {dr:List Nat} (hn:find n H0=none) (he:a5z n σ.env=true) (hh:∀m o',find m σ.heap=some o'→m∉(Eff.mk x dr [(n,o)]).ids→o'.has n=false):a0v H0 g g' σ ⟨x,dr,[(n,o)]⟩:=by
 intro id o' h
 simp at h;obtain ⟨rfl,rfl⟩:=h
 exact .inr ⟨hn,fun s x hx=>a2p he hx,hh⟩
theorem a07.upd {P:Program} {g:Gh} {H:Heap} {w w':World} (x:V) (n:Nat) (o o':a0c) (hH:a2l P g w H) (hf:find n H=some o) (hn:¬g.nil n) (h1:w'.os=w.os) (h2:w'.tape=w.tape) (h3:w'.output=w.output) (h4:w'.heap.size=w.heap.size)
  (h5:∀b,b≠g.ρ n→w'.heap[b]?=w.heap[b]?) (ho:OR g w' n o'):a07 g H w ⟨x,[],[(n,o')]⟩ g w':=by
 refine ⟨h1,h2,h3,by omega,fun b hb hb'=>h5 b fun e=>hb' n o (by simp [Eff.ids]) hf hn e.symm,fun _ h=>h,fun b hb=>.inl hb,fun b hb=>by have:=hH.lt b hb;omega,fun id _=>Gh.agree.refl _ _,?_,?_,?_,?_⟩
 ·intro id o1 h;simp at h;obtain ⟨rfl,rfl⟩:=h;exact ho
 ·intro id o1 h _;simp at h;obtain ⟨rfl,rfl⟩:=h;exact .inr ⟨id,o,by simp [Eff.ids],hf,hn,rfl⟩
 ·intro i j o1 o2 hi hj;simp at hi hj;intro _ _ _;rw [hi.1,hj.1]
 ·intro id o1 h hn';simp at h;obtain ⟨rfl,rfl⟩:=h;exact hH.sep _ o hf hn'
theorem a0v.upd {H0:Heap} {g:Gh} {σ:St} (e:Eff):a0v H0 g g σ e:=fun _ _ _=>.inl (Gh.agree.refl _ _)
def callable (P:Program) (f:FuncId):Bool :=
 match P.funcs[f]? with
 | some fn=>!(fn.name == "runtime.NumGoroutine")&&fn.body.isSome
 | none=>false
def a0o (P:Program) (f:FuncId) (args:List V) (H:Heap) (Q:V→Heap→Prop):Prop :=
 callable P f=true∧∀(g:Gh) (w:World) (vals:Array Value),a2l P g w H→vals.size=args.length→(∀(i:Nat) (x:V),args[i]?=some x→VR g w (vals.getD i undef) x) →
  Calls P f vals w fun e w'=>∃v r H' g',e=.returned v∧Q r H'∧a2l P g' w' H'∧VR g' w' v r∧Frm ⟨w,g,H,0,[],[],H,g,w⟩ g' w' H' ∧
   (∀id,find id H'=none→g.agree g' id)
inductive Opd where
 | t (n:Nat)
 | c (v:V)
 | f (n:Nat)
def get (n:Nat):List (Nat×V)→V
 | []=>.any
 | (m,x)::r=>bif Nat.beq n m then x else get n r
theorem a1m (n:Nat):∀l:List (Nat×V),get n l=(find n l).getD .any
 | []=>rfl
 | (m,x)::r=>by
  have:=a1m n r
  simp only [get,find,cond_eq_ite]
  split<;>simp [this]
def Opd.ev (env:List (Nat×V)):Opd→V
 | .t n=>get n env
 | .c v=>v
 | .f n=>.fn (.func n) []
def kEq:IntKind→IntKind→Bool
 | .i8,.i8|.i16,.i16|.i32,.i32|.i64,.i64|.u8,.u8|.u16,.u16|.u32,.u32|.u64,.u64=>true
 | _,_=>false
theorem b0k {a b:IntKind} (h:kEq a b=true):a=b:=by cases a<;>cases b<;>first|rfl|(simp [kEq] at h)
def rng:IntKind→Int→Prop
 | .i8,n=>-128≤n∧n≤127
 | .i16,n=>-32768≤n∧n≤32767
 | .i32,n=>-2147483648≤n∧n≤2147483647
 | .i64,n=>-9223372036854775808≤n∧n≤9223372036854775807
 | .u8,n=>0≤n∧n≤255
 | .u16,n=>0≤n∧n≤65535
 | .u32,n=>0≤n∧n≤4294967295
 | .u64,n=>0≤n∧n≤18446744073709551615
theorem a1a {k:IntKind} {n:Int}:inR k n↔rng k n:=by
 cases k<;>simp [inR,rng,IntKind.min,IntKind.max,IntKind.signed,IntKind.bits]
mutual
def cOK:V→Value→Bool
 | .bool b,.bool b'=>b==b'
 | .int k n,.int k' n'=>kEq k k'&&(n==n')&&decide (k.min≤n)&&decide (n≤k.max)
 | .str s,.string s'=>(s==s'.data.toList)&&decide (s.length≤4611686018427387904)
 | .nils,.slice none 0 0=>true
 | .sl [],.slice none 0 0=>true
 | .nilp,.pointer none=>true
 | .nilm,.map none=>true
 | .nilf,.nilFunc=>true
 | .nili,.nilIface=>true
 | .ifc true,.nilIface=>true
 | .agg cs,.agg vs=>c8k cs vs.toList
 | _,_=>false
def c8k:List V→List Value→Bool
 | [],[]=>true
 | c::cs,v::vs=>cOK c v&&c8k cs vs
 | _,_=>false
end
def Opd.ok:Opd→Operand→Bool
 | .t n,.tmp m=>Nat.beq n m
 | .c v,.const u=>cOK v u
 | .f n,.func m=>Nat.beq n m
 | _,_=>false
def a8h:List Opd→List Operand→Bool
 | [],[]=>true
 | a::r,b::s=>a.ok b&&a8h r s
 | _,_=>false
def b5u:Option Opd→Option Operand→Bool
 | none,none=>true
 | some a,some b=>a.ok b
 | _,_=>false
inductive b8k where
 | mk (kd:KD)
 | lku (kd:KD) (ok:Bool) (z:V)
 | up (kd:KD)
 | del (kd:KD)
 | len
 | rng
 | nxt
 | ent
 | isn (ng:Bool)
 | tab (i:Nat)
 | ups (kd:KD)
 | ifz (ng:Bool)
 | apc (k bytes:Nat)
inductive a06 where
 | mv (x:Opd)
 | pick (c a b:Opd)
 | alloc (zs:List V) (t:Option TypeId:=none)
 | box (x:Opd)
 | build (zs:List V) (parts:List (Nat×Nat×Opd))
 | bslice (k:Nat) (xs:List Opd) (uv:Bool:=false)
 | ld (n:Option Nat) (a:Opd)
 | st (n:Nat) (a v:Opd)
 | nck (a:Opd)
 | bin (chk:Bool) (op:BinOp) (x y:Opd)
 | mask (m:Nat) (x:Opd) (k:IntKind)
 | beq (neg:Bool) (x y:Opd)
 | eqs (neg:Bool) (ks:List Nat) (x y:Opd)
 | not (x:Opd)
 | neg (chk:Bool) (x:Opd)
 | i2i (chk:Bool) (k:IntKind) (x:Opd)
 | mkfn (f:Nat) (cap:List Opd)
 | mksl (k bytes:Nat) (z:V) (l c:Opd)
 | slc (k:Nat) (x:Opd) (lo hi:Option Opd)
 | fad (off:Nat) (x:Opd)
 | iad (k:Nat) (x i:Opd)
 | idx (x i:Opd)
 | aix (n:Option Nat) (k cnt:Nat) (x i:Opd)
 | barr (k:Nat) (zs:List V) (xs:List Opd)
 | lsl (k:Nat) (xs:List Opd)
 | ext (i:Nat) (x:Opd)
 | len (s:Bool) (x:Opd)
 | app (k bytes:Nat) (x y:Opd) (ty:Option TypeId:=none)
 | mm (mx:Bool) (x y:Opd)
 | mp (m:b8k) (xs:List Opd)
 | call (f:Opd) (args:List Opd) (ids news:List Nat)
def a4i:Option Opd→List Opd
 | some x=>[x]
 | none=>[]
def a06.opds:a06→List Opd
 | .mv x|.box x|.ld _ x|.nck x|.mask _ x _|.not x|.neg _ x|.i2i _ _ x|.fad _ x|.ext _ x|.len _ x=>[x]
 | .pick c a b=>[c,a,b]
 | .alloc ..=>[]
 | .build _ ps=>ps.map fun p=>p.2.2
 | .bslice _ xs _=>xs
 | .barr _ _ xs=>xs
 | .lsl _ xs=>xs
 | .st _ a v|.bin _ _ a v|.eqs _ _ a v|.beq _ a v|.mksl _ _ _ a v|.iad _ a v|.idx a v|.aix _ _ _ a v|.app _ _ a v _|.mm _ a v=>[a,v]
 | .mkfn _ cap=>cap
 | .mp _ xs=>xs
 | .slc _ x lo hi=>x::(a4i lo++a4i hi)
 | .call f args _ _=>f::args
def vid:V→List Nat
 | .ptr id _|.osl id _ _ _|.optr id _ _ _|.omap id|.bptr id=>[id]
 | _=>[]
def a06.touch:a06→List V→List Nat
 | .ld ..,a::_=>vid a
 | .st ..,a::_=>vid a
 | .app ..,a::b::_=>vid a++vid b
 | .mp (.ups _) _,a::_::v::_=>vid a++vid v
 | .mp (.apc _ _) _,a::v::_=>vid a++vid v
 | .mp ..,a::_=>vid a
 | .call _ _ ids _,_=>ids
 | _,_=>[]
def a06.creates:a06→Nat→List Nat
 | .alloc ..,d|.box _,d|.bslice ..,d|.mksl ..,d|.app ..,d=>[d]
 | .mp (.mk _) _,d|.mp .rng _,d|.mp (.apc _ _) _,d=>[d]
 | .call _ _ _ news,_=>news
 | _,_=>[]
def b09 (n:Nat):Bool:=decide (n≤9223372036854775807)
theorem c0j {n:Nat}:b09 n=true↔n≤9223372036854775807:=by simp [b09]
attribute [irreducible] b09
def u8 (n:Int):UInt8:=UInt8.ofNat (n % 256).toNat
def asc (n:Int):Bool:=decide (0≤n)&&decide (n<128)
def eqn (a b:Nat):Bool:=Nat.beq a b
attribute [irreducible] asc eqn
def d3u (chk:Bool) (op:BinOp) (x y:V) (K:V→Prop):Prop :=
 match x,y with
 | .int k a,.int k' b =>
  match op with
  | .add=>bif kEq k k' then (bif chk then rng k (a+b)∧K (.int k (a+b)) else K (.int k (k.wrap (a+b)))) else False
  | .sub=>bif kEq k k' then (bif chk then rng k (a - b)∧K (.int k (a - b)) else K (.int k (k.wrap (a - b)))) else False
  | .mul=>bif kEq k k' then (bif chk then rng k (a*b)∧K (.int k (a*b)) else K (.int k (k.wrap (a*b)))) else False
  | .quo=>bif kEq k k' then (bif chk then (0≤a∧0<b)∧K (.int k (a / b)) else b≠0∧K (.int k (k.wrap (a.tdiv b)))) else False
  | .rem=>bif kEq k k' then (bif chk then (0≤a∧0<b)∧K (.int k (a % b)) else b≠0∧K (.int k (a.tmod b))) else False
  | .and=>bif kEq k k' then K (.int k (bits .and k a b)) else False
  | .or=>bif kEq k k' then K (.int k (bits .or k a b)) else False
  | .xor=>bif kEq k k' then K (.int k (bits .xor k a b)) else False
  | .andNot=>bif kEq k k' then K (.int k (bits .andNot k a b)) else False
  | .eql=>bif kEq k k' then K (.bool (decide (a=b))) else False
  | .neq=>bif kEq k k' then K (.bool (!decide (a=b))) else False
  | .lss=>bif kEq k k' then K (.bool (decide (a<b))) else False
  | .leq=>bif kEq k k' then K (.bool (decide (a≤b))) else False
  | .gtr=>bif kEq k k' then K (.bool (decide (b<a))) else False
  | .geq=>bif kEq k k' then K (.bool (decide (b≤a))) else False
  | .shl=>(0≤b∧b≤k.bits)∧K (.int k (k.wrap (a*2^b.toNat)))
  | .shr=>(0≤b∧b≤k.bits)∧K (.int k (a / 2^b.toNat))
 | .str a,.str b =>
  match op with
  | .add=>b09 (a.length+b.length)=true∧K (.str (a++b))
  | .eql=>K (.bool (decide (a=b)))
  | .neq=>K (.bool (!decide (a=b)))
  | .lss=>K (.bool (Op.bytesLess a b))
  | .leq=>K (.bool (Op.bytesLess a b||decide (a=b)))
  | .gtr=>K (.bool (!(Op.bytesLess a b||decide (a=b))))
  | .geq=>K (.bool (!Op.bytesLess a b))
  | _=>False
 | _,_=>False
def a0q:List Nat→List V→List V→Option Bool
 | [],[],[]=>some true
 | 0::q,.int k a::r,.int k' b::s=>bif kEq k k' then (a0q q r s).map fun t=>decide (a=b)&&t else none
 | 1::q,.str a::r,.str b::s=>(a0q q r s).map fun t=>decide (a=b)&&t
 | 2::q,.bool a::r,.bool b::s=>(a0q q r s).map fun t=>(a==b)&&t
 | _,_,_=>none
def setCells (cs:List V) (off:Nat) (ys:List V):List V:=cs.take off++ys++cs.drop (off+ys.length)
def V.nany:V→Bool
 | .any|.at_ _ _=>false
 | _=>true
def a8z:List V→List (Nat×Nat×V)→Option (List V)
 | cs,[]=>some cs
 | cs,(off,n,x)::r=>bif x.nany&&Nat.beq x.cells.length n&&Nat.ble (off+n) cs.length then a8z (setCells cs off x.cells) r else none
def part (n:Option Nat) (off:Nat) (cs:List V) (K:V→Prop):Prop :=
 match n with
 | none=>match cs.drop off with
  | c::_=>K c
  | []=>False
 | some n=>bif Nat.ble (off+n) cs.length then K (.agg ((cs.drop off).take n)) else False
def a2z (k:Nat) (x:V):Bool:=Nat.beq x.cells.length k&&x.cells.all V.one&&x.sealed
def V.elems:V→Option (List V)
 | .nils=>some []
 | .sl xs=>some xs
 | _=>none
def bounds (lo hi:Bool) (len:Nat) (r:List V):Option (Int×Int) :=
 match lo,hi,r with
 | true,true,[.int _ a,.int _ b]=>some (a,b)
 | true,false,[.int _ a]=>some (a,(len:Int))
 | false,true,[.int _ b]=>some (0,b)
 | false,false,[]=>some (0,(len:Int))
 | _,_,_=>none
def b6j:List Nat→(Nat→Option a0c)→Option Heap
 | [],_=>some []
 | n::r,ob=>match ob n with
  | some o=>(b6j r ob).map fun H=>(n,o)::H
  | none=>none
def mem (n:Nat):List Nat→Bool
 | []=>false
 | m::r=>Nat.beq n m||mem n r
def a9u:Heap→List Nat→List Nat→Bool
 | [],_,_=>true
 | (n,_)::r,ids,news=>(mem n ids||mem n news)&&(match find n r with|none=>true|some _=>false)&&a9u r ids news
def b91 (c a b:V) (K:V→Prop):Prop :=
 match c with
 | .bool t=>match a,b with
  | .bool x,.bool y=>K (.bool (bif t then x else y))
  | _,_=>bif t then K a else K b
 | _=>False
def sLd (n:Option Nat) (a:V) (ob:Nat→Option a0c) (K L:V→Prop):Prop :=
 match a with
 | .ptr id off=>match ob id with
  | some (.cells cs _)=>part n off cs K
  | _=>False
 | .eptr x off=>part n off x.cells K
 | .optr id k i off=>match ob id with
  | some (.arr k' xs _)=>bif Nat.beq k k' then ∃x,xs[i]?=some x∧part n off x.cells L else False
  | _=>False
 | _=>False
def sSt (n:Nat) (a v:V) (ob:Nat→Option a0c) (K L:Nat→a0c→Prop):Prop :=
 bif Nat.beq v.cells.length n&&v.cells.all V.one then
  match a with
  | .ptr id off=>match ob id with
   | some (.cells cs t)=>bif Nat.ble (off+n) cs.length then K id (.cells (setCells cs off v.cells) t) else False
   | _=>False
  | .optr id k i off=>match ob id with
   | some (.arr k' xs t)=>bif Nat.beq k k'&&v.sealed then
     (bif Nat.beq off 0&&Nat.beq n k then i<xs.length∧K id (.arr k (xs.set i v) t)
      else ∃cs,xs[i]?=some (.agg cs)∧off+n≤k∧L id (.arr k (xs.set i (.agg (setCells cs off v.cells))) t)) else False
   | _=>False
  | _=>False
 else False
def e0s (a:V) (K:V→Prop):Prop :=
 match a with
 | .ptr ..|.eptr ..|.optr ..=>K a
 | _=>False
def b93 (m:Nat) (k:IntKind) (x:V) (K:V→Prop):Prop :=
 match x with
 | .int k' a=>bif kEq k k' then K (.int k (a % 2^m)) else False
 | _=>False
def e0w (ng:Bool) (x y:V) (K:V→Prop):Prop :=
 match x,y with
 | .bool a,.bool b=>K (.bool (bif ng then !(a==b) else a==b))
 | _,_=>False
def d60 (ng:Bool) (ks:List Nat) (x y:V) (K:V→Prop):Prop :=
 match x,y with
 | .agg cs,.agg ds=>match a0q ks cs ds with
  | some t=>K (.bool (bif ng then !t else t))
  | none=>False
 | _,_=>False
def e0q (x:V) (K:V→Prop):Prop :=
 match x with
 | .bool t=>K (.bool (!t))
 | _=>False
def e0r (chk:Bool) (x:V) (K:V→Prop):Prop :=
 match x with
 | .int k a=>bif chk then rng k (-a)∧K (.int k (-a)) else K (.int k (k.wrap (0 - a)))
 | _=>False
def e0u (chk:Bool) (k:IntKind) (x:V) (K:V→Prop):Prop :=
 match x with
 | .int _ a=>bif chk then rng k a∧K (.int k a) else K (.int k (k.wrap a))
 | _=>False
def g7d (x:V) (K:V→Prop):Prop :=
 match x with
 | .str _=>K x
 | _=>False
def a13 (c:UInt8):V:=.int .u8 c.toNat
def g7b (d:Nat) (x:V) (K:Eff→Prop):Prop :=
 match x with
 | .str s=>K ⟨.osl d 1 0 s.length,[],[(d,.arr 1 (s.map a13))]⟩
 | _=>False
def g7f (x:V) (ob:Nat→Option a0c) (K L:V→Prop):Prop :=
 match x with
 | .nils=>K (.str [])
 | .sl xs=>∃s:List UInt8,xs=s.map a13∧L (.str s)
 | .osl id k lo n=>match ob id with
  | some (.arr k' xs _)=>bif Nat.beq k k'&&Nat.beq k 1 then ∃s:List UInt8,(xs.drop lo).take n=s.map a13∧s.length=n∧L (.str s) else False
  | _=>False
 | _=>False
def uvT:Bool→Option TypeId
 | true=>some e2k
 | false=>none
def g7c (x:V) (ob:Nat→Option a0c) (K:Eff→Prop):Prop :=
 match x with
 | .osl id k lo n=>match ob id with
  | some (.arr k' xs t)=>bif Nat.beq k k'&&Nat.beq k 1&&Nat.blt 0 n then K ⟨.osl id k lo n,[],[(id,.arr k' xs (tyF t))]⟩ else False
  | _=>False
 | _=>False
def b92 (k bytes d:Nat) (z l c:V) (K:Eff→Prop):Prop :=
 match l,c with
 | .int .i64 a,.int .i64 b=>(0≤a∧a≤b∧b*bytes≤140737488355328)∧K ⟨.osl d k 0 a.toNat,[],[(d,.arr k (List.replicate a.toNat z))]⟩
 | _,_=>False
def g7a (lo hi:Bool) (x:V) (r:List V) (K:V→Prop):Prop :=
 match x with
 | .str s=>match bounds lo hi s.length r with
  | some (a,b)=>(0≤a∧a≤b∧b≤s.length)∧K (.str ((s.take b.toNat).drop a.toNat))
  | none=>False
 | _=>False
def d3s (k:Nat) (lo hi:Bool) (x:V) (r:List V) (K:V→Prop):Prop :=
 match x with
 | .sl xs=>match bounds lo hi xs.length r with
  | some (a,b)=>(0≤a∧a≤b∧b≤xs.length)∧(∀x∈xs,x.cells.length=k)∧K (.sl ((xs.take b.toNat).drop a.toNat))
  | none=>False
 | .osl id k' l n=>match bounds lo hi n r with
  | some (a,b)=>bif Nat.beq k k' then (0≤a∧a≤b∧b≤n)∧K (.osl id k (l+a.toNat) (b.toNat - a.toNat)) else False
  | none=>False
 | _=>False
def e0v (off:Nat) (x:V) (K:V→Prop):Prop :=
 match x with
 | .ptr id o=>K (.ptr id (o+off))
 | .eptr y o=>K (.eptr y (o+off))
 | .optr id k i o=>K (.optr id k i (o+off))
 | _=>False
def g7e (n:Option Nat) (off:Nat) (x:V) (K:V→Prop):Prop :=
 match x with
 | .agg cs=>part n off cs K
 | _=>False
def c95 (k:Nat) (x i:V) (K L:V→Prop):Prop :=
 match i with
 | .int _ n=>match x with
  | .sl xs=>0≤n∧∃y,xs[n.toNat]?=some y∧y.cells.length=k∧L (.eptr y 0)
  | .osl id k' lo m=>bif Nat.beq k k' then (0≤n∧n<m)∧K (.optr id k (lo+n.toNat) 0) else False
  | _=>False
 | _=>False
def e0t (x i:V) (K:V→Prop):Prop :=
 match x,i with
 | .str s,.int _ n=>(0≤n∧n<s.length)∧K (.int .u8 (s.getD n.toNat 0).toNat)
 | _,_=>False
def e0x (n:Option Nat) (k cnt:Nat) (x i:V) (K:V→Prop):Prop :=
 match x,i with
 | .agg cs,.int _ m=>(0≤m∧m<cnt)∧part n (m.toNat*k) cs K
 | _,_=>False
def g7g (k cnt:Nat) (x i:V) (K:V→Prop):Prop :=
 match x,i with
 | .ptr id o,.int _ m=>(0≤m∧m<cnt)∧K (.ptr id (o+m.toNat*k))
 | .eptr y o,.int _ m=>(0≤m∧m<cnt)∧K (.eptr y (o+m.toNat*k))
 | _,_=>False
def a1u (k:Nat):Nat→List V→List (Nat×Nat×V)
 | _,[]=>[]
 | n,x::r=>(n*k,k,x)::a1u k (n+1) r
def f9t (x:V) (K:V→Prop):Prop :=
 match x with
 | .str s=>K (.sl (s.map a13))
 | _=>False
def d5y (i:Nat) (x:V) (K:V→Prop):Prop :=
 match x with
 | .tup cs=>match cs.drop i with
  | c::_=>K c
  | []=>False
 | _=>False
def sLen (s:Bool) (x:V) (K:V→Prop):Prop :=
 match x with
 | .str t=>bif s then K (.int .i64 t.length) else False
 | .nils=>bif s then False else K (.int .i64 0)
 | .sl xs=>bif s then False else K (.int .i64 xs.length)
 | .osl _ _ _ n=>bif s then False else K (.int .i64 n)
 | _=>False
def a5l (k:Nat) (y:V) (ob:Nat→Option a0c):Option (List V) :=
 match y with
 | .nils=>some []
 | .sl ys=>some ys
 | .osl id k' lo n=>match ob id with
  | some (.arr k'' ys _)=>bif Nat.beq k k'&&Nat.beq k k'' then some ((ys.drop lo).take n) else none
  | _=>none
 | .str s=>bif Nat.beq k 1 then some (s.map a13) else none
 | _=>none
def e2j:V→Nat
 | .osl _ _ _ n=>n
 | _=>0
def tyJ:Option TypeId→Option TypeId→Option TypeId
 | some a,some b=>bif Nat.beq a b then some a else none
 | _,_=>none
def c0t (k bytes d:Nat) (ty:Option TypeId) (x y:V) (ob:Nat→Option a0c) (K:Eff→Prop):Prop :=
 match a5l k y ob with
 | some ys=>e2j y≤ys.length∧match x with
  | .nils=>(ys.length*bytes≤140737488355328∧∀y∈ys,y.cells.length=k)∧K ⟨.osl d k 0 ys.length,[],[(d,.arr k ys ty)]⟩
  | .osl id k' lo n=>match ob id with
   | some (.arr k'' xs t0)=>bif Nat.beq k k'&&Nat.beq k k'' then (lo+n=xs.length∧(n+ys.length)*bytes≤140737488355328∧∀y∈ys,y.cells.length=k)∧K ⟨.osl d k 0 (n+ys.length),[id],[(d,.arr k (xs.drop lo++ys) (tyJ t0 ty))]⟩ else False
   | _=>False
  | _=>False
 | none=>False
def sMm (mx:Bool) (x y:V) (K:V→Prop):Prop :=
 match x,y with
 | .int k a,.int k' b=>bif kEq k k' then K (.int k (bif mx then max a b else min a b)) else False
 | _,_=>False
def b0y (P:Program) (f:V) (args:List V) (ids news:List Nat) (ob:Nat→Option a0c) (L:Eff→Prop):Prop :=
 match f with
 | .fn (.func n) cap=>match b6j ids ob with
  | some H=>a0o P n (args++cap) H fun r H'=>(bif a9u H' ids news then L ⟨r,ids,H'⟩ else False)
  | none=>False
 | .fn (.yield n) fs=>match b6j ids ob with
  | some H=>a0o P n (fs++args) H fun r H'=>(bif a9u H' ids news then L ⟨r,ids,H'⟩ else False)
  | none=>False
 | _=>False
def d62 (d:Nat) (x:V) (K:Eff→Prop):Prop :=
 match x with
 | .any=>False
 | .at_ _ _=>False
 | .agg cs=>K ⟨.ptr d 0,[],[(d,.cells cs)]⟩
 | x=>K ⟨.ptr d 0,[],[(d,.cells [x])]⟩
def evl (x:V):Eff:=⟨x,[],[]⟩
def eup (id:Nat) (o:a0c):Eff:=⟨.any,[],[(id,o)]⟩
def keq:V→V→Bool
 | .int _ a,.int _ b=>decide (a=b)
 | .str a,.str b=>decide (a=b)
 | .bool a,.bool b=>a==b
 | _,_=>false
def c1j (k:V):List (V×V)→Option V
 | []=>none
 | (a,b)::r=>bif keq k a then some b else c1j k r
def b6g (k v:V):List (V×V)→List (V×V)
 | []=>[(k,v)]
 | (a,b)::r=>bif keq k a then (a,v)::r else (a,b)::b6g k v r
def c3o (k:V):List (V×V)→List (V×V)
 | []=>[]
 | (a,b)::r=>bif keq k a then r else (a,b)::c3o k r
def a9r (x:V) (ob:Nat→Option a0c) (K:KD→List (V×V)→Prop):Prop :=
 match x with
 | .smap kd es=>K kd es
 | .omap id=>match ob id with
  | some (.map kd es)=>K kd es
  | some (.nmap _ _ kd es)=>K kd es
  | _=>False
 | _=>False
def a3x (ok:Bool) (z:V):Option V→V
 | none=>bif ok then .tup [z,.bool false] else z
 | some v=>bif ok then .tup [v,.bool true] else v
def f9x (m p:Nat):Option V→V
 | some (.sl xs)=>.nsl m p xs
 | _=>.nsl m p []
def b4n (ok:Bool) (m p:Nat) (o:Option V):V:=bif ok then .tup [f9x m p o,.bool o.isSome] else f9x m p o
def V.isNilS:V→Bool
 | .nils|.sl []=>true
 | _=>false
def d5h (ob:Nat→Option a0c):List V→Option (List V×List Nat)
 | []=>some ([],[])
 | .osl j q 0 n::r=>match ob j with
  | some (.arr q' ys _)=>bif Nat.beq q q'&&Nat.beq n ys.length then (match d5h ob r with|some p=>some (.sl ys::p.1,j::p.2)|none=>none) else none
  | _=>none
 | x::r=>bif a2z 1 x then (match d5h ob r with|some p=>some (x::p.1,p.2)|none=>none) else none
def g4t (ng:Bool) (x:V) (K:Eff→Prop):Prop:=match x with
 | .nilf=>K (evl (.bool (!ng)))
 | .fn (.func _) _=>K (evl (.bool ng))
 | _=>False
def b96 (lo n len m bytes:Nat):Bool:=decide (lo+n≤len)&&decide ((n+m)*bytes≤140737488355328)
theorem b6r {lo n len m bytes:Nat}:b96 lo n len m bytes=true↔lo+n≤len∧(n+m)*bytes≤140737488355328:=by simp [b96]
attribute [irreducible] b96
def a1x (op:b8k) (d:Nat) (vs:List V) (ob:Nat→Option a0c) (K L:Eff→Prop):Prop :=
 match op,vs with
 | .mk kd,[]=>K ⟨.omap d,[],[(d,.map kd [])]⟩
 | .lku kd ok z,[x,k]=>match x with
  | .nilm=>bif kd.is k then K (evl (a3x ok z none)) else False
  | .nsmap m p kd' es=>bif kd.is k&&kd'.is k&&z.isNilS then K (evl (b4n ok m p (c1j k es))) else False
  | x=>a9r x ob fun kd' es=>bif kd.is k&&kd'.is k then K (evl (a3x ok z (c1j k es))) else False
 | .up kd',[.omap id,k,v]=>match ob id with
  | some (.map kd es)=>bif kd'.is k&&kd.is k&&v.sealed then K (eup id (.map kd (b6g k v es))) else False
  | _=>False
 | .del kd',[.omap id,k]=>match ob id with
  | some (.map kd es)=>bif kd'.is k&&kd.is k then K ⟨.tup [],[],[(id,.map kd (c3o k es))]⟩ else False
  | _=>False
 | .len,[x]=>match x with
  | .nilm=>K (evl (.int .i64 0))
  | x=>a9r x ob fun _ es=>(es.length:Int)≤9223372036854775807∧K (evl (.int .i64 es.length))
 | .rng,[x]=>match x with
  | .nilm=>K ⟨.ptr d 0,[],[(d,.iter [] none)]⟩
  | .smap _ es=>K ⟨.ptr d 0,[],[(d,.iter es none)]⟩
  | _=>False
 | .nxt,[.ptr id 0]=>match ob id with
  | some (.iter rem _)=>(rem=[]→L ⟨.tup [.bool false],[],[(id,.iter [] none)]⟩)∧∀(i:Nat) (e:V×V),rem[i]?=some e→L ⟨.tup [.bool true,e.1,e.2],[],[(id,.iter (rem.eraseIdx i) (some e))]⟩
  | _=>False
 | .ent,[.ptr id 0]=>match ob id with
  | some (.iter _ (some e))=>K (evl (.tup [e.1,e.2]))
  | _=>False
 | .isn ng,[x]=>match x with
  | .nils=>L (evl (.bool (!ng)))
  | .sl xs=>(xs=[]→L (evl (.bool (!ng))))∧L (evl (.bool ng))
  | .osl _ _ _ n=>(n=0→L (evl (.bool (!ng))))∧L (evl (.bool ng))
  | _=>False
 | .tab i,[]=>match b8w[i]? with
  | some d=>K (evl (.agg (d.2.2.map (V.int d.2.1))))
  | none=>False
 | .ups kd',[.omap id,k,.osl j q 0 n]=>match ob id,ob j with
  | some (.map kd es),some (.arr q' xs _)=>bif kd'.is k&&kd.is k&&(Nat.beq q q'&&Nat.beq n xs.length&&!Nat.beq id j) then K ⟨.any,[j],[(id,.map kd (b6g k (.sl xs) es))]⟩ else False
  | some (.nmap z p kd es),some (.arr q' xs _)=>bif kd'.is k&&kd.is k&&(Nat.beq q q'&&Nat.beq n xs.length&&!Nat.beq id j)&&Nat.beq q p then K ⟨.any,[j],[(id,.nmap z p kd (b6g k (.sl xs) es))]⟩ else False
  | _,_=>False
 | .ifz ng,[.ifc b]=>K (evl (.bool (bif ng then !b else b)))
 | .apc k bytes,[.osl id k' lo n,y]=>match a5l k y ob with
  | some ys=>e2j y≤ys.length∧match ob id with
   | some (.arr k'' xs _)=>bif Nat.beq k k'&&Nat.beq k k''&&!y.has id then (b96 lo n xs.length ys.length bytes=true∧∀y∈ys,y.cells.length=k)∧K ⟨.osl d k 0 ((xs.drop lo).take n++ys).length,[id],[(d,.arr k ((xs.drop lo).take n++ys))]⟩ else False
   | _=>False
  | none=>False
 | _,_=>False
def w9 (P:Program) (i:a06) (d:Nat) (vs:List V) (ob:Nat→Option a0c) (K L:Eff→Prop):Prop :=
 match i,vs with
 | .mv _,[x]=>K (evl x)
 | .pick ..,[c,a,b]=>b91 c a b fun x=>K (evl x)
 | .alloc zs t,_=>K ⟨.ptr d 0,[],[(d,.cells zs t)]⟩
 | .box _,[x]=>d62 d x K
 | .build zs ps,vs=>match a8z zs ((ps.zip vs).map fun p=>(p.1.1,p.1.2.1,p.2)) with
  | some cs=>K (evl (.agg cs))
  | none=>False
 | .bslice k _ uv,vs=>bif vs.all (a2z k) then K ⟨.osl d k 0 vs.length,[],[(d,.arr k vs (uvT uv))]⟩ else False
 | .ld n _,[a]=>sLd n a ob (fun x=>K (evl x)) (fun x=>L (evl x))
 | .st n _ _,[a,v]=>sSt n a v ob (fun id o=>K (eup id o)) (fun id o=>L (eup id o))
 | .nck _,[a]=>e0s a fun x=>K (evl x)
 | .bin chk op _ _,[x,y]=>d3u chk op x y fun r=>K (evl r)
 | .mask m _ k,[x]=>b93 m k x fun r=>K (evl r)
 | .beq ng _ _,[x,y]=>e0w ng x y fun r=>K (evl r)
 | .eqs ng ks _ _,[x,y]=>d60 ng ks x y fun r=>K (evl r)
 | .not _,[x]=>e0q x fun r=>K (evl r)
 | .neg chk _,[x]=>e0r chk x fun r=>K (evl r)
 | .i2i chk k _,[x]=>e0u chk k x fun r=>K (evl r)
 | .mkfn f _,vs=>K (evl (.fn (.func f) vs))
 | .mksl k bytes z _ _,[l,c]=>b92 k bytes d z l c K
 | .slc k _ lo hi,x::r=>d3s k lo.isSome hi.isSome x r fun r=>K (evl r)
 | .fad off _,[x]=>e0v off x fun r=>K (evl r)
 | .iad k _ _,[x,i]=>c95 k x i (fun r=>K (evl r)) (fun r=>L (evl r))
 | .idx _ _,[x,i]=>e0t x i fun r=>K (evl r)
 | .aix n k cnt _ _,[x,i]=>e0x n k cnt x i fun r=>K (evl r)
 | .lsl k _,vs=>bif vs.all (a2z k) then K (evl (.sl vs)) else False
 | .barr k zs _,vs=>match a8z zs (a1u k 0 vs) with
  | some cs=>K (evl (.agg cs))
  | none=>False
 | .ext i _,[x]=>d5y i x fun r=>K (evl r)
 | .len s _,[x]=>sLen s x fun r=>K (evl r)
 | .app k bytes _ _ ty,[x,y]=>c0t k bytes d ty x y ob K
 | .mm mx _ _,[x,y]=>sMm mx x y fun r=>K (evl r)
 | .mp op _,vs=>a1x op d vs ob K L
 | .call _ _ ids news,f::args=>b0y P f args ids news ob L
 | _,_=>False
def c2h (P:Program) (t:TypeId):Option (Option Nat) :=
 match P.underlying t,P.info? t with
 | some (.struct _),some i=>some (some i.size)
 | some (.array _ _),some i=>some (some i.size)
 | some _,some _=>some none
 | _,_=>none
def a3r (P:Program) (t:TypeId) (n:Nat):Bool :=
 match P.info? t with
 | some i=>Nat.beq i.size n
 | none=>false
def isSlice (P:Program) (t:TypeId) (k:Nat):Bool :=
 match P.underlying t with
 | some (.slice e)=>a3r P e k
 | _=>false
def c79 (P:Program) (t:TypeId):Bool :=
 match P.underlying t with
 | some .string=>true
 | _=>false
def c7b (P:Program) (t:TypeId):Bool :=
 match P.underlying t with
 | some .bool=>true
 | _=>false
def a7h (P:Program) (fs:Array Field):List (Nat×Nat×Opd)→List (Nat×Operand)→Bool
 | [],[]=>true
 | (off,n,x)::r,(i,y)::s=>(match fs[i]? with|some f=>Nat.beq f.offset off&&a3r P f.type n|none=>false)&&x.ok y&&a7h P fs r s
 | _,_=>false
def b3y:Nat→List Opd→List (Nat×Operand)→Bool
 | _,[],[]=>true
 | n,x::r,(i,y)::s=>Nat.beq i n&&x.ok y&&b3y (n+1) r s
 | _,_,_=>false
def a7a (P:Program) (t:TypeId) (zs:List V):Bool :=
 match P.info? t with
 | some i=>match i.zero with
  | some z=>c8k zs z.cells.toList
  | none=>false
 | none=>false
def e90 (rec:List Nat→List Field→Bool) (go:Nat→List Nat→Bool) (P:Program) (n:Nat) (t:TypeId) (ks:List Nat):Bool:=match P.underlying t,ks with
  | some (.int _),0::qs=>go (n+1) qs
  | some .string,1::qs=>go (n+1) qs
  | some .bool,2::qs=>go (n+1) qs
  | some (.struct fs'),qs=>match P.info? t with
   | some i=>Nat.ble i.size qs.length&&rec (qs.take i.size) fs'.toList&&!P.stoodInHeld t&&go (n+i.size) (qs.drop i.size)
   | none=>false
  | _,_=>false
def b9w (rec:List Nat→List Field→Bool) (P:Program):Nat→List Nat→List Field→Bool
 | _,ks,[]=>ks.isEmpty
 | n,ks,f::r=>Nat.beq f.offset n&&!(f.name == "_")&&e90 rec (fun n ks=>b9w rec P n ks r) P n f.type ks
def d2d (P:Program):Nat→List Nat→List Field→Bool
 | 0=>b9w (fun _ _=>false) P 0
 | d+1=>b9w (d2d P d) P 0
def c2a (P:Program) (ks:List Nat) (t:TypeId):Bool :=
 match P.underlying t with
 | some (.struct fs)=>d2d P 3 ks fs.toList&&!P.stoodInHeld t&&!P.eqGuardType P.depth t
 | _=>false
def a3m (P:Program) (t:TypeId) (k bytes:Nat):Bool :=
 match P.underlying t with
 | some (.slice e)=>match P.info? e with
  | some i=>Nat.beq i.size k&&Nat.beq i.bytes bytes&&Nat.blt 0 k&&Nat.blt 0 bytes&&(match i.zero with|some z=>Nat.beq z.cells.size k|none=>false)
  | none=>false
 | _=>false
def b1t (P:Program) (t:TypeId) (z:V):Bool :=
 match P.underlying t with
 | some (.slice e)=>a7a P e z.cells
 | _=>false
def c7r (P:Program) (t:TypeId) (f off:Nat):Bool :=
 match P.underlying t with
 | some (.struct fs)=>match fs[f]? with
  | some fl=>Nat.beq fl.offset off&&(match P.info? fl.type with|some i=>!Nat.beq i.size 0|none=>false)
  | none=>false
 | _=>false
def b6e (P:Program) (t:TypeId):Bool :=
 match P.underlying t with
 | some (.slice _)|some .string=>true
 | _=>false
def d3c (P:Program) (t:TypeId):Option TypeId→Bool
 | none=>true
 | some u=>match P.underlying t with
  | some (.slice e)=>Nat.beq e u&&!Nat.beq u e2k
  | _=>false
def d3a (P:Program) (t:TypeId) (cnt k:Nat):Bool :=
 match P.underlying t with
 | some (.array n e)=>Nat.beq n cnt&&a3r P e k
 | _=>false
def isMap (P:Program) (t:TypeId) (kd:Option KD) (z:Option V):Bool :=
 match P.underlying t with
 | some (.map k e) =>
  (match kd with
   | none=>true
   | some kd=>match P.underlying k,kd with
    | some (.int i),.int j=>kEq i j
    | some .string,.str=>true
    | some .bool,.bool=>true
    | _,_=>false) &&
  (match P.underlying k with|some (.int _)|some .string|some .bool=>true|_=>false) &&
  (match z with
   | none=>true
   | some z=>match P.info? e with
    | some i=>match i.zero with
     | some u=>cOK z u
     | none=>false
    | none=>false)
 | _=>false
def a15 (P:Program) (m:b8k) (xs:List Opd) (op:Op):Bool :=
 match m,op with
 | .mk kd,.makeMap t none=>isMap P t (some kd) none&&(match xs with|[]=>true|_=>false)
 | .lku kd ok z,.lookup t x k c=>(match xs with|[a,b]=>a.ok x&&b.ok k|_=>false)&&(ok==c)&&isMap P t (some kd) (some z)
 | .isn ng,.binOp b t x y _=>(match xs with|[a]=>a.ok x|_=>false)&&(match b with|.eql=>!ng|.neq=>ng|_=>false)&&(match y with|.const (.slice none _ _)=>true|_=>false)&&(match P.underlying t with|some (.slice _)=>true|_=>false)
 | .tab i,.load t (.global q)=>(match xs with|[]=>true|_=>false)&&(match b8w[i]? with|some d=>decide (P.globalNamed d.1=some q)&&decide (c2h P t=some (some d.2.2.length))|none=>false)
 | .ups kd,.mapUpdate t x k v=>(match xs with|[a,b,c]=>a.ok x&&b.ok k&&c.ok v|_=>false)&&isMap P t (some kd) none
 | .ups kd,.insert t x k v=>(match xs with|[a,b,c]=>a.ok x&&b.ok k&&c.ok v|_=>false)&&isMap P t (some kd) none
 | .ifz ng,.binOp b t x y _=>(match xs with|[a]=>a.ok x|_=>false)&&(match b with|.eql=>!ng|.neq=>ng|_=>false)&&(match y with|.const .nilIface=>true|_=>false)&&(match P.underlying t with|some (.interface _)=>true|_=>false)
 | .apc k bytes,.call { callee:=.builtin .append,args,argTypes }=>(match xs,args.toList,argTypes.toList with
   | [a,b],[x,y],[t,t']=>a.ok x&&b.ok y&&a3m P t k bytes&&b6e P t'&&d3c P t none
   | _,_,_=>false)
 | .up kd,.insert t x k v=>(match xs with|[a,b,c]=>a.ok x&&b.ok k&&c.ok v|_=>false)&&isMap P t (some kd) none
 | .up kd,.mapUpdate t x k v=>(match xs with|[a,b,c]=>a.ok x&&b.ok k&&c.ok v|_=>false)&&isMap P t (some kd) none
 | .del kd,.call { callee:=.builtin .delete,args,argTypes }=>(match xs,args.toList,argTypes.toList with
   | [a,b],[x,k],[t,_]=>a.ok x&&b.ok k&&isMap P t (some kd) none
   | _,_,_=>false)
 | .len,.call { callee:=.builtin .len,args,argTypes }=>(match xs,args.toList,argTypes.toList with
   | [a],[x],[t]=>a.ok x&&isMap P t none none
   | _,_,_=>false)
 | .rng,.range t x=>(match xs with|[a]=>a.ok x|_=>false)&&isMap P t none none
 | .nxt,.next x s=>(match xs with|[a]=>a.ok x|_=>false)&&!s
 | .ent,.entry x=>(match xs with|[a]=>a.ok x|_=>false)
 | _,_=>false
def a06.ok (P:Program) (i:a06) (op:Op):Bool :=
 match i,op with
 | .mv x,.move y|.mv x,.assign y=>x.ok y
 | .pick c a b,.pick c' a' b'=>c.ok c'&&a.ok a'&&b.ok b'
 | .alloc zs t,.alloc e=>a7a P e zs&&(match t with|none=>true|some u=>Nat.beq e u&&!Nat.beq u e2k)
 | .box x,.box _ y=>x.ok y
 | .build zs ps,.build t parts=>a7a P t zs&&(match P.underlying t with|some (.struct fs)=>fs.all (fun f=>(P.info? f.type).isSome)&&a7h P fs ps parts.toList|_=>false)
 | .bslice k xs _,.buildSlice t n parts=>(match P.underlying t with
   | some (.slice e)=>a3r P e k&&(match P.info? e with|some i=>i.zero.isSome|none=>false)
   | _=>false)&&Nat.blt 0 k&&Nat.beq n xs.length&&decide (n*k≤16777216)&&b3y 0 xs parts.toList
 | .lsl k xs,.buildSlice t n parts=>(match P.underlying t with
   | some (.slice e)=>a3r P e k&&(match P.info? e with|some i=>i.zero.isSome|none=>false)
   | _=>false)&&Nat.blt 0 k&&Nat.beq n xs.length&&decide (n*k≤16777216)&&b3y 0 xs parts.toList
 | .ld n a,.load t b=>a.ok b&&decide (c2h P t=some n)
 | .st n a v,.store t b u=>a.ok b&&v.ok u&&a3r P t n
 | .nck a,.nilCheck b=>a.ok b
 | .bin _ op x y,.binOp op' _ a b _=>decide (op=op')&&x.ok a&&y.ok b
 | .mask m x k,.binOp .and _ a (.const (.int k' n)) _=>x.ok a&&kEq k k'&&decide (n=2^m - 1)&&Nat.blt m k.bits
 | .beq ng x y,.binOp op t a b _=>decide (op=if ng then .neq else .eql)&&x.ok a&&y.ok b&&c7b P t
 | .eqs ng ks x y,.binOp op t a b _=>decide (op=if ng then .neq else .eql)&&x.ok a&&y.ok b&&c2a P ks t
 | .not x,.unOp .not _ a=>x.ok a
 | .neg _ x,.unOp .neg _ a=>x.ok a
 | .i2i _ k x,.convert s d a=>x.ok a&&(P.underlying s).isSome&&(match P.underlying d with|some (.int k')=>kEq k k'|_=>false)
 | .mkfn f cap,.makeFunc (.func f') first cap'=>Nat.beq f f'&&Nat.beq first.size 0&&a8h cap cap'.toList
 | .mksl k bytes z l c,.makeSlice t l' c'=>l.ok l'&&c.ok c'&&a3m P t k bytes&&b1t P t z&&a2z k z
 | .slc k x lo hi,.slice t a lo' hi' none=>x.ok a&&b5u lo lo'&&b5u hi hi'&&isSlice P t k
 | .fad off x,.fieldAddr t a f=>x.ok a&&c7r P t f off
 | .iad k x i,.indexAddr t a b=>x.ok a&&i.ok b&&isSlice P t k
 | .idx x i,.index t a b=>x.ok a&&i.ok b&&c79 P t
 | .aix n k cnt x i,.index t a b=>x.ok a&&i.ok b&&d3a P t cnt k&&(match P.underlying t with|some (.array _ e)=>decide (c2h P e=some n)|_=>false)
 | .barr k zs xs,.build t parts=>a7a P t zs&&(match P.underlying t with|some (.array _ e)=>a3r P e k|_=>false)&&b3y 0 xs parts.toList
 | .ext i x,.extract a j=>x.ok a&&Nat.beq i j
 | .len s x,.call { callee:=.builtin .len,args,argTypes }=>(match args.toList,argTypes.toList with
   | [a],[t]=>x.ok a&&(match P.underlying t with|some .string=>s|some (.slice _)=>!s|_=>false)
   | _,_=>false)
 | .app k bytes x y ty,.call { callee:=.builtin .append,args,argTypes }=>(match args.toList,argTypes.toList with
   | [a,b],[t,t']=>x.ok a&&y.ok b&&a3m P t k bytes&&b6e P t'&&d3c P t ty
   | _,_=>false)
 | .mm mx x y,.call { callee:=.builtin b,args,.. }=>(match args.toList with
   | [u,v]=>x.ok u&&y.ok v&&decide (b=if mx then .max else .min)
   | _=>false)
 | .mp m xs,op=>a15 P m xs op
 | .call f args _ _,.call { callee:=.value f',args:=args',.. }=>f.ok f'&&a8h args args'.toList
 | _,_=>false
theorem b50 {S:Nat→Prop} {w:World}:∀{x:V} {v:Value},cOK x v=true→Rd S w v x
 | .bool b,v,h=>by
  cases v<;>simp [cOK] at h
  subst h;exact .bool _
 | .int k n,v,h=>by
  cases v<;>simp [cOK] at h
  rename_i k' n'
  obtain ⟨⟨⟨h1,h2⟩,h3⟩,h4⟩:=h
  have:=b0k h1;subst this;subst h2
  exact .int _ _ ⟨h3,h4⟩
 | .str s,v,h=>by
  cases v<;>simp [cOK] at h
  rename_i s'
  obtain ⟨h1,h2⟩:=h
  subst h1
  refine .str s' ?_
  have e1:s'.size=s'.data.toList.length:=by rw [xG];rfl
  rw [e1,maxLen]
  exact vD h2 (by decide)
 | .nils,v,h=>by
  unfold cOK at h
  split at h<;>simp_all
  exact .nils
 | .ifc b,v,h=>by
  unfold cOK at h
  split at h<;>simp_all
  exact .ifcn
 | .nilp,v,h=>by
  unfold cOK at h
  split at h<;>simp_all
  exact .nilp
 | .nilm,v,h=>by
  unfold cOK at h
  split at h<;>simp_all
  exact .nilm
 | .nilf,v,h=>by
  unfold cOK at h
  split at h<;>simp_all
  exact .nilf
 | .nili,v,h=>by
  unfold cOK at h
  split at h<;>simp_all
  exact .nili
 | .agg cs,v,h=>by
  cases v<;>simp [cOK] at h
  rename_i vs
  have key:∀(cs:List V) (vs:List Value),c8k cs vs=true→vs.length=cs.length∧∀(i:Nat) (c:V),cs[i]?=some c→∃u,vs[i]?=some u∧cOK c u=true:=by
   intro cs
   induction cs with
   | nil=>intro vs h;cases vs<;>simp [c8k] at h ⊢
   | cons c cs ih =>
    intro vs h
    cases vs with
    | nil=>simp [c8k] at h
    | cons u vs =>
     simp only [c8k,wG] at h
     obtain ⟨h1,h2⟩:=ih vs h.2
     refine ⟨by simp [h1],fun i c' hc=>?_⟩
     cases i with
     | zero=>simp at hc;subst hc;exact ⟨u,rfl,h.1⟩
     | succ i=>simp at hc ⊢;exact h2 i c' hc
  obtain ⟨h1,h2⟩:=key cs vs.toList h
  refine .agg vs cs (by simpa using h1) fun i c hc=>?_
  obtain ⟨u,hu,hok⟩:=h2 i c hc
  have hm:c∈cs:=xB hc
  have:vs.getD i undef=u:=by
   simp only [zW] at hu
   simp [zC,hu]
  rw [this]
  exact b50 hok
 | .tup _,v,h=>by simp [cOK] at h
 | .sl [],v,h=>by
  unfold cOK at h
  split at h<;>simp_all
  exact .nilsl
 | .sl (_::_),v,h=>by simp [cOK] at h
 | .ptr _ _,v,h=>by simp [cOK] at h
 | .eptr _ _,v,h=>by simp [cOK] at h
 | .osl _ _ _ _,v,h=>by simp [cOK] at h
 | .optr _ _ _ _,v,h=>by simp [cOK] at h
 | .omap _,v,h=>by simp [cOK] at h
 | .bptr _,v,h=>by simp [cOK] at h
 | .fn _ _,v,h=>by simp [cOK] at h
 | .any,v,h=>by simp [cOK] at h
termination_by x=>(SizeOf.sizeOf x:Nat)
decreasing_by
 have:=List.sizeOf_lt_of_mem hm
 simp_all
 omega
def Fin (o:Oper) (c:Ctx) (g:Gh) (σ:St) (a:Act) (w:World) (K L:Eff→Prop) (K':Act→World→Prop):Prop :=
 ∀eff,(K eff∨L eff)→∀(g':Gh) (v:Value) (w':World),a07 g σ.heap w eff g' w'→a0v c.H0 g g' σ eff→VR g' w' v eff.val→K' (a.put o.dst v) w'
section
variable {P:Program} {o:Oper} {c:Ctx} {g:Gh} {σ:St} {a:Act} {w:World} {ob:Nat→Option a0c} {K L:Eff→Prop} {K':Act→World→Prop} {Q':Exit→Act→World→Prop}
theorem Opd.vr (hR:Rel P c g σ a w) {x:Opd} {y:Operand} (h:x.ok y=true):VR g w (a.eval y) (x.ev σ.env):=by
 cases x with
 | t n =>
  cases y<;>simp [Opd.ok] at h
  rename_i m
  subst h
  simp only [Opd.ev,a1m,Act.eval]
  cases hf:find n σ.env with
  | none=>exact .any _
  | some x=>exact (hR.env n x hf).2
 | c v =>
  cases y<;>simp [Opd.ok] at h
  exact .rd (b50 h)
 | f n =>
  cases y<;>simp [Opd.ok] at h
  subst h
  exact .fn _ #[] [] rfl (fun i c h=>by simp at h)
theorem a09 (hR:Rel P c g σ a w) (hF:Fin o c g σ a w K L K') {x:V} {v:Value} (hrun:(execOp a.eval o).run P w=.ok (.value v) w) (hk:K ⟨x,[],[]⟩∨L ⟨x,[],[]⟩) (hv:VR g w v x):o.wp P a w K' Q':=by
 unfold Oper.wp
 rw [hrun]
 exact hF _ hk g v w (a07.val x hR.hp.lt rfl rfl rfl rfl) (a0v.val x) hv
theorem a7f {s:Sem Value} {v:Value} {w w':World} (h:s.run P w=.ok v w'):(do pure (Next.value (←s)):Sem Next).run P w=.ok (.value v) w':=by
 simp [h]
theorem VR.int_inv {v:Value} {k:IntKind} {n:Int} (h:VR g w v (.int k n)):v=.int k n∧inR k n:=by
 cases h with|rd h=>cases h with|int _ _ h=>exact ⟨rfl,h⟩
theorem VR.bool_inv {v:Value} {b:Bool} (h:VR g w v (.bool b)):v=.bool b:=by
 cases h with|rd h=>cases h;rfl
theorem VR.str_inv {v:Value} {s:List UInt8} (h:VR g w v (.str s)):∃t:ByteArray,v=.string t∧t.data.toList=s∧t.size≤maxLen:=by
 cases h with|rd h=>cases h with|str t ht=>exact ⟨t,rfl,rfl,ht⟩
theorem VR.ptr_inv {v:Value} {id off:Nat} (h:VR g w v (.ptr id off)):v=.pointer (some ⟨g.ρ id,off,none⟩):=by
 cases h with
 | rd h=>cases h
 | ptr=>rfl
theorem VR.optr_inv {v:Value} {id k i off:Nat} (h:VR g w v (.optr id k i off)):v=.pointer (some ⟨g.ρ id,(g.base id+i)*k+off,none⟩):=by
 cases h with
 | rd h=>cases h
 | optr=>rfl
theorem VR.bptr_inv {v:Value} {id:Nat} (h:VR g w v (.bptr id)):v=.pointer none∨v=.pointer (some ⟨g.ρ id,0,none⟩):=by
 cases h with
 | rd h=>cases h
 | bnil=>exact .inl rfl
 | bself=>exact .inr rfl
theorem VR.omap_inv {v:Value} {id:Nat} (h:VR g w v (.omap id)):v=.map (some (g.ρ id)):=by
 cases h with
 | rd h=>cases h
 | omap=>rfl
theorem VR.nils_inv {v:Value} (h:VR g w v .nils):v=.slice none 0 0:=by
 cases h with|rd h=>cases h;rfl
theorem VR.eptr_inv {v:Value} {x:V} {off:Nat} (h:VR g w v (.eptr x off)):∃(b o:Nat) (cur:Array Value) (e:TypeId) (fz:Nat×Nat),v=.pointer (some ⟨b,o+off,none⟩)∧g.S b∧w.heap[b]?=some (.cells cur e fz) ∧
  o+x.cells.length≤cur.size∧∀(j:Nat) (c:V),x.cells[j]?=some c→Rd g.S w (cur.getD (o+j) undef) c:=by
 cases h with
 | rd h=>cases h
 | eptr b o off cur e fz x hS hg hb hr=>exact ⟨b,o,cur,e,fz,rfl,hS,hg,hb,hr⟩
theorem VR.osl_inv {v:Value} {id k lo len:Nat} (h:VR g w v (.osl id k lo len)):(g.nil id∧v=.slice none 0 0∧len=0) ∨
  (¬g.nil id∧∃o c,v=.slice (some ⟨g.ρ id,o,none⟩) len c∧(c=0∨o=(g.base id+lo)*k)∧lo+c≤g.cap id∧len≤c∧c≤maxLen):=by
 cases h with
 | rd h=>cases h
 | oslnil _ _ _ h=>exact .inl ⟨h,rfl,rfl⟩
 | osl _ _ _ _ o c h ho hc hl hm=>exact .inr ⟨h,o,c,rfl,ho,hc,hl,hm⟩
theorem VR.sl_inv {v:Value} {xs:List V} (h:VR g w v (.sl xs)):Rd g.S w v (.sl xs):=by
 cases h with|rd h=>exact h
theorem VR.agg_inv {v:Value} {cs:List V} (h:VR g w v (.agg cs)):∃vs:Array Value,v=.agg vs∧vs.size=cs.length∧∀(i:Nat) (c:V),cs[i]?=some c→VR g w (vs.getD i undef) c:=by
 cases h with
 | rd h =>
  obtain ⟨vs,rfl,hl,hr⟩:=h.agg_inv
  exact ⟨vs,rfl,hl,fun i c hc=>.rd (hr i c hc)⟩
 | agg vs _ hl hr=>exact ⟨vs,rfl,hl,hr⟩
theorem VR.tup_inv {v:Value} {cs:List V} (h:VR g w v (.tup cs)):∃vs:Array Value,v=.tuple vs∧vs.size=cs.length∧∀(i:Nat) (c:V),cs[i]?=some c→VR g w (vs.getD i undef) c:=by
 cases h with
 | rd h=>cases h
 | tup vs _ hl hr=>exact ⟨vs,rfl,hl,hr⟩
theorem VR.fn_inv {v:Value} {n:Nat} {cs:List V} (h:VR g w v (.fn (.func n) cs)):∃vs:Array Value,v=.func (.func n) #[] vs∧vs.size=cs.length∧∀(i:Nat) (c:V),cs[i]?=some c→VR g w (vs.getD i undef) c:=by
 cases h with
 | rd h=>cases h;exact ⟨#[],rfl,rfl,fun i c hc=>by simp at hc⟩
 | fn _ vs _ hl hr=>exact ⟨vs,rfl,hl,hr⟩
theorem VR.sc_rd {v:Value} {x:V} (h:VR g w v x) (hs:x.sc=true):Rd g.S w v x:=by
 cases h with
 | fn n vs cs hl hr=>cases cs with
  | nil=>rw [Array.eq_empty_of_size_eq_zero hl];exact .fnc n
  | cons=>simp [V.sc] at hs
 | _=>first|assumption|(simp [V.sc] at hs)
theorem VR.sealed_rd {v:Value} {x:V} (h:VR g w v x) (hs:x.sealed=true):Rd g.S w v x:=by
 cases x with
 | agg cs =>
  obtain ⟨vs,rfl,hl,hr⟩:=h.agg_inv
  refine .agg vs cs hl fun i c hc=>(hr i c hc).sc_rd ?_
  simp only [V.sealed,wF] at hs
  exact hs c (xB hc)
 | _=>exact h.sc_rd hs
theorem VR.nsl_val {z k:Nat} {xs:List V} {v:Value} (h:VR g w v (.nsl z k xs)):∃p l c,v=.slice p l c:=by
 cases h with
 | rd h=>cases h
 | nsl _ _ _ _ h =>
  rcases h with ⟨rfl,_⟩|⟨b,o,base,cap,c,rfl,_⟩
  ·exact ⟨_,_,_,rfl⟩
  ·exact ⟨_,_,_,rfl⟩
theorem VR.nsmap_val {z k:Nat} {kd:KD} {es:List (V×V)} {v:Value} (h:VR g w v (.nsmap z k kd es)):∃b,v=.map (some b):=by
 cases h with
 | rd h=>cases h
 | nsmap b=>exact ⟨b,rfl⟩
theorem VR.one_cell {v:Value} {x:V} (h:VR g w v x) (hs:x.one=true):v.oneCell'=true:=by
 cases h with
 | rd h=>cases h<;>first|rfl|(simp [V.one] at hs)
 | any=>simp [V.one] at hs
 | at_=>simp [V.one] at hs
 | agg=>simp [V.one] at hs
 | tup=>simp [V.one] at hs
 | nsl z k xs v hn=>obtain ⟨p,l,c,rfl⟩:=VR.nsl_val (.nsl z k xs v hn);rfl
 | _=>rfl
theorem VR.cells_of {v:Value} {x:V} (h:VR g w v x) (hx:x.nany=true):v.cells.size=x.cells.length∧∀(i:Nat) (c:V),x.cells[i]?=some c→VR g w (v.cells.getD i undef) c:=by
 have one:∀{v:Value} {x:V},VR g w v x→v.cells=#[v]→x.cells=[x]→v.cells.size=x.cells.length∧∀(i:Nat) (c:V),x.cells[i]?=some c→VR g w (v.cells.getD i undef) c:=by
  intro v x h h1 h2
  rw [h1,h2]
  refine ⟨rfl,fun i c hc=>?_⟩
  cases i with
  | zero=>simp at hc;subst hc;simpa using h
  | succ i=>simp at hc
 cases x with
 | agg cs =>
  obtain ⟨vs,rfl,hl,hr⟩:=h.agg_inv
  exact ⟨hl,hr⟩
 | any=>cases hx
 | at_=>cases hx
 | adr b off=>cases h with|rd h=>cases h;exact one (.rd (.adr b off)) rfl rfl
 | bool b=>exact one h (by rw [h.bool_inv];rfl) rfl
 | int k n=>exact one h (by rw [h.int_inv.1];rfl) rfl
 | str s=>obtain ⟨t,rfl,_⟩:=h.str_inv;exact one h rfl rfl
 | nils=>exact one h (by rw [h.nils_inv];rfl) rfl
 | nilp=>cases h with|rd h=>cases h;exact one (.rd .nilp) rfl rfl
 | ifc b=>cases h with|rd h=>cases h with
  | ifcn=>exact one (.rd .ifcn) rfl rfl
  | ifcs t p=>exact one (.rd (.ifcs t p)) rfl rfl
 | nilm=>cases h with|rd h=>cases h;exact one (.rd .nilm) rfl rfl
 | nilf=>cases h with|rd h=>cases h;exact one (.rd .nilf) rfl rfl
 | nili=>cases h with|rd h=>cases h;exact one (.rd .nili) rfl rfl
 | tup cs=>obtain ⟨vs,rfl,_⟩:=h.tup_inv;exact one h rfl rfl
 | sl xs =>
  have h':=h.sl_inv
  cases h' with
  | nilsl=>exact one h rfl rfl
  | slz=>exact one h rfl rfl
  | sl=>exact one h rfl rfl
 | ptr id off=>exact one h (by rw [h.ptr_inv];rfl) rfl
 | eptr x off=>obtain ⟨b,o,cur,e,fz,rfl,_⟩:=h.eptr_inv;exact one h rfl rfl
 | osl id k lo len=>rcases h.osl_inv with ⟨_,rfl,_⟩|⟨_,o,c,rfl,_⟩<;>exact one h rfl rfl
 | optr id k i off=>exact one h (by rw [h.optr_inv];rfl) rfl
 | omap id=>exact one h (by rw [h.omap_inv];rfl) rfl
 | bptr id=>exact one h (by rcases h.bptr_inv with e|e<;>rw [e]<;>rfl) rfl
 | smap kd es=>cases h with|rd h=>cases h with|smap b kd ents clock es hS hg hl hk hb hn hr1 hr2=>exact one (.rd (.smap b kd ents clock es hS hg hl hk hb hn hr1 hr2)) rfl rfl
 | fn f cs=>cases h with
  | rd h=>cases h with|fnc n=>exact one (.rd (.fnc n)) rfl rfl
  | fn _ vs _ hl hr=>exact one (.fn _ vs _ hl hr) rfl rfl
  | bnd n vs _ hl hr=>exact one (.bnd n vs _ hl hr) rfl rfl
 | nsl z k xs=>obtain ⟨p,l,c,rfl⟩:=h.nsl_val;exact one h rfl rfl
 | nsmap z k kd es=>obtain ⟨b,rfl⟩:=h.nsmap_val;exact one h rfl rfl
theorem g75 {x:Opd} (hok:(a06.mv x).ok P o.op=true) (hR:Rel P c g σ a w) {d:Nat} (h:w9 P (.mv x) d [x.ev σ.env] ob K L) (hF:Fin o c g σ a w K L K'):o.wp P a w K' Q':=by
 have:∃y,(o.op=.move y∨o.op=.assign y)∧x.ok y=true:=by
  cases ho:o.op<;>simp [a06.ok,ho] at hok
  ·exact ⟨_,.inl rfl,hok⟩
  ·exact ⟨_,.inr rfl,hok⟩
 obtain ⟨y,ho,hx⟩:=this
 refine a09 hR hF (v:=a.eval y) ?_ (.inl h) (Opd.vr hR hx)
 rcases ho with ho|ho<;>simp [execOp,ho]
theorem e3e {x y z:Opd} (hok:(a06.pick x y z).ok P o.op=true) (hR:Rel P c g σ a w) {d:Nat} (h:w9 P (.pick x y z) d [x.ev σ.env,y.ev σ.env,z.ev σ.env] ob K L) (hF:Fin o c g σ a w K L K'):o.wp P a w K' Q':=by
 cases ho:o.op<;>simp [a06.ok,ho] at hok
 rename_i x' y' z'
 obtain ⟨⟨hx,hy⟩,hz⟩:=hok
 have vx:=Opd.vr hR hx
 have vy:=Opd.vr hR hy
 have vz:=Opd.vr hR hz
 simp only [w9,b91,evl] at h
 cases hc:x.ev σ.env<;>simp only [hc] at h<;>try exact h.elim
 rename_i t
 rw [hc] at vx
 have hrun:(execOp a.eval o).run P w=.ok (.value (if t then a.eval y' else a.eval z')) w:=by
  simp [execOp,ho,vx.bool_inv,asBool]
 have gen:∀r,K ⟨r,[],[]⟩→VR g w (if t then a.eval y' else a.eval z') r→o.wp P a w K' Q':=fun r hk hv=>a09 hR hF hrun (.inl hk) hv
 split at h
 ·rename_i p q hp hq
  rw [hp] at vy;rw [hq] at vz
  refine gen _ h ?_
  cases t<;>simp [vy.bool_inv,vz.bool_inv]<;>exact .rd (.bool _)
 ·cases t
  ·exact gen _ h (by simpa using vz)
  ·exact gen _ h (by simpa using vy)
theorem f8z {x:Opd} (hok:(a06.nck x).ok P o.op=true) (hR:Rel P c g σ a w) {d:Nat} (h:w9 P (.nck x) d [x.ev σ.env] ob K L) (hF:Fin o c g σ a w K L K'):o.wp P a w K' Q':=by
 cases ho:o.op<;>simp [a06.ok,ho] at hok
 rename_i y
 have vx:=Opd.vr hR hok
 simp only [w9,e0s,evl] at h
 have hrun:(∃ad,a.eval y=.pointer (some ad))→(execOp a.eval o).run P w=.ok (.value (a.eval y)) w:=by
  rintro ⟨ad,e⟩
  simp [execOp,ho,e]
 cases hc:x.ev σ.env<;>simp only [hc] at h<;>try exact h.elim
 ·rw [hc] at vx;exact a09 hR hF (hrun ⟨_,vx.ptr_inv⟩) (.inl h) vx
 ·rw [hc] at vx
  obtain ⟨b,o',cur,e,fz,hv,_⟩:=vx.eptr_inv
  exact a09 hR hF (hrun ⟨_,hv⟩) (.inl h) vx
 ·rw [hc] at vx;exact a09 hR hF (hrun ⟨_,vx.optr_inv⟩) (.inl h) vx
theorem f9k {i:Nat} {x:Opd} (hok:(a06.ext i x).ok P o.op=true) (hR:Rel P c g σ a w) {d:Nat} (h:w9 P (.ext i x) d [x.ev σ.env] ob K L) (hF:Fin o c g σ a w K L K'):o.wp P a w K' Q':=by
 cases ho:o.op<;>simp [a06.ok,ho] at hok
 rename_i y j
 obtain ⟨hx,rfl⟩:=hok
 have vx:=Opd.vr hR hx
 simp only [w9,d5y,evl] at h
 cases hc:x.ev σ.env<;>simp only [hc] at h<;>try exact h.elim
 rename_i cs
 rw [hc] at vx
 obtain ⟨vs,hv,hl,hr⟩:=vx.tup_inv
 split at h
 ·rename_i q r hd
  have hi:cs[i]?=some q:=by
   have:=congrArg (·[0]?) hd
   simpa using this
  have hlt:i<vs.size:=by rw [hl];exact (zG.1 hi).1
  refine a09 hR hF (v:=vs.getD i undef) ?_ (.inl h) (hr i q hi)
  simp [execOp,ho,hv,Instr.extract,zC,hlt]
 ·exact h.elim
theorem f8x {x:Opd} (hok:(a06.not x).ok P o.op=true) (hR:Rel P c g σ a w) {d:Nat} (h:w9 P (.not x) d [x.ev σ.env] ob K L) (hF:Fin o c g σ a w K L K'):o.wp P a w K' Q':=by
 have:∃t y,o.op=.unOp .not t y∧x.ok y=true:=by
  cases ho:o.op<;>simp [a06.ok,ho] at hok
  rename_i op t y
  cases op<;>simp [a06.ok] at hok
  exact ⟨t,y,rfl,hok⟩
 obtain ⟨t,y,ho,hx⟩:=this
 have vx:=Opd.vr hR hx
 simp only [w9,e0q,evl] at h
 cases hc:x.ev σ.env<;>simp only [hc] at h<;>try exact h.elim
 rw [hc] at vx
 refine a09 hR hF ?_ (.inl h) (.rd (.bool _))
 simp [execOp,ho,vx.bool_inv,Op.unary]
theorem a3b (k:IntKind) (n:Int):inR k (k.wrap n):=by
 rw [a1a]
 cases k<;>simp [rng,IntKind.wrap,IntKind.signed,IntKind.bits]<;>(try split)<;>omega
theorem a1w {k:IntKind} {n:Int} (h:rng k n):k.wrap n=n:=by
 cases k<;>simp [rng,IntKind.wrap,IntKind.signed,IntKind.bits] at*<;> (try split)<;>omega
theorem f8y {ch:Bool} {x:Opd} (hok:(a06.neg ch x).ok P o.op=true) (hR:Rel P c g σ a w) {d:Nat} (h:w9 P (.neg ch x) d [x.ev σ.env] ob K L) (hF:Fin o c g σ a w K L K'):o.wp P a w K' Q':=by
 have:∃t y,o.op=.unOp .neg t y∧x.ok y=true:=by
  cases ho:o.op<;>simp [a06.ok,ho] at hok
  rename_i op t y
  cases op<;>simp [a06.ok] at hok
  exact ⟨t,y,rfl,hok⟩
 obtain ⟨t,y,ho,hx⟩:=this
 have vx:=Opd.vr hR hx
 simp only [w9,e0r,evl] at h
 cases hc:x.ev σ.env<;>simp only [hc] at h<;>try exact h.elim
 rename_i k n
 rw [hc] at vx
 have hrun:(execOp a.eval o).run P w=.ok (.value (.int k (k.wrap (0 - n)))) w:=by
  simp [execOp,ho,vx.int_inv.1,Op.unary,Op.intArith]
 cases ch
 ·exact a09 hR hF hrun (.inl h) (.rd (.int _ _ (a3b _ _)))
 ·obtain ⟨h1,h2⟩:=h
  have e:k.wrap (0 - n)=-n:=by rw [Int.zero_sub];exact a1w h1
  rw [e] at hrun
  exact a09 hR hF hrun (.inl h2) (.rd (.int _ _ (a1a.2 h1)))
theorem f9i {ch:Bool} {k:IntKind} {x:Opd} (hok:(a06.i2i ch k x).ok P o.op=true) (hR:Rel P c g σ a w) {d:Nat} (h:w9 P (.i2i ch k x) d [x.ev σ.env] ob K L) (hF:Fin o c g σ a w K L K'):o.wp P a w K' Q':=by
 cases ho:o.op<;>simp [a06.ok,ho] at hok
 rename_i s dd y
 obtain ⟨⟨hx,hs⟩,hd⟩:=hok
 have vx:=Opd.vr hR hx
 simp only [w9,e0u,evl] at h
 cases hc:x.ev σ.env<;>simp only [hc] at h<;>try exact h.elim
 rename_i k' n
 rw [hc] at vx
 obtain ⟨ds,hds⟩:=Option.isSome_iff_exists.1 hs
 have hdd:P.underlying dd=some (.int k):=by
  split at hd
  ·rename_i k2 he
   rw [he,b0k hd]
  ·cases hd
 have hrun:(execOp a.eval o).run P w=.ok (.value (.int k (k.wrap n))) w:=by
  simp [execOp,ho,vx.int_inv.1,convert,run_underlying hds,run_underlying hdd,Conv.intToInt]
 cases ch
 ·exact a09 hR hF hrun (.inl h) (.rd (.int _ _ (a3b _ _)))
 ·obtain ⟨h1,h2⟩:=h
  rw [a1w h1] at hrun
  exact a09 hR hF hrun (.inl h2) (.rd (.int _ _ (a1a.2 h1)))
theorem a97 (op:BinOp) (k:IntKind) (x y:Int):inR k (bits op k x y):=a3b _ _
end
end Go.Ab
namespace Go.Ab
open Go.RowKit
section
variable {P:Program} {o:Oper} {c:Ctx} {g:Gh} {σ:St} {a:Act} {w:World} {ob:Nat→Option a0c} {K L:Eff→Prop} {K':Act→World→Prop} {Q':Exit→Act→World→Prop}
theorem b6c (op:BinOp) (t:TypeId) (x y:ByteArray):binOp op t (.string x) (.string y)=Op.stringOp op x y:=by cases op<;>rfl
theorem c7c {k:IntKind} {x:Int} (h:inR k x) (n:Nat):inR k (x / 2^n):=by
 rw [a1a] at *
 have hp:(0:Int)<2^n:=Int.pow_pos (by decide)
 have h1:0≤x→0≤x / 2^n∧x / 2^n≤x:=fun hx=>⟨Int.ediv_nonneg hx (vI hp),Int.ediv_le_self _ hx⟩
 have h2:x<0→x≤x / 2^n∧x / 2^n<0:=by
  intro hx
  refine ⟨?_,Int.ediv_neg_of_neg_of_pos hx hp⟩
  have:=Int.le_ediv_of_mul_le hp (a:=x) (b:=x) (by
   have h1:(1:Int)≤2^n:=hp
   have:=Int.mul_le_mul_of_nonpos_left (vI hx) h1
   simpa using this)
  exact this
 by_cases hx:0≤x
 ·have:=h1 hx
  cases k<;>simp [rng] at*<;> omega
 ·have:=h2 (by omega)
  cases k<;>simp [rng] at*<;> omega
theorem c1r {k:IntKind} {x y:Int} (h:inR k x):inR k (x.tmod y):=by
 rw [a1a] at *
 have h1:0≤x→0≤x.tmod y∧x.tmod y≤x:=by
  intro hx
  refine ⟨Int.tmod_nonneg _ hx,?_⟩
  rw [Int.tmod_eq_emod_of_nonneg hx]
  by_cases hy:y=0
  ·subst hy;simp
  ·have:=Int.emod_emod_of_dvd x (Int.dvd_refl y)
   have h2:=Int.mul_ediv_add_emod x y
   have h3:0≤y*(x / y):=by
    rcases Int.lt_or_gt_of_ne hy with hy|hy
    ·have:x / y≤0:=Int.ediv_nonpos_of_nonneg_of_nonpos hx (vI hy)
     exact Int.mul_nonneg_of_nonpos_of_nonpos (vI hy) this
    ·exact Int.mul_nonneg (vI hy) (Int.ediv_nonneg hx (vI hy))
   omega
 by_cases hx:0≤x
 ·have:=h1 hx
  cases k<;>simp [rng] at*<;> omega
 ·have h2:x≤x.tmod y∧x.tmod y≤0:=by
   have hn:0≤-x:=by omega
   have e:x.tmod y=-((-x).tmod y):=by rw [Int.neg_tmod];omega
   have q1:=Int.tmod_nonneg y hn
   have q2:(-x).tmod y≤-x:=by
    rw [Int.tmod_eq_emod_of_nonneg hn]
    by_cases hy:y=0
    ·subst hy;simp
    ·have h2:=Int.mul_ediv_add_emod (-x) y
     have h3:0≤y*((-x) / y):=by
      rcases Int.lt_or_gt_of_ne hy with hy|hy
      ·have:(-x) / y≤0:=Int.ediv_nonpos_of_nonneg_of_nonpos hn (vI hy)
       exact Int.mul_nonneg_of_nonpos_of_nonpos (vI hy) this
      ·exact Int.mul_nonneg (vI hy) (Int.ediv_nonneg hn (vI hy))
     omega
   omega
  cases k<;>simp [rng] at*<;> omega
theorem f9p {ch:Bool} {op:BinOp} {x y:Opd} (hok:(a06.bin ch op x y).ok P o.op=true) (hR:Rel P c g σ a w) {d:Nat} (h:w9 P (.bin ch op x y) d [x.ev σ.env,y.ev σ.env] ob K L) (hF:Fin o c g σ a w K L K'):o.wp P a w K' Q':=by
 have:∃t x' y' t',o.op=.binOp op t x' y' t'∧x.ok x'=true∧y.ok y'=true:=by
  cases ho:o.op<;>simp [a06.ok,ho] at hok
  obtain ⟨⟨h1,h2⟩,h3⟩:=hok
  subst h1
  exact ⟨_,_,_,_,rfl,h2,h3⟩
 obtain ⟨t,x',y',t',ho,hx,hy⟩:=this
 have vx:=Opd.vr hR hx
 have vy:=Opd.vr hR hy
 simp only [w9,d3u,evl] at h
 split at h
 ·rename_i k p k' q hp hq
  rw [hp] at vx;rw [hq] at vy
  obtain ⟨ex,rx⟩:=vx.int_inv
  obtain ⟨ey,ry⟩:=vy.int_inv
  have gen:∀v r,(binOp op t (.int k p) (.int k' q)).run P w=.ok v w→K ⟨r,[],[]⟩→VR g w v r→o.wp P a w K' Q':=fun v r hrun hk hv =>
   a09 hR hF (v:=v) (by simp [execOp,ho,ex,ey,eqGuard_at_int,hrun]) (.inl hk) hv
  have b2:∀{p:Prop} [Decidable p] {b:Bool},(b=decide p)→VR g w (.bool b) (.bool (decide p)):=by
   rintro p _ b rfl;exact .rd (.bool _)
  by_cases hkk:kEq k k'=true
  case neg =>
   cases op<;>simp [hkk] at h
   ·exact gen _ _ (by simp [binOp_shl,shift_shl _ _ _ _ h.1.1 h.1.2]) h.2 (.rd (.int _ _ (a3b _ _)))
   ·exact gen _ _ (by simp [binOp_shr,shift_shr _ _ _ _ h.1.1 h.1.2]) h.2 (.rd (.int _ _ (c7c rx _)))
  have hkk':=b0k hkk
  subst hkk'
  cases op<;>simp only [hkk,vQ] at h
  ·cases ch
   ·exact gen _ _ (by simp [binOp_add,Op.intArith]) h (.rd (.int _ _ (a3b _ _)))
   ·exact gen (.int k (p+q)) _ (by simp [binOp_add,Op.intArith,a1w h.1]) h.2 (.rd (.int _ _ (a1a.2 h.1)))
  ·cases ch
   ·exact gen _ _ (by simp [binOp_sub,Op.intArith]) h (.rd (.int _ _ (a3b _ _)))
   ·exact gen (.int k (p - q)) _ (by simp [binOp_sub,Op.intArith,a1w h.1]) h.2 (.rd (.int _ _ (a1a.2 h.1)))
  ·cases ch
   ·exact gen _ _ (by simp [binOp_mul,Op.intArith]) h (.rd (.int _ _ (a3b _ _)))
   ·exact gen (.int k (p*q)) _ (by simp [binOp_mul,Op.intArith,a1w h.1]) h.2 (.rd (.int _ _ (a1a.2 h.1)))
  ·cases ch
   ·simp only [vO] at h
    exact gen (.int k (k.wrap (p.tdiv q))) _ (by simp [binOp_quo,Op.intDiv,h.1]) h.2 (.rd (.int _ _ (a3b _ _)))
   ·simp only [vQ] at h
    obtain ⟨⟨h1,h2⟩,h3⟩:=h
    have hq0:q≠0:=by omega
    have e:p.tdiv q=p / q:=Int.tdiv_eq_ediv_of_nonneg h1
    have hr:inR k (p / q):=by
     have a1:0≤p / q:=Int.ediv_nonneg h1 (vI h2)
     have a2:p / q≤p:=Int.ediv_le_self _ h1
     rw [a1a] at *
     cases k<;>simp [rng] at*<;> omega
    exact gen (.int k (p / q)) _ (by simp [binOp_quo,Op.intDiv,hq0,e,a1w (a1a.1 hr)]) h3 (.rd (.int _ _ hr))
  ·cases ch
   ·simp only [vO] at h
    exact gen (.int k (p.tmod q)) _ (by simp [binOp_rem,Op.intDiv,h.1]) h.2 (.rd (.int _ _ (c1r rx)))
   ·simp only [vQ] at h
    obtain ⟨⟨h1,h2⟩,h3⟩:=h
    have hq0:q≠0:=by omega
    have e:p.tmod q=p % q:=Int.tmod_eq_emod_of_nonneg h1
    have hr:inR k (p % q):=by rw [←e];exact c1r rx
    exact gen (.int k (p % q)) _ (by simp [binOp_rem,Op.intDiv,hq0,e]) h3 (.rd (.int _ _ hr))
  ·exact gen _ _ (by simp [binOp_and,intBits_and]) h (.rd (.int _ _ (a97 _ _ _ _)))
  ·exact gen _ _ (by simp [binOp_or,intBits_or]) h (.rd (.int _ _ (a97 _ _ _ _)))
  ·exact gen _ _ (by simp [binOp_xor,intBits_xor]) h (.rd (.int _ _ (a97 _ _ _ _)))
  ·exact gen _ _ (by simp [binOp_shl,shift_shl _ _ _ _ h.1.1 h.1.2]) h.2 (.rd (.int _ _ (a3b _ _)))
  ·exact gen _ _ (by simp [binOp_shr,shift_shr _ _ _ _ h.1.1 h.1.2]) h.2 (.rd (.int _ _ (c7c rx _)))
  ·exact gen _ _ (by simp [binOp_andNot,intBits_andNot]) h (.rd (.int _ _ (a97 _ _ _ _)))
  ·exact gen (.bool (decide (p=q))) _ (by simp [binOp_eql];rw [wU];simp) h (.rd (.bool _))
  ·exact gen (.bool (!decide (p=q))) _ (by simp [binOp_neq,bne];rw [wU];simp) h (.rd (.bool _))
  ·exact gen _ _ (by simp [binOp_lss]) h (b2 rfl)
  ·exact gen _ _ (by simp [binOp_leq]) h (b2 rfl)
  ·exact gen _ _ (by simp [binOp_gtr]) h (b2 rfl)
  ·exact gen _ _ (by simp [binOp_geq]) h (b2 rfl)
 ·rename_i p q hp hq
  rw [hp] at vx;rw [hq] at vy
  obtain ⟨tx,ex,hx1,hx2⟩:=vx.str_inv
  obtain ⟨ty,ey,hy1,hy2⟩:=vy.str_inv
  have gen:∀v r,(Op.stringOp op tx ty).run P w=.ok v w→K ⟨r,[],[]⟩→VR g w v r→o.wp P a w K' Q':=fun v r hrun hk hv =>
   a09 hR hF (v:=v) (by simp [execOp,ho,ex,ey,eqGuard_at_string,b6c,hrun]) (.inl hk) hv
  have lx:tx.toList=p:=by rw [ByteArray.toList_eq,hx1]
  have ly:ty.toList=q:=by rw [ByteArray.toList_eq,hy1]
  have sx:tx.size=p.length:=by rw [←hx1,xG];rfl
  have sy:ty.size=q.length:=by rw [←hy1,xG];rfl
  have eqb:(p==q)=decide (p=q):=by rw [wU];simp
  cases op<;>simp only at h<;>try exact h.elim
  ·obtain ⟨h1,h2⟩:=h;replace h1:=c0j.1 h1
   have hn:¬((tx.size+ty.size:Nat):Int) > IntKind.i64.max:=by rw [IntKind.max_i64];omega
   refine gen (.string (tx++ty)) _ (by simp only [Op.stringOp];rw [if_neg hn];rfl) h2 (.rd ?_)
   have e:(tx++ty).data.toList=p++q:=by rw [←hx1,←hy1];simp
   rw [←e]
   refine .str _ ?_
   have:(tx++ty).size=(tx++ty).data.toList.length:=by rw [xG];rfl
   rw [this,e,xK,maxLen]
   omega
  ·exact gen (.bool (decide (p=q))) _ (by simp [Op.stringOp,lx,ly,eqb]) h (.rd (.bool _))
  ·exact gen (.bool (!decide (p=q))) _ (by simp [Op.stringOp,lx,ly,eqb]) h (.rd (.bool _))
  ·exact gen (.bool (Op.bytesLess p q)) _ (by simp [Op.stringOp,lx,ly]) h (.rd (.bool _))
  ·exact gen (.bool (Op.bytesLess p q||decide (p=q))) _ (by simp [Op.stringOp,lx,ly,eqb]) h (.rd (.bool _))
  ·exact gen (.bool (!(Op.bytesLess p q||decide (p=q)))) _ (by simp [Op.stringOp,lx,ly,eqb]) h (.rd (.bool _))
  ·exact gen (.bool (!Op.bytesLess p q)) _ (by simp [Op.stringOp,lx,ly]) h (.rd (.bool _))
 ·exact h.elim
theorem d84 (k:IntKind) (x:Int) (m:Nat) (hm:m<k.bits):bits .and k x (2^m - 1)=x % 2^m:=by
 have hp:(0:Nat)<2^m:=Nat.pow_pos (by decide)
 have hlt:2^m<2^k.bits:=Nat.pow_lt_pow_right (by decide) hm
 have e1:(BitVec.ofInt k.bits (2^m - 1:Int)).toNat=2^m - 1:=by
  have:(2^m - 1:Int)=((2^m - 1:Nat):Int):=by
   rw [Int.ofNat_sub hp];simp
  rw [this,BitVec.ofInt_natCast,BitVec.toNat_ofNat,Nat.mod_eq_of_lt (by omega)]
 have e2:((BitVec.ofInt k.bits x &&& BitVec.ofInt k.bits (2^m - 1:Int)).toNat:Int)=x % 2^m:=by
  rw [BitVec.toNat_and,e1,Nat.and_two_pow_sub_one_eq_mod,BitVec.toNat_ofInt]
  have hb:(0:Int)<2^k.bits:=Int.pow_pos (by decide)
  have h0:=Int.emod_nonneg x (Int.ne_of_gt hb)
  rw [Int.natCast_emod]
  have:(((x % ((2^k.bits:Nat):Int)).toNat:Nat):Int)=x % 2^k.bits:=by
   rw [Int.toNat_of_nonneg (by simpa using h0)];simp
  rw [this]
  have hd:(2^m:Int) ∣ 2^k.bits:=by
   have:=Int.natCast_dvd_natCast.2 (Nat.pow_dvd_pow 2 (Nat.le_of_lt hm))
   simpa using this
  have:=Int.emod_emod_of_dvd x hd
  simpa using this
 unfold bits
 simp only [e2]
 refine a1w ?_
 have h0:=Int.emod_nonneg x (Int.ne_of_gt (Int.pow_pos (n:=2) (m:=m) (by decide)))
 have h1:=Int.emod_lt_of_pos x (Int.pow_pos (n:=2) (m:=m) (by decide))
 have h2:(2^m:Int)≤2^(k.bits - 1):=by
  have:(2:Nat)^m≤2^(k.bits - 1):=Nat.pow_le_pow_right (by decide) (by omega)
  exact_mod_cast this
 have h3:x % 2^m<2^(k.bits - 1):=Int.lt_of_lt_of_le h1 h2
 clear h1 h2 e2 e1 hlt hp hm
 obtain ⟨r,hr⟩:∃r,r=x % 2^m:=⟨_,rfl⟩
 rw [←hr] at h0 h3 ⊢
 clear hr
 cases k<;>simp only [rng,IntKind.bits] at h3 ⊢<;>omega
theorem e3i {m:Nat} {x:Opd} {k:IntKind} (hok:(a06.mask m x k).ok P o.op=true) (hR:Rel P c g σ a w) {d:Nat} (h:w9 P (.mask m x k) d [x.ev σ.env] ob K L) (hF:Fin o c g σ a w K L K'):o.wp P a w K' Q':=by
 have:∃t x' n t',o.op=.binOp .and t x' (.const (.int k n)) t'∧x.ok x'=true∧n=2^m - 1∧m<k.bits:=by
  cases ho:o.op<;>rw [ho] at hok<;>try (simp [a06.ok] at hok;done)
  rename_i op t x' y t'
  cases op<;>try (simp [a06.ok] at hok;done)
  cases y<;>try (simp [a06.ok] at hok;done)
  rename_i v
  cases v<;>try (simp [a06.ok] at hok;done)
  rename_i k' n
  simp [a06.ok] at hok
  obtain ⟨⟨⟨h1,h2⟩,h3⟩,h4⟩:=hok
  have:=b0k h2;subst this
  exact ⟨t,x',n,t',rfl,h1,h3,by simpa [Nat.blt_eq] using h4⟩
 obtain ⟨t,x',n,t',ho,hx,rfl,hm⟩:=this
 have vx:=Opd.vr hR hx
 simp only [w9,b93,evl] at h
 cases hc:x.ev σ.env<;>simp only [hc] at h<;>try exact h.elim
 rename_i k' p
 rw [hc] at vx
 by_cases hk:kEq k k'=true
 case neg=>simp [hk] at h
 simp only [hk,vQ] at h
 have:=b0k hk;subst this
 obtain ⟨ex,rx⟩:=vx.int_inv
 refine a09 hR hF (v:=.int k (bits .and k p (2^m - 1))) ?_ (.inl h) ?_
 ·have:a.eval (.const (.int k (2^m - 1)))=.int k (2^m - 1):=rfl
  simp [execOp,ho,ex,this,eqGuard_and,binOp_and,intBits_and]
 ·rw [←d84 k p m hm]
  exact .rd (.int _ _ (a97 _ _ _ _))
theorem f9q {ng:Bool} {x y:Opd} (hok:(a06.beq ng x y).ok P o.op=true) (hR:Rel P c g σ a w) {d:Nat} (h:w9 P (.beq ng x y) d [x.ev σ.env,y.ev σ.env] ob K L) (hF:Fin o c g σ a w K L K'):o.wp P a w K' Q':=by
 cases ho:o.op<;>simp [a06.ok,ho] at hok
 rename_i op t x' y' t'
 obtain ⟨⟨⟨h1,hx⟩,hy⟩,ht⟩:=hok
 have ht':P.underlying t=some .bool:=by unfold c7b at ht;split at ht<;>simp_all
 have vx:=Opd.vr hR hx
 have vy:=Opd.vr hR hy
 simp only [w9,e0w,evl] at h
 split at h
 ·rename_i p q hp hq
  rw [hp] at vx;rw [hq] at vy
  refine a09 hR hF (v:=.bool (bif ng then !(p==q) else p==q)) ?_ (.inl h) (.rd (.bool _))
  cases ng<;>simp at h1<;>subst h1<;>simp [execOp,ho,vx.bool_inv,vy.bool_inv,eqGuard_at_bool,run_eql_bool _ t p q ht',run_neq_bool _ t p q ht']
 ·exact h.elim
theorem a3i:∀(m:Nat) {ks:List Nat} {cs ds:List V} {t:Bool},m≤ks.length→a0q ks cs ds=some t→∃t1 t2,a0q (ks.take m) (cs.take m) (ds.take m)=some t1∧a0q (ks.drop m) (cs.drop m) (ds.drop m)=some t2∧t=(t1&&t2)∧m≤cs.length∧m≤ds.length
 | 0,ks,cs,ds,t,_,h=>⟨true,t,by simp [a0q],by simpa using h,by simp,vJ _,vJ _⟩
 | m+1,ks,cs,ds,t,hm,h=>by
  unfold a0q at h
  split at h
  ·simp at hm
  ·rename_i q k a r k' b s' 
   cases hk:kEq k k' with
   | false=>rw [hk] at h;cases h
   | true =>
    rw [hk] at h
    simp only [vQ,zO] at h
    obtain ⟨t',h1,rfl⟩:=h
    obtain ⟨t1,t2,e1,e2,e3,e4,e5⟩:=a3i m (by simpa using hm) h1
    exact ⟨decide (a=b)&&t1,t2,by simp [a0q,hk,e1],by simpa using e2,by rw [e3,Bool.and_assoc],by simpa using e4,by simpa using e5⟩
  ·rename_i q a r b s'
   simp only [zO] at h
   obtain ⟨t',h1,rfl⟩:=h
   obtain ⟨t1,t2,e1,e2,e3,e4,e5⟩:=a3i m (by simpa using hm) h1
   exact ⟨decide (a=b)&&t1,t2,by simp [a0q,e1],by simpa using e2,by rw [e3,Bool.and_assoc],by simpa using e4,by simpa using e5⟩
  ·rename_i q a r b s'
   simp only [zO] at h
   obtain ⟨t',h1,rfl⟩:=h
   obtain ⟨t1,t2,e1,e2,e3,e4,e5⟩:=a3i m (by simpa using hm) h1
   exact ⟨(a==b)&&t1,t2,by simp [a0q,e1],by simpa using e2,by rw [e3,Bool.and_assoc],by simpa using e4,by simpa using e5⟩
  ·cases h
theorem g7u {qs:List Nat} {cs ds:List V} {t:Bool} (h:a0q (0::qs) cs ds=some t):∃k a b cs' ds' t',cs=.int k a::cs'∧ds=.int k b::ds'∧a0q qs cs' ds'=some t'∧t=(decide (a=b)&&t'):=by
 cases cs with
 | nil=>simp [a0q] at h
 | cons c cs=>cases ds with
  | nil=>cases c<;>simp [a0q] at h
  | cons d ds =>
   cases c<;>cases d<;>simp only [a0q,reduceCtorEq] at h
   rename_i k a k' b
   cases hk:kEq k k' with
   | false=>rw [hk] at h;cases h
   | true =>
    rw [hk] at h
    simp only [vQ,zO] at h
    obtain ⟨t',h1,rfl⟩:=h
    have:=b0k hk;subst this
    exact ⟨k,a,b,cs,ds,t',rfl,rfl,h1,rfl⟩
theorem g7t {qs:List Nat} {cs ds:List V} {t:Bool} (h:a0q (1::qs) cs ds=some t):∃a b cs' ds' t',cs=.str a::cs'∧ds=.str b::ds'∧a0q qs cs' ds'=some t'∧t=(decide (a=b)&&t'):=by
 cases cs with
 | nil=>simp [a0q] at h
 | cons c cs=>cases ds with
  | nil=>cases c<;>simp [a0q] at h
  | cons d ds =>
   cases c<;>cases d<;>simp only [a0q,reduceCtorEq] at h
   simp only [zO] at h
   obtain ⟨t',h1,rfl⟩:=h
   exact ⟨_,_,cs,ds,t',rfl,rfl,h1,rfl⟩
theorem g7s {qs:List Nat} {cs ds:List V} {t:Bool} (h:a0q (2::qs) cs ds=some t):∃a b cs' ds' t',cs=.bool a::cs'∧ds=.bool b::ds'∧a0q qs cs' ds'=some t'∧t=((a==b)&&t'):=by
 cases cs with
 | nil=>simp [a0q] at h
 | cons c cs=>cases ds with
  | nil=>cases c<;>simp [a0q] at h
  | cons d ds =>
   cases c<;>cases d<;>simp only [a0q,reduceCtorEq] at h
   simp only [zO] at h
   obtain ⟨t',h1,rfl⟩:=h
   exact ⟨_,_,cs,ds,t',rfl,rfl,h1,rfl⟩
def EqF (P:Program) (g:Gh) (w:World) (d:Nat) (n:Nat) (ks:List Nat) (fs:List Field):Prop:=∀(dp:Nat) (vs us:Array Value) (cs ds:List V) (t:Bool),a0q ks cs ds=some t →
  (∀i c,cs[i]?=some c→VR g w (vs.getD (n+i) undef) c)→(∀i c,ds[i]?=some c→VR g w (us.getD (n+i) undef) c)→n+cs.length≤vs.size→n+ds.length≤us.size →
  (Op.eqFields (dp+d+1) vs us fs).run P w=.ok t w
theorem c5n {rec:List Nat→List Field→Bool} {d:Nat} (hrec:∀ks fs,rec ks fs=true→∃d',d=d'+1∧EqF P g w d' 0 ks fs):∀(fs:List Field) (n:Nat) (ks:List Nat),b9w rec P n ks fs=true→EqF P g w d n ks fs:=by
 intro fs
 induction fs with
 | nil =>
  intro n ks hf dp vs us cs ds t he _ _ _ _
  cases ks with
  | cons q qs=>simp [b9w] at hf
  | nil =>
   cases cs<;>cases ds<;>simp [a0q] at he
   subst he
   rfl
 | cons f fs ih =>
  intro n ks hf dp vs us cs ds t he hc hd hs1 hs2
  simp only [b9w,wG] at hf
  obtain ⟨h12,h3⟩:=hf
  obtain ⟨h1,h2⟩:=h12
  have hoff:f.offset=n:=by simpa using h1
  have hnm:f.name ≠ "_":=by simpa using h2
  have rest:∀(qs:List Nat) (c0 d0:V) (cs' ds':List V) (b t':Bool),b9w rec P (n+1) qs fs=true→cs=c0::cs'→ds=d0::ds'→a0q qs cs' ds'=some t'→t=(b&&t') →
    (∀w':World,(isAgg f.type).run P w'=.ok false w')→(∀v0 u0,VR g w v0 c0→VR g w u0 d0→(Op.equalIn (dp+d+1) f.type v0 u0).run P w=.ok b w) →
    (Op.eqFields (dp+d+1) vs us (f::fs)).run P w=.ok t w:=by
   intro qs c0 d0 cs' ds' b t' h4 e1 e2 ht' ht hagg hb
   subst e1;subst e2
   have v0:=hc 0 c0 rfl
   have u0:=hd 0 d0 rfl
   simp only [vF] at v0 u0
   have hv:vs[n]?=some (vs.getD n undef):=by
    have:n<vs.size:=by simp at hs1;omega
    simp [zC,this]
   have hu:us[n]?=some (us.getD n undef):=by
    have:n<us.size:=by simp at hs2;omega
    simp [zC,this]
   have hpv:(Go.part f.type vs f.offset).run P w=.ok (vs.getD n undef) w:=by
    unfold Go.part
    simp only [vB,hagg w,xP,xN,if_false,hoff,hv,vA]
   have hpu:(Go.part f.type us f.offset).run P w=.ok (us.getD n undef) w:=by
    unfold Go.part
    simp only [vB,hagg w,xP,xN,if_false,hoff,hu,vA]
   have hrest:=ih (n+1) qs h4 dp vs us cs' ds' t' ht' (fun i c hi=>by have:=hc (i+1) c (by simpa using hi);rwa [show n+(i+1)=n+1+i by omega] at this)
     (fun i c hi=>by have:=hd (i+1) c (by simpa using hi);rwa [show n+(i+1)=n+1+i by omega] at this) (by simp at hs1;omega) (by simp at hs2;omega)
   unfold Op.eqFields
   simp only [hnm,ne_eq,not_false_iff,if_true,vB,hpv,hpu,hb _ _ v0 u0,xP]
   cases b
   ·simp [ht]
   ·simp [hrest,ht]
  have agg:∀dsc,P.underlying f.type=some dsc→(match dsc with|.struct _|.array _ _=>true|_=>false)=false→∀w':World,(isAgg f.type).run P w'=.ok false w':=by
   intro dsc hu hd w'
   cases dsc<;>simp [isAgg,run_underlying hu] at hd ⊢
  unfold e90 at h3
  split at h3
  ·rename_i qs hu
   obtain ⟨k,a,b,cs',ds',t',rfl,rfl,he',ht'⟩:=g7u he
   refine rest qs _ _ cs' ds' (decide (a=b)) t' h3 rfl rfl he' ht' (agg _ hu rfl) fun v0 u0 hv0 hu0=>?_
   rw [hv0.int_inv.1,hu0.int_inv.1,run_equalIn_int w (dp+d) f.type _ _ _ _ hu]
   exact congrArg (fun b=>Result.ok b w) (by rw [wU];simp)
  ·rename_i qs hu
   obtain ⟨a,b,cs',ds',t',rfl,rfl,he',ht'⟩:=g7t he
   refine rest qs _ _ cs' ds' (decide (a=b)) t' h3 rfl rfl he' ht' (agg _ hu rfl) fun v0 u0 hv0 hu0=>?_
   obtain ⟨t0,e0,hx0,_⟩:=hv0.str_inv
   obtain ⟨t1,e1,hx1,_⟩:=hu0.str_inv
   rw [e0,e1,run_equalIn_string w (dp+d) f.type _ _ hu,ByteArray.toList_eq,ByteArray.toList_eq,hx0,hx1]
   exact congrArg (fun b=>Result.ok b w) (by rw [wU];simp)
  ·rename_i qs hu
   obtain ⟨a,b,cs',ds',t',rfl,rfl,he',ht'⟩:=g7s he
   refine rest qs _ _ cs' ds' (a==b) t' h3 rfl rfl he' ht' (agg _ hu rfl) fun v0 u0 hv0 hu0=>?_
   rw [hv0.bool_inv,hu0.bool_inv,run_equalIn_bool' w (dp+d) f.type _ _ hu]
  ·rename_i fs' hu
   split at h3
   ·rename_i inf hi
    simp only [wG,xX] at h3
    obtain ⟨⟨⟨a1,a2⟩,a3⟩,a4⟩:=h3
    have a1:=zQ a1
    obtain ⟨t1,t2,e1,e2,rfl,e4,e5⟩:=a3i inf.size a1 he
    obtain ⟨d',rfl,hr⟩:=hrec _ _ a2
    have hsz:∀w':World,(Go.sizeOf f.type).run P w'=.ok inf.size w':=fun w'=>by simp [Go.sizeOf,typeInfo,hi]
    have hag:∀w':World,(isAgg f.type).run P w'=.ok true w':=fun w'=>by simp [isAgg,run_underlying hu]
    have pt:∀(xs:Array Value),(Go.part f.type xs f.offset).run P w=.ok (.agg (xs.extract n (n+inf.size))) w:=fun xs=>by
     unfold Go.part
     simp only [vB,hag w,xP,if_true,hsz w,vA,hoff]
    have hfo:P.fieldsOf f.type=fs':=by simp [Program.fieldsOf,hu]
    have gd:∀(xs:Array Value) (i:Nat),i<inf.size→n+inf.size≤xs.size→(xs.extract n (n+inf.size)).getD (0+i) undef=xs.getD (n+i) undef:=fun xs i hi hx=>by
     simp only [zC,vC]
     rw [Array.getElem?_extract,if_pos (by omega)]
    have l1:(cs.take inf.size).length=inf.size:=by simp;omega
    have l2:(ds.take inf.size).length=inf.size:=by simp;omega
    have h0:=hr dp (vs.extract n (n+inf.size)) (us.extract n (n+inf.size)) (cs.take inf.size) (ds.take inf.size) t1 e1
     (fun i c hi=>by
      have hlt:i<inf.size:=by have:=(zG.1 hi).1;omega
      rw [gd _ _ hlt (by omega)]
      refine hc i c ?_
      rwa [xL,if_pos hlt] at hi)
     (fun i c hi=>by
      have hlt:i<inf.size:=by have:=(zG.1 hi).1;omega
      rw [gd _ _ hlt (by omega)]
      refine hd i c ?_
      rwa [xL,if_pos hlt] at hi)
     (by rw [l1];simp;omega) (by rw [l2];simp;omega)
    have hrest:=ih (n+inf.size) _ a4 dp vs us (cs.drop inf.size) (ds.drop inf.size) t2 e2 (fun i c hi=>by rw [xM] at hi;have:=hc _ c hi;rwa [←wZ] at this)
     (fun i c hi=>by rw [xM] at hi;have:=hd _ c hi;rwa [←wZ] at this) (by simp;omega) (by simp;omega)
    unfold Op.eqFields
    have heq:(Op.equalIn (dp+(d'+1)+1) f.type (.agg (vs.extract n (n+inf.size))) (.agg (us.extract n (n+inf.size)))).run P w=.ok t1 w:=by
     rw [run_equalIn_agg w (dp+(d'+1)) f.type _ _ (by rw [hfo];exact hu) a3,hfo]
     exact h0
    simp only [hnm,ne_eq,not_false_iff,if_true,vB,pt,heq,xP]
    cases t1
    ·simp
    ·simp [hrest]
   ·cases h3
  ·cases h3
theorem c5m:∀(d:Nat) (ks:List Nat) (fs:List Field),d2d P d ks fs=true→EqF P g w d 0 ks fs
 | 0,ks,fs,h=>c5n (fun _ _ h=>by cases h) fs 0 ks h
 | d+1,ks,fs,h=>c5n (fun ks fs h=>⟨d,rfl,c5m d ks fs h⟩) fs 0 ks h
theorem f9l {ng:Bool} {ks:List Nat} {x y:Opd} (hok:(a06.eqs ng ks x y).ok P o.op=true) (hR:Rel P c g σ a w) {d:Nat} (h:w9 P (.eqs ng ks x y) d [x.ev σ.env,y.ev σ.env] ob K L) (hF:Fin o c g σ a w K L K'):o.wp P a w K' Q':=by
 cases ho:o.op<;>simp [a06.ok,ho] at hok
 rename_i op t x' y' t'
 obtain ⟨⟨⟨h1,hx⟩,hy⟩,ht⟩:=hok
 have vx:=Opd.vr hR hx
 have vy:=Opd.vr hR hy
 simp only [w9,d60,evl] at h
 split at h
 ·rename_i cs ds hp hq
  rw [hp] at vx;rw [hq] at vy
  split at h
  ·rename_i b hb
   obtain ⟨vs,ex,lx,rx⟩:=vx.agg_inv
   obtain ⟨us,ey,ly,ry⟩:=vy.agg_inv
   have:∃fs,P.underlying t=some (.struct fs)∧d2d P 3 ks fs.toList=true∧P.stoodInHeld t=false∧P.eqGuardType P.depth t=false:=by
    unfold c2a at ht
    split at ht
    ·rename_i fs hu
     simp only [wG,xX] at ht
     exact ⟨fs,hu,ht.1.1,ht.1.2,ht.2⟩
    ·cases ht
   obtain ⟨fs,hu,hf,hst,hg⟩:=this
   have hfo:P.fieldsOf t=fs:=by simp [Program.fieldsOf,hu]
   have heq:(Op.equalIn 10000 t (.agg vs) (.agg us)).run P w=.ok b w:=by
    rw [run_equalIn_agg w 9999 t vs us (by rw [hfo];exact hu) hst,hfo]
    exact c5m 3 ks fs.toList hf 9995 vs us cs ds b hb (fun i c hi=>by rw [vC];exact rx i c hi) (fun i c hi=>by rw [vC];exact ry i c hi) (by omega) (by omega)
   refine a09 hR hF (v:=.bool (bif ng then !b else b)) ?_ (.inl h) (.rd (.bool _))
   cases ng<;>simp at h1<;>subst h1<;>simp [execOp,ho,ex,ey,run_eqGuard_agg w _ t x' y' vs us hg,run_eql_struct,run_neq_struct,heq]
  ·exact h.elim
 ·exact h.elim
end
section
variable {P:Program} {o:Oper} {c:Ctx} {g:Gh} {σ:St} {a:Act} {w:World} {ob:Nat→Option a0c} {K L:Eff→Prop} {K':Act→World→Prop} {Q':Exit→Act→World→Prop}
theorem b9j (hR:Rel P c g σ a w):∀{xs:List Opd} {ys:List Operand},a8h xs ys=true→xs.length=ys.length∧∀(i:Nat) (x:V),(xs.map (·.ev σ.env))[i]?=some x→VR g w ((ys.map a.eval).getD i undef) x
 | [],[],_=>⟨rfl,fun i x h=>by simp at h⟩
 | [],_::_,h=>by simp [a8h] at h
 | _::_,[],h=>by simp [a8h] at h
 | x::xs,y::ys,h=>by
  simp only [a8h,wG] at h
  obtain ⟨h1,h2⟩:=b9j hR h.2
  refine ⟨by simp [h1],fun i v hi=>?_⟩
  cases i with
  | zero=>simp at hi;subst hi;simpa using Opd.vr hR h.1
  | succ i=>simp only [w5,zN] at hi;simpa using h2 i v hi
theorem e3h {f:Nat} {cap:List Opd} (hok:(a06.mkfn f cap).ok P o.op=true) (hR:Rel P c g σ a w) {d:Nat} (h:w9 P (.mkfn f cap) d (cap.map (·.ev σ.env)) ob K L) (hF:Fin o c g σ a w K L K'):o.wp P a w K' Q':=by
 have:∃first cap',o.op=.makeFunc (.func f) first cap'∧first=#[]∧a8h cap cap'.toList=true:=by
  cases ho:o.op<;>rw [ho] at hok<;>try (simp [a06.ok] at hok;done)
  rename_i fn first cap'
  cases fn<;>try (simp [a06.ok] at hok;done)
  simp [a06.ok] at hok
  obtain ⟨⟨h1,h2⟩,h3⟩:=hok
  subst h1
  exact ⟨first,cap',rfl,h2,h3⟩
 obtain ⟨first,cap',ho,rfl,hc⟩:=this
 obtain ⟨hl,hv⟩:=b9j hR hc
 have hk:K (evl (.fn (.func f) (cap.map (·.ev σ.env)))):=by
  unfold w9 at h;exact h
 refine a09 hR hF (v:=.func (.func f) #[] (cap'.map a.eval)) ?_ (.inl hk) ?_
 ·simp [execOp,ho,Instr.makeFunc]
 ·refine .fn _ _ _ (by simp [hl]) fun i x hi=>?_
  have:=hv i x hi
  have e:(cap'.map a.eval).getD i undef=(cap'.toList.map a.eval).getD i undef:=by
   simp [zC,List.getD]
  rw [e];exact this
theorem g77 {mx:Bool} {x y:Opd} (hok:(a06.mm mx x y).ok P o.op=true) (hR:Rel P c g σ a w) {d:Nat} (h:w9 P (.mm mx x y) d [x.ev σ.env,y.ev σ.env] ob K L) (hF:Fin o c g σ a w K L K'):o.wp P a w K' Q':=by
 have:∃cl u v,o.op=.call cl∧cl.callee=.builtin (if mx then .max else .min)∧cl.args=#[u,v]∧x.ok u=true∧y.ok v=true:=by
  cases ho:o.op<;>rw [ho] at hok<;>try (simp [a06.ok] at hok;done)
  rename_i cl
  obtain ⟨callee,args,ts⟩:=cl
  cases callee<;>try (simp [a06.ok] at hok;done)
  unfold a06.ok at hok
  simp only at hok
  split at hok
  ·rename_i u v he
   simp at hok
   refine ⟨_,u,v,rfl,by rw [hok.2],?_,hok.1.1,hok.1.2⟩
   apply wH.1
   simpa using he
  ·cases hok
 obtain ⟨cl,u,v,ho,hcl,hargs,hx,hy⟩:=this
 have vx:=Opd.vr hR hx
 have vy:=Opd.vr hR hy
 simp only [w9,sMm] at h
 split at h
 ·rename_i k p k' q hp hq
  rw [hp] at vx;rw [hq] at vy
  by_cases hk:kEq k k'=true
  case neg=>simp [hk] at h
  simp only [hk,vQ] at h
  have:=b0k hk;subst this
  obtain ⟨ex,rx⟩:=vx.int_inv
  obtain ⟨ey,ry⟩:=vy.int_inv
  refine a09 hR hF (v:=.int k (bif mx then max p q else min p q)) ?_ (.inl h) (.rd (.int _ _ ?_))
  ·cases mx
   ·simp [execOp,ho,resolve,hcl,hargs,invoke,builtin,ex,ey,run_min_int2]
    rw [Int.min_def]
    split<;>split<;>first|rfl|omega
   ·simp [execOp,ho,resolve,hcl,hargs,invoke,builtin,ex,ey,run_max_int2]
    rw [Int.max_def]
    split<;>split<;>first|rfl|omega
  ·cases mx<;>simp only [vQ,vO]
   ·rw [Int.min_def];split<;>assumption
   ·rw [Int.max_def];split<;>assumption
 ·exact h.elim
theorem f9j {off:Nat} {x:Opd} (hok:(a06.fad off x).ok P o.op=true) (hR:Rel P c g σ a w) {d:Nat} (h:w9 P (.fad off x) d [x.ev σ.env] ob K L) (hF:Fin o c g σ a w K L K'):o.wp P a w K' Q':=by
 have:∃t y f fs fl i,o.op=.fieldAddr t y f∧x.ok y=true∧P.underlying t=some (.struct fs)∧fs[f]?=some fl∧fl.offset=off∧P.info? fl.type=some i∧i.size≠0:=by
  cases ho:o.op<;>rw [ho] at hok<;>try (simp [a06.ok] at hok;done)
  rename_i t y f
  simp only [a06.ok,wG,c7r] at hok
  obtain ⟨h1,h2⟩:=hok
  split at h2<;>try (cases h2;done)
  rename_i fs hu
  split at h2<;>try (cases h2;done)
  rename_i fl hfl
  simp only [wG] at h2
  obtain ⟨h2,h3⟩:=h2
  split at h3<;>try (cases h3;done)
  rename_i i hi
  exact ⟨t,y,f,fs,fl,i,rfl,h1,hu,hfl,by simpa using h2,hi,fun e=>by rw [e] at h3;cases h3⟩
 obtain ⟨t,y,f,fs,fl,i,ho,hx,hu,hfl,hoff,hi,hsz⟩:=this
 have vx:=Opd.vr hR hx
 simp only [w9,e0v] at h
 have hrun:∀ad:Addr,a.eval y=.pointer (some ad)→(execOp a.eval o).run P w=.ok (.value (.pointer (some (ad.add off)))) w:=by
  intro ad e
  simp [execOp,ho,Instr.fieldAt,run_underlying hu,hfl,e,Instr.sureAddr,fieldPlace,Go.sizeOf,typeInfo,hi,hsz,hoff]
 have add_eq:∀b n m:Nat,(⟨b,n,none⟩:Addr).add m=⟨b,n+m,none⟩:=fun b n m=>Addr.add_lit b n m
 cases hc:x.ev σ.env<;>simp only [hc] at h<;>try exact h.elim
 ·rw [hc] at vx
  refine a09 hR hF (hrun _ vx.ptr_inv) (.inl h) ?_
  rw [add_eq];exact .ptr _ _
 ·rw [hc] at vx
  obtain ⟨b,o',cur,e,fz,hv,hS,hg,hb,hr⟩:=vx.eptr_inv
  refine a09 hR hF (hrun _ hv) (.inl h) ?_
  rw [add_eq,wZ];exact .eptr b o' _ cur e fz _ hS hg hb hr
 ·rw [hc] at vx
  refine a09 hR hF (hrun _ vx.optr_inv) (.inl h) ?_
  rw [add_eq,wZ];exact .optr _ _ _ _
theorem c1c {n:Option Nat} {off:Nat} {cs:List V} {Kp:V→Prop} (h:part n off cs Kp):∃x,Kp x ∧
  ((n=none∧cs[off]?=some x)∨∃m,n=some m∧off+m≤cs.length∧x=.agg ((cs.drop off).take m)):=by
 unfold part at h
 cases n with
 | none =>
  simp only at h
  split at h
  ·rename_i c r hd
   refine ⟨c,h,.inl ⟨rfl,?_⟩⟩
   have:=congrArg (·[0]?) hd
   simpa using this
  ·exact h.elim
 | some m =>
  simp only at h
  by_cases hb:Nat.ble (off+m) cs.length=true
  ·simp only [hb,vQ] at h
   exact ⟨_,h,.inr ⟨m,rfl,by simpa using hb,rfl⟩⟩
  ·simp [hb] at h
theorem b8d {t:TypeId} (h:c2h P t=some none):∀w':World,(isAgg t).run P w'=.ok false w':=by
 intro w'
 unfold c2h at h
 split at h<;>try (simp at h;done)
 rename_i d i hn1 hn2 hu hi
 cases d<;>simp_all [isAgg,run_underlying]
theorem b8c {t:TypeId} {m:Nat} (h:c2h P t=some (some m)):(∀w':World,(isAgg t).run P w'=.ok true w')∧∀w':World,(Go.sizeOf t).run P w'=.ok m w':=by
 unfold c2h at h
 split at h<;>simp at h
 ·rename_i fs i hu hi
  exact ⟨fun w'=>by simp [isAgg,run_underlying hu],fun w'=>by simp [Go.sizeOf,typeInfo,hi,h]⟩
 ·rename_i n e i hu hi
  exact ⟨fun w'=>by simp [isAgg,run_underlying hu],fun w'=>by simp [Go.sizeOf,typeInfo,hi,h]⟩
theorem a1i {t:TypeId} {n:Option Nat} (ht:c2h P t=some n) {b o' off:Nat} {cur:Array Value} {e:TypeId} {fz:Nat×Nat} (hb:w.heap[b]?=some (.cells cur e fz)) {cs:List V}
  (hsz:o'+cs.length≤cur.size) (hr:∀(j:Nat) (x:V),cs[j]?=some x→VR g w (cur.getD (o'+j) undef) x) {Kp:V→Prop} (h:part n off cs Kp) :
  ∃v x,(loadVar t ⟨b,o'+off,none⟩).run P w=.ok v w∧Kp x∧VR g w v x:=by
 obtain ⟨x,hk,hx⟩:=c1c h
 rcases hx with ⟨rfl,hx⟩|⟨m,rfl,hm,rfl⟩
 ·have hlt:off<cs.length:=(zG.1 hx).1
  refine ⟨cur.getD (o'+off) undef,x,?_,hk,hr off x hx⟩
  have hc:w.cell? ⟨b,o'+off,none⟩=some (cur.getD (o'+off) undef):=by
   rw [cell_of_row w b _ cur e fz hb]
   have:o'+off<cur.size:=by omega
   simp [zC,this]
  simp [loadVar,b8d ht w,run_load,hc]
 ·obtain ⟨h1,h2⟩:=b8c ht
  have hl:((cur.toList.drop (o'+off)).take m).length=m:=by simp;omega
  refine ⟨.agg ((cur.toList.drop (o'+off)).take m).toArray,_,?_,hk,?_⟩
  ·have hrun:=run_loadCells_list (P:=P) w ⟨b,o'+off,none⟩ ((cur.toList.drop (o'+off)).take m) (fun j v hv=>by
    rw [show (⟨b,o'+off,none⟩:Addr).add j=⟨b,o'+off+j,none⟩ from Addr.add_lit _ _ _,cell_of_row w b _ cur e fz hb]
    rw [xL] at hv
    split at hv
    ·simpa using hv
    ·cases hv)
   rw [hl] at hrun
   simp only [loadVar,vB,h1 w,xP,if_true,h2 w,hrun,vA]
  ·refine .agg _ _ (by simp;omega) fun i x hi=>?_
   rw [xL] at hi
   split at hi
   ·rename_i him
    have hi':cs[off+i]?=some x:=by simpa using hi
    have:=hr (off+i) x hi'
    have hlt:o'+(off+i)<cur.size:=by
     have:=(zG.1 hi').1;omega
    have e1:((cur.toList.drop (o'+off)).take m).toArray.getD i undef=cur.getD (o'+(off+i)) undef:=by
     simp [zC,xL,him,wZ]
    rw [e1];exact this
   ·cases hi
theorem d45 {n:Option Nat} {t:TypeId} {v:Value} {x:V} {H:Heap} {Kl Ll:V→Prop} (ht:c2h P t=some n) (hH:a2l P g w H) (hob:∀id o,ob id=some o→find id H=some o) (vx:VR g w v x) (h:sLd n x ob Kl Ll) :
  ∃ad u z,v=.pointer (some ad)∧(loadVar t ad).run P w=.ok u w∧(Kl z∨Ll z)∧VR g w u z:=by
 unfold sLd at h
 split at h
 ·rename_i id off
  split at h
  ·rename_i cs _ hobj
   have hO:=hH.obj _ _ (hob _ _ hobj)
   obtain ⟨hn,cur,e,fz,h1,h2,h3,h4⟩:=hO
   obtain ⟨v,x',hrun,hk,hv⟩:=a1i (P:=P) ht (o':=0) (off:=off) h1 (cs:=cs) (by omega) (fun j x hj=>by rw [vC];exact h4 j x hj) h
   rw [vC] at hrun
   exact ⟨_,v,x',vx.ptr_inv,hrun,.inl hk,hv⟩
  ·exact h.elim
 ·rename_i z off
  obtain ⟨b,o',cur,e,fz,hv,hS,hg,hb,hr⟩:=vx.eptr_inv
  obtain ⟨v,x',hrun,hk,hv'⟩:=a1i (P:=P) ht (off:=off) hg hb (fun j x hj=>.rd (hr j x hj)) h
  exact ⟨_,v,x',hv,hrun,.inl hk,hv'⟩
 ·rename_i id k i off
  split at h
  ·rename_i k' xs t0 hobj
   by_cases hkk:Nat.beq k k'=true
   case neg=>simp [hkk] at h
   simp only [hkk,vQ] at h
   have:=zR hkk;subst this
   obtain ⟨x',hxi,hp⟩:=h
   rcases hH.obj _ _ (hob _ _ hobj) with ⟨_,hnil⟩|⟨hn,ha⟩
   ·rw [hnil] at hxi;simp at hxi
   ·obtain ⟨hkp,⟨cur,e,fz,h1,h2,h3,h4⟩,h5,h6,h7⟩:=ha
    have hlt:i<xs.length:=(zG.1 hxi).1
    have hx':=h7 x' (xB hxi)
    have hle:(g.base id+i+1)*k≤cur.size:=by
     rw [h2];exact zZ _ (by omega)
    rw [vM,vK] at hle
    obtain ⟨v,x'',hrun,hk,hv'⟩:=a1i (P:=P) ht (o':=(g.base id+i)*k) (off:=off) h1 (cs:=x'.cells) (by rw [hx'.1];exact hle) (fun j y hj=>.rd (h4 i j x' y hxi hj)) hp
    exact ⟨_,v,x'',vx.optr_inv,hrun,.inr hk,hv'⟩
  ·exact h.elim
 ·exact h.elim
theorem g79 {n:Option Nat} {x:Opd} (hok:(a06.ld n x).ok P o.op=true) (hR:Rel P c g σ a w) (hob:∀id o,ob id=some o→find id σ.heap=some o) {d:Nat} (h:w9 P (.ld n x) d [x.ev σ.env] ob K L) (hF:Fin o c g σ a w K L K'):o.wp P a w K' Q':=by
 have:∃t y,o.op=.load t y∧x.ok y=true∧c2h P t=some n:=by
  cases ho:o.op<;>rw [ho] at hok<;>try (simp [a06.ok] at hok;done)
  simp [a06.ok] at hok
  exact ⟨_,_,rfl,hok.1,hok.2⟩
 obtain ⟨t,y,ho,hx,ht⟩:=this
 simp only [w9] at h
 obtain ⟨ad,u,z,e,hrun,hk,hv⟩:=d45 ht hR.hp hob (Opd.vr hR hx) h
 exact a09 hR hF (by simp [execOp,ho,Instr.loadAt,e,Instr.sureAddr,hrun]) hk hv
theorem c0l {t:TypeId} {k:Nat} (h:isSlice P t k=true):∃e,P.underlying t=some (.slice e)∧∀w':World,(Go.sizeOf e).run P w'=.ok k w':=by
 unfold isSlice at h
 split at h<;>try (cases h;done)
 rename_i e hu
 unfold a3r at h
 split at h<;>try (cases h;done)
 rename_i i hi
 refine ⟨e,hu,fun w'=>?_⟩
 have:i.size=k:=by simpa using h
 simp [Go.sizeOf,typeInfo,hi,this]
theorem f9h {k:Nat} {x i:Opd} (hok:(a06.iad k x i).ok P o.op=true) (hR:Rel P c g σ a w) {d:Nat} (h:w9 P (.iad k x i) d [x.ev σ.env,i.ev σ.env] ob K L) (hF:Fin o c g σ a w K L K'):o.wp P a w K' Q':=by
 have:∃t y z,o.op=.indexAddr t y z∧x.ok y=true∧i.ok z=true∧isSlice P t k=true:=by
  cases ho:o.op<;>rw [ho] at hok<;>try (simp [a06.ok] at hok;done)
  simp [a06.ok] at hok
  exact ⟨_,_,_,rfl,hok.1.1,hok.1.2,hok.2⟩
 obtain ⟨t,y,z,ho,hx,hi,ht⟩:=this
 obtain ⟨e,hu,hsz⟩:=c0l ht
 have vx:=Opd.vr hR hx
 have vi:=Opd.vr hR hi
 simp only [w9,c95] at h
 split at h
 ·rename_i kk n hn
  rw [hn] at vi
  obtain ⟨ei,_⟩:=vi.int_inv
  have hrun:∀(ad:Addr) (len cap:Nat),a.eval y=.slice (some ad) len cap→0≤n→n<len→(execOp a.eval o).run P w=.ok (.value (.pointer (some (ad.add (n.toNat*k))))) w:=by
   intro ad len cap e1 h0 h1
   simp [execOp,ho,Instr.indexAt,ei,e1,asIntOf,run_underlying hu,h0,h1,hsz]
  split at h
  ·rename_i xs hc
   rw [hc] at vx
   obtain ⟨h0,q,hq,hql,hk⟩:=h
   have hrd:=vx.sl_inv
   have hlt:n.toNat<xs.length:=(zG.1 hq).1
   generalize a.eval y=vy at *
   cases hrd with
   | nilsl=>simp at hlt
   | slz=>simp at hlt
   | sl b o' len cap k' cur e' fz _ hS hg hl hm hcc hb hkk hr =>
    have hqq:=hkk q (xB hq)
    have:k'=k:=by rw [←hqq.1,hql]
    subst this
    have hle:o'+(n.toNat+1)*k'≤cur.size:=by
     rcases hb with hb|hb
     ·omega
     ·exact vD (Nat.add_le_add_left (zZ _ (by omega)) _) hb
    rw [vM,vK] at hle
    have:=hrun ⟨b,o',none⟩ len cap rfl h0 (by omega)
    refine a09 hR hF this (.inr hk) ?_
    rw [show (⟨b,o',none⟩:Addr).add (n.toNat*k')=⟨b,o'+n.toNat*k'+0,none⟩ from Addr.add_lit _ _ _]
    exact .eptr b _ 0 cur e' fz q hS hg (by rw [hql];omega) fun j cc hj=>hr n.toNat j q cc hq hj
  ·rename_i id k' lo m hc
   rw [hc] at vx
   by_cases hkk:Nat.beq k k'=true
   case neg=>simp [hkk] at h
   simp only [hkk,vQ] at h
   have:=zR hkk;subst this
   obtain ⟨⟨h0,h1⟩,hk⟩:=h
   rcases vx.osl_inv with ⟨_,_,hz⟩|⟨hn',o',cc,hv,ho',hcap,hlc,_⟩
   ·omega
   ·refine a09 hR hF (hrun _ _ _ hv h0 h1) (.inl hk) ?_
    have ho'':o'=(g.base id+lo)*k:=by
     rcases ho' with h|h
     ·omega
     ·exact h
    rw [show (⟨g.ρ id,o',none⟩:Addr).add (n.toNat*k)=⟨g.ρ id,(g.base id+(lo+n.toNat))*k+0,none⟩ from by
     rw [show (⟨g.ρ id,o',none⟩:Addr).add (n.toNat*k)=⟨g.ρ id,o'+n.toNat*k,none⟩ from Addr.add_lit _ _ _,ho'',vF,←vM,wZ]]
    exact .optr _ _ _ _
  ·exact h.elim
 ·exact h.elim
theorem g72 {t:TypeId} (h:c79 P t=true):P.underlying t=some .string:=by
 unfold c79 at h;split at h<;>simp_all
theorem f9g {x i:Opd} (hok:(a06.idx x i).ok P o.op=true) (hR:Rel P c g σ a w) {d:Nat} (h:w9 P (.idx x i) d [x.ev σ.env,i.ev σ.env] ob K L) (hF:Fin o c g σ a w K L K'):o.wp P a w K' Q':=by
 have:∃t y z,o.op=.index t y z∧x.ok y=true∧i.ok z=true∧P.underlying t=some .string:=by
  cases ho:o.op<;>rw [ho] at hok<;>try (simp [a06.ok] at hok;done)
  simp [a06.ok] at hok
  exact ⟨_,_,_,rfl,hok.1.1,hok.1.2,g72 hok.2⟩
 obtain ⟨t,y,z,ho,hx,hi,ht⟩:=this
 have vx:=Opd.vr hR hx
 have vi:=Opd.vr hR hi
 simp only [w9,e0t] at h
 split at h
 ·rename_i s k n hc hn
  rw [hc] at vx;rw [hn] at vi
  obtain ⟨b,eb,hb,_⟩:=vx.str_inv
  obtain ⟨ei,_⟩:=vi.int_inv
  obtain ⟨⟨h0,h1⟩,hk⟩:=h
  have hlt:n.toNat<b.size:=by
   have:b.size=s.length:=by rw [←hb,xG];rfl
   omega
  have hgb:b[n.toNat]?=some (s.getD n.toNat 0):=by
   have:b[n.toNat]?=b.data[n.toNat]?:=by
    rw [ByteArray.getElem?_lt' b _ hlt]
    have hlt':n.toNat<b.data.size:=hlt
    rw [zI hlt']
    rfl
   rw [this,←zW,hb]
   have:n.toNat<s.length:=by omega
   simp [this]
  refine a09 hR hF (v:=.int .u8 (s.getD n.toNat 0).toNat) ?_ (.inl hk) (.rd (.int _ _ ?_))
  ·simp only [execOp,ho,Instr.index,ei,eb,asIntOf,vB,vA,xP,run_underlying ht,h0,if_true,hgb]
  ·rw [a1a]
   have:=(s.getD n.toNat 0).toNat_lt
   simp only [rng]
   omega
 ·exact h.elim
theorem f9c {st:Bool} {x:Opd} (hok:(a06.len st x).ok P o.op=true) (hR:Rel P c g σ a w) {d:Nat} (h:w9 P (.len st x) d [x.ev σ.env] ob K L) (hF:Fin o c g σ a w K L K'):o.wp P a w K' Q':=by
 have:∃cl y t,o.op=.call cl∧cl.callee=.builtin .len∧cl.args=#[y]∧cl.argTypes=#[t]∧x.ok y=true∧((P.underlying t=some .string∧st=true)∨((∃e,P.underlying t=some (.slice e))∧st=false)):=by
  cases ho:o.op<;>rw [ho] at hok<;>try (simp [a06.ok] at hok;done)
  rename_i cl
  obtain ⟨callee,args,ts⟩:=cl
  cases callee<;>try (simp [a06.ok] at hok;done)
  rename_i b
  cases b<;>try (simp [a06.ok] at hok;done)
  simp only [a06.ok] at hok
  split at hok
  ·rename_i y t he1 he2
   simp only [wG] at hok
   refine ⟨_,y,t,rfl,rfl,wH.1 (by simpa using he1),wH.1 (by simpa using he2),hok.1,?_⟩
   have h2:=hok.2
   split at h2
   ·rename_i hu;exact .inl ⟨hu,h2⟩
   ·rename_i e hu;exact .inr ⟨⟨e,hu⟩,by simpa using h2⟩
   ·cases h2
  ·cases hok
 obtain ⟨cl,y,t,ho,hcl,hargs,hts,hx,ht⟩:=this
 have vx:=Opd.vr hR hx
 simp only [w9,sLen] at h
 have fin:∀(n:Nat),(Builtin.len_ #[t] o.type #[a.eval y]).run P w=.ok (goInt n) w→n≤maxLen→K (evl (.int .i64 n))→o.wp P a w K' Q':=by
  intro n hrun hm hk
  refine a09 hR hF (v:=goInt n) ?_ (.inl hk) (.rd (.int _ _ ?_))
  ·simp [execOp,ho,resolve,hcl,hargs,hts,invoke,builtin,hrun]
  ·rw [a1a];simp only [rng,maxLen] at *;omega
 rcases ht with ⟨hu,rfl⟩|⟨⟨e,hu⟩,rfl⟩
 ·cases hc:x.ev σ.env<;>simp only [hc,vQ] at h<;>try exact h.elim
  rename_i s
  rw [hc] at vx
  obtain ⟨b,eb,hb,hm⟩:=vx.str_inv
  have hs:b.size=s.length:=by rw [←hb,xG];rfl
  exact fin s.length (by simp [eb,Builtin.len_,run_underlying hu,hs]) (by omega) h
 ·have hrun:∀ad n cap,a.eval y=.slice ad n cap→(Builtin.len_ #[t] o.type #[a.eval y]).run P w=.ok (goInt n) w:=by
   intro ad n cap e1;simp [e1,Builtin.len_,run_underlying hu]
  cases hc:x.ev σ.env<;>simp only [hc,vO] at h<;>try exact h.elim
  ·rw [hc] at vx
   exact fin 0 (hrun _ _ _ vx.nils_inv) (by simp) h
  ·rename_i xs
   rw [hc] at vx
   have hrd:=vx.sl_inv
   generalize hvy:a.eval y=vy at hrd
   cases hrd with
   | nilsl=>exact fin 0 (hrun _ _ _ hvy) (by simp) h
   | slz a0 cap0=>exact fin 0 (hrun _ _ _ hvy) (by simp) h
   | sl b o' len cap k' cur e' fz _ hS hg hl hm hcc hb hkk hr =>
    rw [hl] at h
    exact fin len (hrun _ _ _ hvy) hm h
  ·rename_i id k lo n
   rw [hc] at vx
   rcases vx.osl_inv with ⟨_,hv,hz⟩|⟨hn',o',cc,hv,ho',hcap,hlc,hm⟩
   ·subst hz;exact fin 0 (hrun _ _ _ hv) (by simp) h
   ·exact fin n (hrun _ _ _ hv) (by omega) h
end
section
variable {P:Program} {o:Oper} {c:Ctx} {g:Gh} {σ:St} {a:Act} {w:World} {ob:Nat→Option a0c} {K L:Eff→Prop} {K':Act→World→Prop} {Q':Exit→Act→World→Prop}
def Clean (c:Ctx) (σ:St) (n:Nat):Prop:=find n c.H0=none∧a5z n σ.env=true∧a0z n σ.heap=true
theorem Opd.no {n:Nat} (h:a5z n σ.env=true) (x:Opd) (y:Operand) (hok:x.ok y=true):(x.ev σ.env).has n=false:=by
 cases x with
 | t m =>
  simp only [Opd.ev,a1m]
  cases hf:find m σ.env with
  | none=>rfl
  | some z=>exact a2p h hf
 | c v =>
  cases y<;>simp [Opd.ok] at hok
  rename_i u
  have key:∀{v:V} {u:Value},cOK v u=true→v.has n=false:=by
   intro v u h
   have hr:Rd (fun _=>False) default u v:=b50 h
   clear h hok
   induction hr with
   | agg vs cs hl hr ih =>
    have:∀l:List V,(∀x∈l,x.has n=false)→V.hasL n l=false:=by
     intro l
     induction l with
     | nil=>intro _;rfl
     | cons x l ih=>intro h;simp [V.hasL,h x (by simp),ih (fun y hy=>h y (by simp [hy]))]
    simp only [V.has]
    refine this cs fun x hx=>?_
    obtain ⟨i,hi,rfl⟩:=xC.1 hx
    exact ih i _ (zJ hi)
   | _=>simp [V.has,V.hasL]
  exact key hok
 | f m=>rfl
theorem a0v.of_clean {g':Gh} {x:V} {n:Nat} {o':a0c} {dr:List Nat} (hc:Clean c σ n):a0v c.H0 g g' σ ⟨x,dr,[(n,o')]⟩ :=
 a0v.one hc.1 hc.2.1 fun m o'' hm _=>a2o hc.2.2 hm
theorem a1o.push {S:Nat→Prop} {w w':World} {B:Obj} (hlt:∀b,S b→b<w.heap.size) (h:w'.heap=w.heap.push B):a1o S w w':=fun b hb=>by
 rw [h,Array.getElem?_push,if_neg (by have:=hlt b hb;omega)]
theorem VR.newer {g:Gh} {w w':World} {n b base cap:Nat} {v:Value} {x:V} (h:VR g w v x) (hk:a1o g.S w w') (hx:x.has n=false):VR (g.set n b base cap) w' v x :=
 h.mono (g':=g.set n b base cap) hk (fun _ hb=>hb) fun id hid=>Gh.set_agree fun e=>by rw [e,hx] at hid;cases hid
theorem a3c (n:Nat):a3d (0,0) n:=.inl rfl
theorem b7p (hR:Rel P c g σ a w) (hF:Fin o c g σ a w K L K') {d:Nat} (hcl:Clean c σ d) {vs:Array Value} {e:TypeId} {cs:List V} (hl:vs.size=cs.length)
  (hv:∀(i:Nat) (x:V),cs[i]?=some x→VR g w (vs.getD i undef) x∧x.has d=false)
  (hrun:(execOp a.eval o).run P w=.ok (.value (.pointer (some ⟨w.heap.size,0,none⟩))) (w.alloc (.cells vs e))) {t:Option TypeId} (ht:c2m t e (0,0)) (hk:K ⟨.ptr d 0,[],[(d,.cells cs t)]⟩):o.wp P a w K' Q':=by
 unfold Oper.wp
 rw [hrun]
 have hkeep:a1o g.S w (w.alloc (.cells vs e)):=a1o.push hR.hp.lt rfl
 refine hF _ (.inl hk) (g.set d w.heap.size 0 0) _ _ (a07.alloc _ d 0 0 _ (.cells vs e) hR.hp.lt rfl rfl rfl rfl ?_) (a0v.of_clean hcl) ?_
 ·refine ⟨by simp [Gh.set],vs,e,(0,0),?_,hl,⟨a3c _,ht⟩,fun i x hx=>((hv i x hx).1).newer hkeep (hv i x hx).2⟩
  have e1:(g.set d w.heap.size 0 0).ρ d=w.heap.size:=by simp [Gh.set]
  rw [e1];exact heap_alloc_new w _
 ·have:(g.set d w.heap.size 0 0).ρ d=w.heap.size:=by simp [Gh.set]
  have h:=VR.ptr (g:=g.set d w.heap.size 0 0) (w:=w.alloc (.cells vs e)) d 0
  rw [this] at h;exact h
theorem c2e:∀{cs:List V} {vs:List Value},c8k cs vs=true→vs.length=cs.length∧∀(i:Nat) (x:V),cs[i]?=some x→∃u,vs[i]?=some u∧cOK x u=true
 | [],[],_=>⟨rfl,fun i x h=>by simp at h⟩
 | [],_::_,h=>by simp [c8k] at h
 | _::_,[],h=>by simp [c8k] at h
 | x::cs,v::vs,h=>by
  simp only [c8k,wG] at h
  obtain ⟨h1,h2⟩:=c2e h.2
  refine ⟨by simp [h1],fun i y hy=>?_⟩
  cases i with
  | zero=>simp at hy;subst hy;exact ⟨v,rfl,h.1⟩
  | succ i=>simp at hy ⊢;exact h2 i y hy
theorem f00 {n:Nat} {v:V} {u:Value} (h:cOK v u=true):v.has n=false :=
 Opd.no (σ:=⟨[],[]⟩) rfl (.c v) (.const u) h
theorem b59 {t:TypeId} {zs:List V} (h:a7a P t zs=true):∃z:Value,(∀w':World,(zeroValue t).run P w'=.ok z w')∧z.cells.size=zs.length ∧
  ∀(S:Nat→Prop) (w':World) (i:Nat) (x:V),zs[i]?=some x→Rd S w' (z.cells.getD i undef) x∧∀n,x.has n=false:=by
 unfold a7a at h
 split at h<;>try (cases h;done)
 rename_i i hi
 split at h<;>try (cases h;done)
 rename_i z hz
 obtain ⟨h1,h2⟩:=c2e h
 refine ⟨z,fun w'=>by simp [zeroValue,typeInfo,hi,hz],by simpa using h1,fun S w' j x hx=>?_⟩
 obtain ⟨u,hu,hok⟩:=h2 j x hx
 have e:z.cells.getD j undef=u:=by
  simp only [zW] at hu
  simp [zC,hu]
 rw [e]
 exact ⟨b50 hok,fun n=>f00 hok⟩
theorem d5l {zs:List V} {t:Option TypeId} (hok:(a06.alloc zs t).ok P o.op=true) (hR:Rel P c g σ a w) {d:Nat} (hcl:Clean c σ d) {vs:List V} (h:w9 P (.alloc zs t) d vs ob K L) (hF:Fin o c g σ a w K L K'):o.wp P a w K' Q':=by
 have:∃e,o.op=.alloc e∧a7a P e zs=true∧c2m t e (0,0):=by
  cases ho:o.op<;>rw [ho] at hok<;>try (simp [a06.ok] at hok;done)
  simp only [a06.ok,wG] at hok
  refine ⟨_,rfl,hok.1,?_⟩
  cases t with
  | none=>exact trivial
  | some u =>
   have h2:=hok.2
   simp only [wG,xX] at h2
   simp only [c2m,h2.2,vO]
   exact zR h2.1
 obtain ⟨e,ho,hz,hty⟩:=this
 obtain ⟨z,hrun,hl,hv⟩:=b59 hz
 have hk:K ⟨.ptr d 0,[],[(d,.cells zs t)]⟩:=by unfold w9 at h;exact h
 refine b7p hR hF hcl (vs:=z.cells) (e:=e) hl (fun i x hx=>⟨.rd (hv g.S w i x hx).1,(hv g.S w i x hx).2 d⟩) ?_ hty hk
 simp [execOp,ho,Instr.alloc,hrun w,newVar,newRow]
theorem f9o {x:Opd} (hok:(a06.box x).ok P o.op=true) (hR:Rel P c g σ a w) {d:Nat} (hcl:Clean c σ d) (h:w9 P (.box x) d [x.ev σ.env] ob K L) (hF:Fin o c g σ a w K L K'):o.wp P a w K' Q':=by
 have:∃e y,o.op=.box e y∧x.ok y=true:=by
  cases ho:o.op<;>rw [ho] at hok<;>try (simp [a06.ok] at hok;done)
  exact ⟨_,_,rfl,hok⟩
 obtain ⟨e,y,ho,hx⟩:=this
 have vx:=Opd.vr hR hx
 have hno:=Opd.no hcl.2.1 x y hx
 have hrun:(execOp a.eval o).run P w=.ok (.value (.pointer (some ⟨w.heap.size,0,none⟩))) (w.alloc (.cells (a.eval y).cells e)):=by
  simp [execOp,ho,Instr.box,newVar,newRow]
 have hk:(x.ev σ.env).nany=true∧K ⟨.ptr d 0,[],[(d,.cells (x.ev σ.env).cells none)]⟩:=by
  simp only [w9] at h
  unfold d62 at h
  split at h
  ·exact h.elim
  ·exact h.elim
  ·rename_i cs hc;rw [hc];exact ⟨rfl,h⟩
  ·rename_i hn1 hn3 hn2
   refine ⟨by cases hc:x.ev σ.env<;>first|rfl|exact absurd hc hn1|exact absurd hc (hn3 _ _),?_⟩
   have:(x.ev σ.env).cells=[x.ev σ.env]:=by
    cases hc:x.ev σ.env<;>first|rfl|(rw [hc] at hn2;exact absurd rfl (hn2 _))
   rw [this];exact h
 obtain ⟨hl,hv⟩:=vx.cells_of hk.1
 refine b7p hR hF hcl hl (fun i q hq=>⟨hv i q hq,?_⟩) hrun (t:=none) trivial hk.2
 have hm:=xB hq
 cases hc:x.ev σ.env with
 | agg cs =>
  rw [hc] at hm hno
  exact V.hasL_mem hm hno
 | _ =>
  rw [hc] at hm hno
  simp [V.cells] at hm
  rw [hm];exact hno
theorem foldl_set:∀(l:List Value) (s off:Nat) (cs:Array Value),off+s+l.length≤cs.size →
  ((l.zipIdx s).foldl (fun cs p=>cs.setIfInBounds (off+p.2) p.1) cs).size=cs.size ∧
  ∀i,((l.zipIdx s).foldl (fun cs p=>cs.setIfInBounds (off+p.2) p.1) cs)[i]?=if off+s≤i∧i<off+s+l.length then l[i - (off+s)]? else cs[i]?
 | [],s,off,cs,_=>⟨rfl,fun i=>by simp;intro h1 h2;omega⟩
 | v::l,s,off,cs,h=>by
  obtain ⟨h1,h2⟩:=foldl_set l (s+1) off (cs.setIfInBounds (off+s) v) (by simp at h ⊢;omega)
  simp only [List.zipIdx_cons,wQ]
  refine ⟨by rw [h1];simp,fun i=>?_⟩
  rw [h2]
  simp only [wC] at h ⊢
  by_cases e:i=off+s
  ·subst e
   rw [if_neg (by omega),if_pos (by omega)]
   have:off+s<cs.size:=by omega
   simp [this]
  ·by_cases hin:off+(s+1)≤i∧i<off+(s+1)+l.length
   ·rw [if_pos hin,if_pos (by omega)]
    obtain ⟨j,hj⟩:∃j,i - (off+s)=j+1:=⟨i - (off+s) - 1,by omega⟩
    rw [hj,zN]
    congr 1;omega
   ·rw [if_neg hin,if_neg (by omega)]
    have hne:¬off+s=i:=fun h=>e h.symm
    rw [zA hne]
theorem a9y {w0:World} (place:Nat→Option (Nat×Nat)):∀(parts:List (Nat×Value)) (ps:List (Nat×Nat×V)) (cells:Array Value) (cs cs':List V),
  parts.length=ps.length→(∀(i:Nat) (pt:Nat×Value) (q:Nat×Nat×V),parts[i]?=some pt→ps[i]?=some q→place pt.1=some (q.1,q.2.1)∧VR g w0 pt.2 q.2.2) →
  cells.size=cs.length→(∀(i:Nat) (x:V),cs[i]?=some x→VR g w0 (cells.getD i undef) x)→a8z cs ps=some cs' →
  ∃cells',Instr.fill place cells parts=some cells'∧cells'.size=cs'.length∧∀(i:Nat) (x:V),cs'[i]?=some x→VR g w0 (cells'.getD i undef) x:=by
 intro parts
 induction parts with
 | nil =>
  intro ps cells cs cs' hl _ hs hv hf
  cases ps with
  | cons _ _=>simp at hl
  | nil=>simp [a8z] at hf;subst hf;exact ⟨cells,rfl,hs,hv⟩
 | cons pt parts ih =>
  intro ps cells cs cs' hl hp hs hv hf
  cases ps with
  | nil=>simp at hl
  | cons q ps =>
   obtain ⟨off,n,x⟩:=q
   obtain ⟨i,v⟩:=pt
   obtain ⟨h1,h2⟩:=hp 0 (i,v) (off,n,x) rfl rfl
   simp only at h1 h2
   simp only [a8z] at hf
   by_cases hb:(x.nany&&Nat.beq x.cells.length n&&Nat.ble (off+n) cs.length)=true
   case neg=>simp [hb] at hf
   simp only [hb,vQ] at hf
   simp only [wG] at hb
   obtain ⟨hvl,hvc⟩:=h2.cells_of hb.1.1
   have hn:x.cells.length=n:=by simpa using hb.1.2
   have hle:off+n≤cs.length:=by simpa using hb.2
   have hnn:¬(v.cells.size≠n):=by omega
   have hgg:¬(off+v.cells.size > cells.size):=by omega
   have key:=foldl_set v.cells.toList 0 off cells (by simp;omega)
   simp only [vF,xG] at key
   obtain ⟨k1,k2⟩:=key
   have hfold:v.cells.zipIdx.foldl (fun cs (p:Value×Nat)=>cs.setIfInBounds (off+p.2) p.1) cells=(v.cells.toList.zipIdx 0).foldl (fun cs p=>cs.setIfInBounds (off+p.2) p.1) cells:=by
    rw [←Array.foldl_toList];simp [Array.toList_zipIdx]
   have hcells:∀(j:Nat) (y:V),(setCells cs off x.cells)[j]?=some y→VR g w0 (((v.cells.toList.zipIdx 0).foldl (fun cs p=>cs.setIfInBounds (off+p.2) p.1) cells).getD j undef) y:=by
    intro j y hy
    have hg:∀u,((v.cells.toList.zipIdx 0).foldl (fun cs p=>cs.setIfInBounds (off+p.2) p.1) cells)[j]?=some u→((v.cells.toList.zipIdx 0).foldl (fun cs p=>cs.setIfInBounds (off+p.2) p.1) cells).getD j undef=u:=by
     intro u hu;simp [zC,hu]
    simp only [setCells,List.getElem?_append,xK,wB,Nat.min_eq_left (show off≤cs.length by omega)] at hy
    have hk:=k2 j
    by_cases hj1:j<off
    ·rw [if_pos (by omega),if_pos (by omega),xL,if_pos hj1] at hy
     rw [if_neg (by omega)] at hk
     have:=hv j y hy
     have hlt:j<cells.size:=by omega
     rw [zI hlt] at hk
     rw [hg _ hk]
     simpa [zC,hlt] using this
    ·by_cases hj2:j<off+x.cells.length
     ·rw [if_pos (by omega),if_neg (by omega)] at hy
      rw [if_pos (by omega)] at hk
      have h4:=hvc (j - off) y hy
      have hlt:j - off<v.cells.size:=by omega
      rw [zW,zI hlt] at hk
      rw [hg _ hk]
      simpa [zC,hlt] using h4
     ·rw [if_neg (by omega),xM] at hy
      rw [if_neg (by omega)] at hk
      have e1:off+x.cells.length+(j - (off+x.cells.length))=j:=by omega
      rw [e1] at hy
      have:=hv j y hy
      have hlt:j<cells.size:=by
       have:=(zG.1 hy).1;omega
      rw [zI hlt] at hk
      rw [hg _ hk]
      simpa [zC,hlt] using this
   obtain ⟨cells',r1,r2,r3⟩:=ih ps ((v.cells.toList.zipIdx 0).foldl (fun cs p=>cs.setIfInBounds (off+p.2) p.1) cells) (setCells cs off x.cells) cs' (by simpa using hl)
    (fun j pt q hj hq=>hp (j+1) pt q (by simpa using hj) (by simpa using hq)) (by rw [k1,hs];simp [setCells];omega) hcells hf
   refine ⟨cells',?_,r2,r3⟩
   simp only [Instr.fill,h1]
   rw [show (fun (cs:Array Value) (x:Value×Nat)=>match x with|(c,j)=>cs.setIfInBounds (off+j) c)=(fun cs (p:Value×Nat)=>cs.setIfInBounds (off+p.2) p.1) from rfl,hfold]
   simp only [ne_eq,gt_iff_lt,wT,xO] at *
   rw [if_neg (by omega)]
   exact r1
end
section
variable {P:Program} {o:Oper} {c:Ctx} {g:Gh} {σ:St} {a:Act} {w:World} {ob:Nat→Option a0c} {K L:Eff→Prop} {K':Act→World→Prop} {Q':Exit→Act→World→Prop}
theorem a9j {t:TypeId} {n:Nat} (h:a3r P t n=true):∀w':World,(Go.sizeOf t).run P w'=.ok n w':=by
 unfold a3r at h
 split at h<;>try (cases h;done)
 rename_i i hi
 intro w'
 have:i.size=n:=by simpa using h
 simp [Go.sizeOf,typeInfo,hi,this]
theorem run_places:∀(fs:List Field),(fs.all fun f=>(P.info? f.type).isSome)=true→∃ps:List (Nat×Nat),(fs.mapM (fun f=>do pure (f.offset,←Go.sizeOf f.type)):Sem (List (Nat×Nat))).run P w=.ok ps w ∧
  ps.length=fs.length∧∀(i:Nat) (f:Field),fs[i]?=some f→∃inf,P.info? f.type=some inf∧ps[i]?=some (f.offset,inf.size)
 | [],_=>⟨[],rfl,rfl,fun i f h=>by simp at h⟩
 | f::fs,h=>by
  simp only [List.all_cons,wG] at h
  obtain ⟨ps,h1,h2,h3⟩:=run_places fs h.2
  obtain ⟨inf,hinf⟩:=Option.isSome_iff_exists.1 h.1
  refine ⟨(f.offset,inf.size)::ps,?_,by simp [h2],fun i q hq=>?_⟩
  ·simp only [List.mapM_cons,vB,Go.sizeOf,typeInfo,run_program,xP,hinf,vA]
   simp only [Go.sizeOf,typeInfo] at h1
   rw [h1]
   rfl
  ·cases i with
   | zero=>simp at hq;subst hq;exact ⟨inf,hinf,rfl⟩
   | succ i=>simp at hq ⊢;exact h3 i q hq
theorem b1y {fs:Array Field}:∀{ps:List (Nat×Nat×Opd)} {qs:List (Nat×Operand)},a7h P fs ps qs=true→ps.length=qs.length ∧
  ∀(i:Nat) (p:Nat×Nat×Opd) (q:Nat×Operand),ps[i]?=some p→qs[i]?=some q→(∃f inf,fs[q.1]?=some f∧f.offset=p.1∧P.info? f.type=some inf∧inf.size=p.2.1)∧p.2.2.ok q.2=true
 | [],[],_=>⟨rfl,fun i p q h=>by simp at h⟩
 | [],_::_,h=>by simp [a7h] at h
 | _::_,[],h=>by simp [a7h] at h
 | (off,n,x)::ps,(j,y)::qs,h=>by
  simp only [a7h,wG] at h
  obtain ⟨⟨h1,h2⟩,h3⟩:=h
  obtain ⟨l,r⟩:=b1y h3
  refine ⟨by simp [l],fun i p q hp hq=>?_⟩
  cases i with
  | zero =>
   simp at hp hq;subst hp;subst hq
   refine ⟨?_,h2⟩
   split at h1<;>try (cases h1;done)
   rename_i f hf
   simp only [wG] at h1
   obtain ⟨h4,h5⟩:=h1
   unfold a3r at h5
   split at h5<;>try (cases h5;done)
   rename_i inf hinf
   exact ⟨f,inf,hf,by simpa using h4,hinf,by simpa using h5⟩
  | succ i=>simp only [zN] at hp hq;exact r i p q hp hq
theorem d5k {zs:List V} {ps:List (Nat×Nat×Opd)} (hok:(a06.build zs ps).ok P o.op=true) (hR:Rel P c g σ a w) {d:Nat} (h:w9 P (.build zs ps) d (ps.map fun p=>p.2.2.ev σ.env) ob K L) (hF:Fin o c g σ a w K L K'):o.wp P a w K' Q':=by
 have:∃t parts fs,o.op=.build t parts∧a7a P t zs=true∧P.underlying t=some (.struct fs)∧(fs.toList.all fun f=>(P.info? f.type).isSome)=true∧a7h P fs ps parts.toList=true:=by
  cases ho:o.op<;>rw [ho] at hok<;>try (simp [a06.ok] at hok;done)
  rename_i t parts
  simp only [a06.ok,wG] at hok
  obtain ⟨h1,h2⟩:=hok
  split at h2<;>try (cases h2;done)
  rename_i fs hu
  simp only [wG] at h2
  exact ⟨t,parts,fs,rfl,h1,hu,by simpa using h2.1,h2.2⟩
 obtain ⟨t,parts,fs,ho,hz,hu,hall,hp⟩:=this
 obtain ⟨z,hzr,hzl,hzv⟩:=b59 hz
 obtain ⟨pls,hpr,hpl,hpv⟩:=run_places (P:=P) (w:=w) fs.toList hall
 obtain ⟨hlen,hparts⟩:=b1y hp
 simp only [w9] at h
 split at h
 ·rename_i cs hfill
  have e1:(ps.zip (ps.map fun p=>p.2.2.ev σ.env)).map (fun p=>(p.1.1,p.1.2.1,p.2))=ps.map fun p=>(p.1,p.2.1,p.2.2.ev σ.env):=by
   clear hfill hp hlen hparts hok h
   induction ps with
   | nil=>rfl
   | cons p ps ih=>simp [ih]
  rw [e1] at hfill
  obtain ⟨cells',r1,r2,r3⟩:=a9y (g:=g) (w0:=w) (pls.toArray[·]?) (parts.toList.map fun q=>(q.1,a.eval q.2)) (ps.map fun p=>(p.1,p.2.1,p.2.2.ev σ.env)) z.cells zs cs (by simp [hlen])
   (fun i pt q hi hq=>by
    rw [xS] at hi hq
    cases hpi:parts.toList[i]? with
    | none=>rw [hpi] at hi;cases hi
    | some p0 =>
     cases hqi:ps[i]? with
     | none=>rw [hqi] at hq;cases hq
     | some q0 =>
      rw [hpi] at hi;rw [hqi] at hq
      simp at hi hq;subst hi;subst hq
      obtain ⟨⟨f,inf,k1,k2,k3,k4⟩,k5⟩:=hparts i q0 p0 hqi hpi
      obtain ⟨inf',m1,m2⟩:=hpv p0.1 f (by simpa using k1)
      rw [k3] at m1;cases m1
      refine ⟨?_,Opd.vr hR k5⟩
      simp [m2,k2,k4])
   hzl (fun i x hx=>.rd (hzv g.S w i x hx).1) hfill
  have hbuild:(Instr.build t (parts.map fun (i,x)=>(i,a.eval x))).run P w=.ok (.agg cells') w:=by
   simp only [Instr.build,vB,hzr w,xP,run_underlying hu]
   have hm:(fs.mapM (fun f=>do pure (f.offset,←Go.sizeOf f.type)):Sem (Array (Nat×Nat))).run P w=.ok pls.toArray w:=by
    rw [Array.mapM_eq_mapM_toList,Sem.run_map,hpr];rfl
   simp only [hm,xP]
   have e2:(parts.map fun (i,x)=>(i,a.eval x)).toList=parts.toList.map fun q=>(q.1,a.eval q.2):=by simp
   rw [e2,r1]
   rfl
  refine a09 hR hF (v:=.agg cells') ?_ (.inl h) (.agg _ _ r2 r3)
  simp only [execOp,ho]
  exact a7f hbuild
 ·exact h.elim
theorem flat_get {k:Nat}:∀{xs:List V},(∀x∈xs,x.cells.length=k)→∀(i j:Nat) (x c:V),xs[i]?=some x→x.cells[j]?=some c→(xs.flatMap V.cells)[i*k+j]?=some c
 | [],_,i,j,x,c,hi,_=>by simp at hi
 | y::xs,h,i,j,x,c,hi,hj=>by
  have hy:=h y xJ
  rw [xU]
  cases i with
  | zero =>
   simp at hi;subst hi
   have:j<y.cells.length:=(zG.1 hj).1
   rw [Nat.zero_mul,vC,zH this];exact hj
  | succ i =>
   simp only [zN] at hi
   have ih:=flat_get (fun x hx=>h x (xD _ hx)) i j x c hi hj
   rw [zD (by rw [hy,vM,vK];omega),hy,show (i+1)*k+j - k=i*k+j by rw [vM,vK];omega]
   exact ih
theorem c1z {k:Nat}:∀{xs:List V},(∀x∈xs,x.cells.length=k)→(xs.flatMap V.cells).length=xs.length*k
 | [],_=>by simp
 | y::xs,h=>by
  rw [xU,xK,h y xJ,c1z (fun x hx=>h x (xD _ hx)),wC,vM,vK];omega
def a2h (k:Nat):Nat→List V→List (Nat×Nat×V)
 | _,[]=>[]
 | i,x::xs=>(i*k,k,x)::a2h k (i+1) xs
theorem fill_flat {k:Nat}:∀(xs:List V) (i:Nat) (pre:List V),pre.length=i*k→(∀x∈xs,x.cells.length=k∧x.nany=true) →
  a8z (pre++List.replicate (xs.length*k) .any) (a2h k i xs)=some (pre++xs.flatMap V.cells)
 | [],i,pre,_,_=>by simp [a2h,a8z]
 | x::xs,i,pre,hl,h=>by
  obtain ⟨h1,h2⟩:=h x xJ
  have ih:=fill_flat xs (i+1) (pre++x.cells) (by rw [xK,hl,h1,vM,vK]) (fun y hy=>h y (xD _ hy))
  have hle:i*k+k≤(pre++List.replicate ((x::xs).length*k) V.any).length:=by
   simp [hl,vM]
  have hb:(x.nany&&Nat.beq x.cells.length k&&Nat.ble (i*k+k) (pre++List.replicate ((x::xs).length*k) V.any).length)=true:=by
   simp only [wG]
   exact ⟨⟨h2,by simpa using h1⟩,by simpa using hle⟩
  simp only [a2h,a8z,hb,vQ]
  have e:setCells (pre++List.replicate ((x::xs).length*k) V.any) (i*k) x.cells=(pre++x.cells)++List.replicate (xs.length*k) V.any:=by
   unfold setCells
   rw [←hl,List.take_left' rfl,List.drop_append,hl,h1]
   have e2:List.drop (i*k+k) pre=[]:=List.drop_eq_nil_of_le (by omega)
   have e3:i*k+k - i*k=k:=by omega
   rw [e2,e3,List.drop_replicate,wC,vM,vK,Nat.add_sub_cancel]
   simp
  rw [e,ih,xU,List.append_assoc]
theorem b4k {k:Nat} {x:V} (h:a2z k x=true):x.cells.length=k∧(∀c∈x.cells,c.one=true)∧x.sealed=true:=by
 simp only [a2z,wG,wF] at h
 exact ⟨by simpa using h.1.1,h.1.2,h.2⟩
theorem a8a {x c:V} (h:x.sealed=true) (hc:c∈x.cells):c.sc=true:=by
 cases x with
 | agg cs=>simp only [V.sealed,wF] at h;exact h c hc
 | _=>simp [V.cells] at hc;subst hc;simpa [V.sealed] using h
theorem c1g {x:V} (h:∀c∈x.cells,c.one=true):x.nany=true:=by
 cases x with
 | any=>exact absurd (h .any (by simp [V.cells])) (by simp [V.one])
 | at_ a b=>exact absurd (h (.at_ a b) (by simp [V.cells])) (by simp [V.one])
 | _=>rfl
theorem c7p (hR:Rel P c g σ a w) (hF:Fin o c g σ a w K L K') {d:Nat} (hcl:Clean c σ d) {cur:Array Value} {e:TypeId} {fz:Nat×Nat} {k cap:Nat} {xs:List V} {w':World}
  (hkp:0<k) (hsz:cur.size=cap*k) {tg:Option TypeId} (htg:c2m tg e fz) (hfz:a3d fz cur.size) (hle:xs.length≤cap) (hm:cap≤maxLen) (hel:∀x∈xs,x.cells.length=k∧(∀c∈x.cells,c.one=true)∧x.sealed=true)
  (hv:∀(i j:Nat) (x y:V),xs[i]?=some x→x.cells[j]?=some y→Rd g.S w (cur.getD (i*k+j) undef) y)
  (h1:w'.os=w.os) (h2:w'.tape=w.tape) (h3:w'.output=w.output) (h4:w'.heap=w.heap.push (.cells cur e fz)) {n:Nat} (hn:n=xs.length)
  (hrun:(execOp a.eval o).run P w=.ok (.value (.slice (some ⟨w.heap.size,0,none⟩) n cap)) w')
  (hk:K ⟨.osl d k 0 n,[],[(d,.arr k xs tg)]⟩∨L ⟨.osl d k 0 n,[],[(d,.arr k xs tg)]⟩):o.wp P a w K' Q':=by
 unfold Oper.wp
 rw [hrun]
 have hkeep:a1o g.S w w':=a1o.push hR.hp.lt h4
 have e1:(g.set d w.heap.size 0 cap).ρ d=w.heap.size:=by simp [Gh.set]
 have e2:(g.set d w.heap.size 0 cap).base d=0:=by simp [Gh.set]
 have e3:(g.set d w.heap.size 0 cap).cap d=cap:=by simp [Gh.set]
 have e4:¬(g.set d w.heap.size 0 cap).nil d:=by simp [Gh.set]
 refine hF _ hk (g.set d w.heap.size 0 cap) _ _ (a07.alloc _ d 0 cap _ (.cells cur e fz) hR.hp.lt h1 h2 h3 h4 ?_) (a0v.of_clean hcl) ?_
 ·refine .inr ⟨e4,?_⟩
  rw [e1,e2,e3]
  refine ⟨hkp,⟨cur,e,fz,by rw [h4];simp,by rw [hsz,vC],⟨hfz,htg⟩,fun i j x y hx hy=>?_⟩,hle,by omega,hel⟩
  rw [vC]
  exact (hv i j x y hx hy).mono hkeep fun _ h=>h
 ·have:=VR.osl (g:=g.set d w.heap.size 0 cap) (w:=w') d k 0 n 0 cap e4 (.inr (by rw [e2];simp)) (by rw [e3];omega) (by omega) hm
  rw [e1] at this
  exact this
theorem b3a:∀{n:Nat} {xs:List Opd} {qs:List (Nat×Operand)},b3y n xs qs=true→xs.length=qs.length∧∀(i:Nat) (x:Opd) (q:Nat×Operand),xs[i]?=some x→qs[i]?=some q→q.1=n+i∧x.ok q.2=true
 | _,[],[],_=>⟨rfl,fun i x q h=>by simp at h⟩
 | _,[],_::_,h=>by simp [b3y] at h
 | _,_::_,[],h=>by simp [b3y] at h
 | n,x::xs,(j,y)::qs,h=>by
  simp only [b3y,wG] at h
  obtain ⟨⟨h1,h2⟩,h3⟩:=h
  obtain ⟨l,r⟩:=b3a h3
  refine ⟨by simp [l],fun i p q hp hq=>?_⟩
  cases i with
  | zero=>simp at hp hq;subst hp;subst hq;exact ⟨by simpa using h1,h2⟩
  | succ i =>
   simp only [zN] at hp hq
   obtain ⟨r1,r2⟩:=r i p q hp hq
   exact ⟨by omega,r2⟩
theorem b0o {k:Nat}:∀{xs:List V} {n:Nat} (i:Nat) (q:Nat×Nat×V),(a2h k n xs)[i]?=some q→∃x,xs[i]?=some x∧q=((n+i)*k,k,x)
 | [],n,i,q,h=>by simp [a2h] at h
 | x::xs,n,i,q,h=>by
  cases i with
  | zero=>simp [a2h] at h;exact ⟨x,rfl,by simp [←h]⟩
  | succ i =>
   simp only [a2h,zN] at h
   obtain ⟨y,h1,h2⟩:=b0o i q h
   exact ⟨y,by simpa using h1,by rw [h2,show n+1+i=n+(i+1) by omega]⟩
theorem b0n {k:Nat}:∀{xs:List V} {n:Nat},(a2h k n xs).length=xs.length
 | [],_=>rfl
 | x::xs,n=>by simp [a2h,b0n]
theorem c0r {k:Nat} {xs:List Opd} {uv:Bool} (hok:(a06.bslice k xs uv).ok P o.op=true) (hR:Rel P c g σ a w) {d:Nat} (hcl:Clean c σ d) (h:w9 P (.bslice k xs uv) d (xs.map (·.ev σ.env)) ob K L) (hF:Fin o c g σ a w K L K'):o.wp P a w K' Q':=by
 have:∃t parts e inf,o.op=.buildSlice t xs.length parts∧P.underlying t=some (.slice e)∧P.info? e=some inf∧inf.size=k∧inf.zero.isSome=true∧0<k∧xs.length*k≤16777216∧b3y 0 xs parts.toList=true:=by
  cases ho:o.op<;>rw [ho] at hok<;>try (simp [a06.ok] at hok;done)
  rename_i t n parts
  simp only [a06.ok,wG,xO] at hok
  obtain ⟨⟨⟨⟨h1,h2⟩,h3⟩,h4⟩,h5⟩:=hok
  split at h1<;>try (cases h1;done)
  rename_i e hu
  simp only [wG] at h1
  obtain ⟨h6,h7⟩:=h1
  split at h7<;>try (cases h7;done)
  rename_i inf hinf
  have hn:n=xs.length:=by simpa using h3
  subst hn
  refine ⟨t,parts,e,inf,rfl,hu,hinf,?_,h7,by simpa [Nat.blt_eq] using h2,h4,h5⟩
  simp only [a3r,hinf] at h6
  simpa using h6
 obtain ⟨t,parts,e,inf,ho,hu,hinf,hsz,hzs,hkp,hbig,hels⟩:=this
 obtain ⟨z,hz⟩:=Option.isSome_iff_exists.1 hzs
 obtain ⟨hlen,hparts⟩:=b3a hels
 have hk:(xs.map (·.ev σ.env)).all (a2z k)=true∧K ⟨.osl d k 0 (xs.map (·.ev σ.env)).length,[],[(d,.arr k (xs.map (·.ev σ.env)) (uvT uv))]⟩:=by
  unfold w9 at h
  by_cases hb:(xs.map (·.ev σ.env)).all (a2z k)=true
  ·simp only [hb,vQ] at h;exact ⟨hb,h⟩
  ·simp [hb] at h
 obtain ⟨hall,hk⟩:=hk
 generalize hvs:xs.map (·.ev σ.env)=vs at *
 have hvl:vs.length=xs.length:=by rw [←hvs];simp
 have hel:∀x∈vs,x.cells.length=k∧(∀c∈x.cells,c.one=true)∧x.sealed=true:=fun x hx=>b4k (wF.1 hall x hx)
 obtain ⟨cells0,hc0,hc1⟩:∃cells0:Array Value,cells0.size=vs.length*k ∧
   (Instr.buildSlice t xs.length (parts.map fun (i,x)=>(i,a.eval x))).run P w =
    (match Instr.fill (fun i=>some (i*k,k)) cells0 (parts.toList.map fun q=>(q.1,a.eval q.2)) with
     | some cells=>.ok (.slice (some ⟨w.heap.size,0,none⟩) xs.length xs.length) (w.alloc (.cells cells e))
     | none=>.halt (.stuck "buildSlice: a part of the wrong size") w):=by
  have e2:(parts.map fun (i,x)=>(i,a.eval x)).toList=parts.toList.map fun q=>(q.1,a.eval q.2):=by simp
  have hnb:¬(xs.length*k > 2^24):=by omega
  have main:∀zc:Array Value,(zc=if xs.length*k=0 then #[] else z.cells)→(Instr.buildSlice t xs.length (parts.map fun (i,x)=>(i,a.eval x))).run P w =
    (match Instr.fill (fun i=>some (i*k,k)) ((Array.range (xs.length*k)).map (zc[· % zc.size]!)) (parts.toList.map fun q=>(q.1,a.eval q.2)) with
     | some cells=>.ok (.slice (some ⟨w.heap.size,0,none⟩) xs.length xs.length) (w.alloc (.cells cells e))
     | none=>.halt (.stuck "buildSlice: a part of the wrong size") w):=by
   intro zc hzc
   simp only [Instr.buildSlice,vB,run_underlying hu,xP,Go.sizeOf,typeInfo,run_program,hinf,vA,hsz,hnb,if_false]
   by_cases hzero:xs.length*k=0
   ·rw [if_pos hzero] at hzc ⊢
    subst hzc
    simp only [vB,vA,xP,e2]
    cases hf:Instr.fill (fun i=>some (i*k,k)) ((Array.range (xs.length*k)).map ((#[]:Array Value)[· % (#[]:Array Value).size]!)) (parts.toList.map fun q=>(q.1,a.eval q.2)) with
    | none=>simp
    | some cells=>simp [newRow]
   ·rw [if_neg hzero] at hzc ⊢
    subst hzc
    have hzr:(zeroValue e).run P w=.ok z w:=by simp [zeroValue,typeInfo,hinf,hz]
    simp only [vB,hzr,vA,xP,e2]
    cases hf:Instr.fill (fun i=>some (i*k,k)) ((Array.range (xs.length*k)).map (z.cells[· % z.cells.size]!)) (parts.toList.map fun q=>(q.1,a.eval q.2)) with
    | none=>simp
    | some cells=>simp [newRow]
  exact ⟨_,by simp [hvl],main _ rfl⟩
 obtain ⟨cells',r1,r2,r3⟩:=a9y (g:=g) (w0:=w) (fun i=>some (i*k,k)) (parts.toList.map fun q=>(q.1,a.eval q.2)) (a2h k 0 vs) cells0 (List.replicate (vs.length*k) .any) (vs.flatMap V.cells)
  (by rw [b0n];simp;rw [hvl,hlen];simp) (fun i pt q hi hq=>by
   obtain ⟨x,hx,rfl⟩:=b0o i q hq
   rw [xS] at hi
   cases hpi:parts.toList[i]? with
   | none=>rw [hpi] at hi;cases hi
   | some p0 =>
    rw [hpi] at hi;simp at hi;subst hi
    rw [←hvs,xS] at hx
    cases hxi:xs[i]? with
    | none=>rw [hxi] at hx;cases hx
    | some x0 =>
     rw [hxi] at hx;simp at hx;subst hx
     obtain ⟨m1,m2⟩:=hparts i x0 p0 hxi hpi
     exact ⟨by simp [m1],Opd.vr hR m2⟩)
  (by simp [hc0]) (fun i x hx=>by
   rw [List.getElem?_replicate] at hx
   split at hx
   ·cases hx;exact .any _
   ·cases hx) (by have:=fill_flat (k:=k) vs 0 [] (by simp) (fun x hx=>⟨(hel x hx).1,c1g (hel x hx).2.1⟩);simpa using this)
 rw [r1] at hc1
 refine c7p hR hF hcl (cur:=cells') (e:=e) (fz:=(0,0)) (k:=k) (cap:=vs.length) (xs:=vs) (w':=w.alloc (.cells cells' e)) hkp ?_ (tg:=uvT uv) (by cases uv<;>first|trivial|rfl) (a3c _) (vL _) ?_ hel (fun i j x y hx hy=>?_) rfl rfl rfl rfl rfl ?_ (.inl hk)
 ·rw [r2,c1z (fun x hx=>(hel x hx).1)]
 ·have:vs.length≤16777216:=by
   rw [hvl]
   exact vD (Nat.le_mul_of_pos_right _ hkp) hbig
  rw [maxLen];omega
 ·have hf:=flat_get (k:=k) (fun x hx=>(hel x hx).1) i j x y hx hy
  refine (r3 _ y hf).sc_rd (a8a (hel x (xB hx)).2.2 (xB hy))
 ·simp only [execOp,ho]
  rw [hvl]
  exact a7f hc1
theorem a7y {t:TypeId} {k bytes:Nat} (h:a3m P t k bytes=true):∃e i z,P.underlying t=some (.slice e)∧P.info? e=some i∧i.zero=some z∧i.size=k∧i.bytes=bytes∧0<k∧0<bytes∧z.cells.size=k:=by
 unfold a3m at h
 split at h<;>try (cases h;done)
 rename_i e hu
 split at h<;>try (cases h;done)
 rename_i i hi
 simp only [wG] at h
 obtain ⟨⟨⟨⟨h1,h2⟩,h3⟩,h5⟩,h4⟩:=h
 split at h4<;>try (cases h4;done)
 rename_i z hz
 exact ⟨e,i,z,hu,hi,hz,by simpa using h1,by simpa using h2,by simpa [Nat.blt_eq] using h3,by simpa [Nat.blt_eq] using h5,by simpa using h4⟩
theorem e3g {k bytes:Nat} {z:V} {x y:Opd} (hok:(a06.mksl k bytes z x y).ok P o.op=true) (hR:Rel P c g σ a w) {d:Nat} (hcl:Clean c σ d) (h:w9 P (.mksl k bytes z x y) d [x.ev σ.env,y.ev σ.env] ob K L) (hF:Fin o c g σ a w K L K'):o.wp P a w K' Q':=by
 have:∃t x' y',o.op=.makeSlice t x' y'∧x.ok x'=true∧y.ok y'=true∧a3m P t k bytes=true∧b1t P t z=true∧a2z k z=true:=by
  cases ho:o.op<;>rw [ho] at hok<;>try (simp [a06.ok] at hok;done)
  simp [a06.ok] at hok
  exact ⟨_,_,_,rfl,hok.1.1.1.1,hok.1.1.1.2,hok.1.1.2,hok.1.2,hok.2⟩
 obtain ⟨t,x',y',ho,hx,hy,hs,hz,hoz⟩:=this
 obtain ⟨e,i,z0,hu,hi,hz0,hsz,hby,hkp,_,hzs⟩:=a7y hs
 have vx:=Opd.vr hR hx
 have vy:=Opd.vr hR hy
 simp only [w9,b92] at h
 split at h
 ·rename_i p q hp hq
  rw [hp] at vx;rw [hq] at vy
  obtain ⟨ex,rx⟩:=vx.int_inv
  obtain ⟨ey,ry⟩:=vy.int_inv
  obtain ⟨⟨h0,h1,h2⟩,hk⟩:=h
  rw [a1a] at rx ry
  simp only [rng] at rx ry
  have hrun:=run_make (P:=P) w t e i z0 hu hi hz0 .i64 .i64 p q h0 h1 (by rw [hby,Int.mul_comm];omega) ry.2
  obtain ⟨hel1,hel2,hel3⟩:=b4k hoz
  have hzz:a7a P e z.cells=true:=by
   unfold b1t at hz;rw [hu] at hz;exact hz
  obtain ⟨z1,hz1,hz2,hz3⟩:=b59 hzz
  have:z1=z0:=by
   have:=hz1 w
   simp [zeroValue,typeInfo,hi,hz0] at this
   exact this.symm
  subst this
  refine c7p hR hF hcl (cur:=madeCells z1.cells (q.toNat*k)) (e:=e) (fz:=(0,0)) (k:=k) (cap:=q.toNat) (xs:=List.replicate p.toNat z) (w':=w.alloc (.cells (madeCells z1.cells (q.toNat*k)) e)) hkp (by simp [size_madeCells]) (tg:=none) trivial (a3c _)
   (by simp;omega) (by rw [maxLen];omega) (fun x hx=>by rw [List.eq_of_mem_replicate hx];exact ⟨hel1,hel2,hel3⟩) (fun i' j u v hu' hv'=>?_) rfl rfl rfl rfl (n:=p.toNat) (by simp) ?_ (.inl hk)
  ·rw [List.getElem?_replicate] at hu'
   split at hu'<;>cases hu'
   rename_i hlt
   have hj:j<k:=by rw [←hel1];exact (zG.1 hv').1
   have hb:i'*k+j<q.toNat*k:=by
    have:(i'+1)*k≤q.toNat*k:=zZ _ (by omega)
    rw [vM,vK] at this;omega
   have e1:(madeCells z1.cells (q.toNat*k)).getD (i'*k+j) undef=z1.cells.getD j undef:=by
    have hm:(i'*k+j) % z1.cells.size=j:=by rw [hzs,Nat.mul_comm,Nat.mul_add_mod,Nat.mod_eq_of_lt hj]
    have hlt2:j<z1.cells.size:=by omega
    simp only [madeCells,zC]
    rw [Array.getElem?_map,Array.getElem?_range,if_pos hb]
    simp only [wK,xY,hm]
    rw [getElem!_pos z1.cells j hlt2]
    simp [hlt2]
   rw [e1]
   exact (hz3 g.S w j v hv').1
  ·simp only [execOp,ho,ex,ey]
   have hrun':=hrun
   rw [hsz] at hrun'
   exact a7f hrun'
 ·exact h.elim
theorem d2y (s:List UInt8):∀x∈s.map a13,x.cells.length=1∧(∀c∈x.cells,c.one=true)∧x.sealed=true:=by
 intro x hx
 obtain ⟨b,_,rfl⟩:=vG.1 hx
 refine ⟨rfl,fun c hc=>?_,rfl⟩
 simp [a13,V.cells] at hc;subst hc;rfl
theorem d9f {S:Nat→Prop} {w':World} (b:UInt8):Rd S w' (.int .u8 b.toNat) (a13 b):=by
 refine .int _ _ ?_
 rw [a1a]
 have:=b.toNat_lt
 simp only [rng];omega
end
section
variable {P:Program} {o:Oper} {c:Ctx} {g:Gh} {σ:St} {a:Act} {w:World} {ob:Nat→Option a0c} {K L:Eff→Prop} {K':Act→World→Prop} {Q':Exit→Act→World→Prop}
theorem b1a {w:World} {b i:Nat} {cur:Array Value} {e:TypeId} {fz:Nat×Nat} {v:Value} (h:w.heap[b]?=some (.cells cur e fz)):(w.setCell ⟨b,i,none⟩ v).heap[b]?=some (.cells (cur.setIfInBounds i v) e fz):=by
 simp [World.setCell,zX,h]
theorem a3t (b s:Nat) (e:TypeId) (fz:Nat×Nat):∀(vs:List Value) (i:Nat) (cur:Array Value) (w:World),w.heap[b]?=some (.cells cur e fz)→a3d fz cur.size→s+i+vs.length≤cur.size→(∀v∈vs,v.oneCell'=true) →
  ∃w' cur',(storeCells ⟨b,s,none⟩ vs i).run P w=.ok () w'∧w'.os=w.os∧w'.tape=w.tape∧w'.output=w.output∧w'.heap.size=w.heap.size∧(∀b',b'≠b→w'.heap[b']?=w.heap[b']?) ∧
   w'.heap[b]?=some (.cells cur' e fz)∧cur'.size=cur.size∧∀j,cur'[j]?=if s+i≤j∧j<s+i+vs.length then vs[j - (s+i)]? else cur[j]?
 | [],i,cur,w,h,_,_,_=>⟨w,cur,rfl,rfl,rfl,rfl,rfl,fun _ _=>rfl,h,rfl,fun j=>by rw [if_neg (by simp only [wO];omega)]⟩
 | v :: vs,i,cur,w,h,hf,hl,h1=>by
  have hlt:s+i<cur.size:=by simp at hl;omega
  have ha:(⟨b,s,none⟩:Addr).add i=⟨b,s+i,none⟩:=Addr.add_lit _ _ _
  have hc:w.cell? ⟨b,s+i,none⟩=some cur[s+i]:=by
   rw [cell_of_row w b _ cur e fz h];simp [hlt]
  have hz:w.frozen? ⟨b,s+i,none⟩=false:=by
   have:=hf.at hlt
   simpa [World.frozen?,h] using this
  have hst:(store ((⟨b,s,none⟩:Addr).add i) v).run P w=.ok () (w.setCell ⟨b,s+i,none⟩ v):=by
   rw [run_store P w _ v .plain (h1 v xJ),ha,hc]
   simp [hz]
  obtain ⟨w',cur',r1,r2,r3,r4,r5,r6,r7,r8,r9⟩:=a3t b s e fz vs (i+1) (cur.setIfInBounds (s+i) v) (w.setCell ⟨b,s+i,none⟩ v) (b1a h) (by simpa using hf) (by simp at hl ⊢;omega)
   (fun u hu=>h1 u (xD _ hu))
  refine ⟨w',cur',?_,r2,r3,r4,by rw [r5];simp,fun b' hb'=>(r6 b' hb').trans (Below.heap_setCell _ _ _ _ hb'),r7,by rw [r8];simp,fun j=>?_⟩
  ·simp only [storeCells,vB,hst,xP,r1]
  ·rw [r9 j]
   simp only [wC]
   by_cases e1:j=s+i
   ·subst e1
    rw [if_neg (by omega),if_pos (by omega)]
    simp [hlt]
   ·by_cases hin:s+(i+1)≤j∧j<s+(i+1)+vs.length
    ·rw [if_pos hin,if_pos (by omega)]
     obtain ⟨q,hq⟩:∃q,j - (s+i)=q+1:=⟨j - (s+i) - 1,by omega⟩
     rw [hq,zN]
     congr 1;omega
    ·rw [if_neg hin,if_neg (by omega)]
     have hne:¬s+i=j:=fun h=>e1 h.symm
     rw [zA hne]
theorem a1o.upd {w':World} {H:Heap} {n:Nat} {o':a0c} (hH:a2l P g w H) (hf:find n H=some o') (hn:¬g.nil n) (h:∀b,b≠g.ρ n→w'.heap[b]?=w.heap[b]?):a1o g.S w w' :=
 fun b hb=>h b fun e=>hH.sep n o' hf hn (e▸hb)
theorem b0b {cs ys:List V} {off:Nat} (h:off+ys.length≤cs.length) (j:Nat):(setCells cs off ys)[j]?=if off≤j∧j<off+ys.length then ys[j - off]? else cs[j]?:=by
 simp only [setCells,List.getElem?_append,xK,wB,Nat.min_eq_left (show off≤cs.length by omega)]
 by_cases h1:j<off
 ·rw [if_pos (by omega),if_pos (by omega),if_neg (by omega),xL,if_pos h1]
 ·by_cases h2:j<off+ys.length
  ·rw [if_pos (by omega),if_neg (by omega),if_pos (by omega)]
  ·rw [if_neg (by omega),if_neg (by omega),xM]
   congr 1;omega
theorem b0a {cs ys:List V} {off:Nat} (h:off+ys.length≤cs.length):(setCells cs off ys).length=cs.length:=by
 simp [setCells];omega
theorem getD_of_getElem? {cur:Array Value} {j:Nat} {u:Value} (h:cur[j]?=some u):cur.getD j undef=u:=by
 simp [zC,h]
theorem b3r.set {S:Nat→Prop} {w w':World} {b base cap k:Nat} {xs:List V} {t:Option TypeId} (h:b3r S w b base cap k xs t) (hk:a1o S w w') {i off:Nat} {x x':V} {ys:List V} (hi:xs[i]?=some x) (hx':x'.cells=setCells x.cells off ys) (hoff:off+ys.length≤k)
  (hok:x'.cells.length=k∧(∀c∈x'.cells,c.one=true)∧x'.sealed=true) {cur cur':Array Value} {e:TypeId} {fz:Nat×Nat} {vs:List Value} (hb:w.heap[b]?=some (.cells cur e fz)) (hb':w'.heap[b]?=some (.cells cur' e fz)) (hs:cur'.size=cur.size)
  (hvl:vs.length=ys.length) (hv:∀(j:Nat) (y:V),ys[j]?=some y→Rd S w (vs.getD j undef) y)
  (hc:∀j,cur'[j]?=if (base+i)*k+off≤j∧j<(base+i)*k+off+vs.length then vs[j - ((base+i)*k+off)]? else cur[j]?):b3r S w' b base cap k (xs.set i x') t:=by
 obtain ⟨hp,⟨cur0,e0,fz0,h1,h2,h3,h4⟩,h5,h6,h7⟩:=h
 rw [hb] at h1;cases h1
 refine ⟨hp,⟨cur',_,_,hb',by rw [hs,h2],⟨by rw [hs];exact h3.1,h3.2⟩,fun i' j u y hu hy=>?_⟩,by simpa using h5,h6,fun u hu=>?_⟩
 ·have hlt:i<xs.length:=(zG.1 hi).1
  have hxk:=h7 x (xB hi)
  rw [xR] at hu
  by_cases e1:i=i'
  ·subst e1
   rw [if_pos rfl,if_pos hlt] at hu
   cases hu
   rw [hx',b0b (by rw [hxk.1];exact hoff)] at hy
   have hcj:=hc ((base+i)*k+j)
   by_cases h8:off≤j∧j<off+ys.length
   ·rw [if_pos h8] at hy
    rw [if_pos (by omega)] at hcj
    have hv':=hv (j - off) y hy
    have e2:(base+i)*k+j - ((base+i)*k+off)=j - off:=by omega
    rw [e2] at hcj
    have hlt2:j - off<vs.length:=by omega
    rw [zJ hlt2] at hcj
    rw [getD_of_getElem? hcj]
    have e3:vs.getD (j - off) undef=vs[j - off]:=by simp [hlt2]
    rw [e3] at hv'
    exact hv'.mono hk fun _ h=>h
   ·rw [if_neg h8] at hy
    rw [if_neg (by omega)] at hcj
    have:=h4 i j x y hi hy
    have e2:cur'.getD ((base+i)*k+j) undef=cur.getD ((base+i)*k+j) undef:=by
     simp only [zC,hcj]
    rw [e2];exact this.mono hk fun _ h=>h
  ·rw [if_neg e1] at hu
   have hj:j<k:=by
    rw [←(h7 u (xB hu)).1];exact (zG.1 hy).1
   have hcj:=hc ((base+i')*k+j)
   rw [if_neg ?_] at hcj
   ·have:=h4 i' j u y hu hy
    have e2:cur'.getD ((base+i')*k+j) undef=cur.getD ((base+i')*k+j) undef:=by
     simp only [zC,hcj]
    rw [e2];exact this.mono hk fun _ h=>h
   ·rintro ⟨q1,q2⟩
    rw [hvl] at q2
    rcases Nat.lt_or_gt_of_ne e1 with h9|h9
    ·have:(base+i+1)*k≤(base+i')*k:=zZ _ (by omega)
     rw [vM (base+i) 1,vK] at this
     omega
    ·have:(base+i'+1)*k≤(base+i)*k:=zZ _ (by omega)
     rw [vM (base+i') 1,vK] at this
     omega
 ·rcases List.mem_or_eq_of_mem_set hu with h8|h8
  ·exact h7 u h8
  ·rw [h8];exact hok
theorem g74 {n:Nat} {x y:Opd} (hok:(a06.st n x y).ok P o.op=true) (hR:Rel P c g σ a w) (hob:∀id o,ob id=some o→find id σ.heap=some o) {d:Nat} (h:w9 P (.st n x y) d [x.ev σ.env,y.ev σ.env] ob K L) (hF:Fin o c g σ a w K L K'):o.wp P a w K' Q':=by
 have:∃t x' y',o.op=.store t x' y'∧x.ok x'=true∧y.ok y'=true∧a3r P t n=true:=by
  cases ho:o.op<;>rw [ho] at hok<;>try (simp [a06.ok] at hok;done)
  simp [a06.ok] at hok
  exact ⟨_,_,_,rfl,hok.1.1,hok.1.2,hok.2⟩
 obtain ⟨t,x',y',ho,hx,hy,ht⟩:=this
 have vx:=Opd.vr hR hx
 have vy:=Opd.vr hR hy
 have hsz:=a9j ht
 simp only [w9,sSt] at h
 generalize hyv:y.ev σ.env=v at h vy
 by_cases hb:(Nat.beq v.cells.length n&&v.cells.all V.one)=true
 case neg=>simp [hb] at h
 simp only [hb,vQ] at h
 simp only [wG,wF] at hb
 obtain ⟨hn,hone⟩:=hb
 have hn:v.cells.length=n:=by simpa using hn
 have hna:v.nany=true:=c1g hone
 obtain ⟨hvl,hvc⟩:=vy.cells_of hna
 have hone':∀u∈(a.eval y').cells.toList,u.oneCell'=true:=by
  intro u hu
  obtain ⟨i,hi,rfl⟩:=xC.1 hu
  have hi':i<v.cells.length:=by simp at hi;omega
  have:=(hvc i v.cells[i] (zJ hi')).one_cell (hone _ (wD hi'))
  have e1:(a.eval y').cells.getD i undef=(a.eval y').cells.toList[i]:=by
   simp at hi;simp [zC,hi]
  rw [←e1];exact this
 have fin:∀(ad:Addr) (w':World),a.eval x'=.pointer (some ad)→(storeCells ad (a.eval y').cells.toList).run P w=.ok () w'→∀eff g',(K eff∨L eff)→a07 g σ.heap w eff g' w'→a0v c.H0 g g' σ eff→eff.val=.any→o.wp P a w K' Q':=by
  intro ad w' e1 hrun eff g' hk h1 h2 h3
  unfold Oper.wp
  have:(execOp a.eval o).run P w=.ok .skip w':=by
   have hne:¬((a.eval y').cells.size≠n):=by omega
   simp only [execOp,ho,Instr.storeAt,e1,Instr.sureAddr,storeVar,vB,vA,xP,hsz w,hne,if_false,hrun]
  rw [this]
  exact hF eff hk g' undef w' h1 h2 (by rw [h3];exact .any _)
 split at h
 ·rename_i id off hc
  rw [hc] at vx
  split at h
  ·rename_i cs ty hobj
   have hfd:=hob _ _ hobj
   obtain ⟨hnn,cur,e,fz,h1,h2,⟨h3,hty⟩,h4⟩:=hR.hp.obj _ _ hfd
   by_cases hle:Nat.ble (off+n) cs.length=true
   case neg=>simp [hle] at h
   simp only [hle,vQ] at h
   have hle:off+n≤cs.length:=by simpa using hle
   obtain ⟨w',cur',r1,r2,r3,r4,r5,r6,r7,r8,r9⟩:=a3t (P:=P) (g.ρ id) off e fz (a.eval y').cells.toList 0 cur w h1 h3 (by simp;omega) hone'
   have hkeep:a1o g.S w w':=a1o.upd hR.hp hfd hnn r6
   refine fin _ w' vx.ptr_inv r1 (eup id (.cells (setCells cs off v.cells) ty)) g (.inl h) (a07.upd .any id (.cells cs ty) _ hR.hp hfd hnn r2 r3 r4 r5 r6 ?_) (a0v.upd _) rfl
   refine ⟨hnn,cur',e,fz,r7,by rw [r8,h2,b0a (by omega)],⟨by rw [r8];exact h3,hty⟩,fun i q hq=>?_⟩
   rw [b0b (by omega)] at hq
   have r9':=r9 i
   simp only [vF,xG] at r9'
   by_cases h8:off≤i∧i<off+v.cells.length
   ·rw [if_pos h8] at hq
    rw [if_pos (by omega)] at r9'
    have hlt:i - off<(a.eval y').cells.size:=by omega
    have hq':=hvc (i - off) q hq
    rw [zW,zI hlt] at r9'
    rw [getD_of_getElem? r9']
    have e3:(a.eval y').cells.getD (i - off) undef=(a.eval y').cells[i - off]:=by simp [zC,hlt]
    rw [e3] at hq'
    exact hq'.mono (g':=g) hkeep (fun _ h=>h) fun id _=>Gh.agree.refl _ _
   ·rw [if_neg h8] at hq
    rw [if_neg (by omega)] at r9'
    have e2:cur'.getD i undef=cur.getD i undef:=by simp only [zC,r9']
    rw [e2]
    exact (h4 i q hq).mono (g':=g) hkeep (fun _ h=>h) fun id _=>Gh.agree.refl _ _
  ·exact h.elim
 ·rename_i id k i off hc
  rw [hc] at vx
  split at h
  ·rename_i k' xs t0 hobj
   have hfd:=hob _ _ hobj
   by_cases hkk:(Nat.beq k k'&&v.sealed)=true
   case neg=>simp [hkk] at h
   simp only [hkk,vQ] at h
   simp only [wG] at hkk
   obtain ⟨hkk,hsea⟩:=hkk
   have:=zR hkk;subst this
   have main:∀(x0 x1:V),xs[i]?=some x0→x1.cells=setCells x0.cells off v.cells→off+n≤k→(x1.cells.length=k∧(∀c∈x1.cells,c.one=true)∧x1.sealed=true) →
     (K (eup id (.arr k (xs.set i x1) t0))∨L (eup id (.arr k (xs.set i x1) t0)))→o.wp P a w K' Q':=by
    intro x0 x1 hxi hx1 hoff hok1 hk
    rcases hR.hp.obj _ _ hfd with ⟨_,hnil⟩|⟨hnn,ha⟩
    ·rw [hnil] at hxi;simp at hxi
    ·have ha0:=ha
     obtain ⟨hkp,⟨cur,e,fz,h1,h2,⟨h3,_⟩,h4⟩,h5,h6,h7⟩:=ha
     have hlt:i<xs.length:=(zG.1 hxi).1
     have hle:(g.base id+i)*k+off+(a.eval y').cells.toList.length≤cur.size:=by
      have:(g.base id+i+1)*k≤cur.size:=by rw [h2];exact zZ _ (by omega)
      rw [vM (g.base id+i) 1,vK] at this
      simp;omega
     obtain ⟨w',cur',r1,r2,r3,r4,r5,r6,r7,r8,r9⟩:=a3t (P:=P) (g.ρ id) ((g.base id+i)*k+off) e fz (a.eval y').cells.toList 0 cur w h1 h3 hle hone'
     have hkeep:a1o g.S w w':=a1o.upd hR.hp hfd hnn r6
     refine fin _ w' vx.optr_inv r1 (eup id (.arr k (xs.set i x1) t0)) g hk (a07.upd .any id (.arr k xs t0) _ hR.hp hfd hnn r2 r3 r4 r5 r6 ?_) (a0v.upd _) rfl
     refine .inr ⟨hnn,ha0.set hkeep hxi hx1 (by omega) hok1 h1 r7 r8 (vs:=(a.eval y').cells.toList) (by simp [hvl]) (fun j q hq=>?_) (fun j=>by have:=r9 j;simpa using this)⟩
     have hlt2:j<(a.eval y').cells.size:=by rw [hvl];exact (zG.1 hq).1
     have e3:(a.eval y').cells.toList.getD j undef=(a.eval y').cells.getD j undef:=by simp [zC,List.getD,hlt2]
     rw [e3]
     exact (hvc j q hq).sc_rd (a8a hsea (xB hq))
   by_cases hw:(Nat.beq off 0&&Nat.beq n k)=true
   ·simp only [hw,vQ] at h
    simp only [wG] at hw
    have h0:off=0:=by simpa using hw.1
    have hnk:n=k:=by simpa using hw.2
    obtain ⟨hlt,hk⟩:=h
    have hxi:xs[i]?=some xs[i]:=zJ hlt
    subst h0
    have hxk:xs[i].cells.length=k:=by
     rcases hR.hp.obj _ _ hfd with ⟨_,hnil⟩|⟨hnn,ha⟩
     ·subst hnil;simp at hlt
     ·exact (ha.elem _ (wD hlt)).1
    refine main xs[i] v hxi ?_ (by omega) ⟨by omega,hone,hsea⟩ (.inl hk)
    unfold setCells
    rw [List.take_zero,wL,List.drop_eq_nil_of_le (by omega),wS]
   ·simp only [hw,vO] at h
    obtain ⟨cs,hxi,hoff,hk⟩:=h
    have hx0:(V.agg cs).cells.length=k∧(∀c∈(V.agg cs).cells,c.one=true)∧(V.agg cs).sealed=true:=by
     rcases hR.hp.obj _ _ hfd with ⟨_,hnil⟩|⟨hnn,ha⟩
     ·rw [hnil] at hxi;simp at hxi
     ·exact ha.elem _ (xB hxi)
    have hcl:cs.length=k:=hx0.1
    have hmem:∀c'∈setCells cs off v.cells,c'∈cs∨c'∈v.cells:=by
     intro c' hc'
     simp only [setCells,wN] at hc'
     rcases hc' with (h|h)|h
     ·exact .inl (List.mem_of_mem_take h)
     ·exact .inr h
     ·exact .inl (xA h)
    refine main (.agg cs) (.agg (setCells cs off v.cells)) hxi rfl hoff ⟨by rw [V.cells,b0a (by omega)];exact hcl,fun c' hc'=>?_,?_⟩ (.inr hk)
    ·rcases hmem c' hc' with h|h
     ·exact hx0.2.1 c' h
     ·exact hone c' h
    ·simp only [V.sealed,wF]
     intro c' hc'
     rcases hmem c' hc' with h|h
     ·exact a8a hx0.2.2 h
     ·exact a8a hsea h
  ·exact h.elim
 ·exact h.elim
theorem b6z (hR:Rel P c g σ a w):∀{x:Option Opd} {y:Option Operand},b5u x y=true→(x=none∧y=none)∨∃x' y',x=some x'∧y=some y'∧VR g w (a.eval y') (x'.ev σ.env)
 | none,none,_=>.inl ⟨rfl,rfl⟩
 | some x,some y,h=>.inr ⟨x,y,rfl,rfl,Opd.vr hR h⟩
 | none,some _,h=>by simp [b5u] at h
 | some _,none,h=>by simp [b5u] at h
theorem c4i (hR:Rel P c g σ a w) {lo hi:Option Opd} {lo' hi':Option Operand} (h1:b5u lo lo'=true) (h2:b5u hi hi'=true) {len cap:Nat} {isS:Bool} {p q:Int}
  (hb:bounds lo.isSome hi.isSome len ((a4i lo++a4i hi).map (·.ev σ.env))=some (p,q)) (h0:0≤p) (hpq:p≤q) (hq:q≤len) (hc:len≤cap) :
  (Instr.sliceBounds isS len cap (lo'.map a.eval) (hi'.map a.eval) none).run P w=.ok (p.toNat,q.toNat,cap) w:=by
 have bnd:∀(k:IntKind) (n:Int) (m:Nat) (code:BoundsCode),0≤n→n≤m→(Instr.sliceBound (.int k n) m code).run P w=.ok n.toNat w:=fun k n m code a1 a2=>run_sliceBound w k n m code a1 a2
 rcases b6z hR h1 with ⟨rfl,rfl⟩|⟨x,y,rfl,rfl,vx⟩<;>rcases b6z hR h2 with ⟨rfl,rfl⟩|⟨x2,y2,rfl,rfl,vx2⟩
 ·simp [bounds,a4i] at hb
  obtain ⟨rfl,rfl⟩:=hb
  simp [Instr.sliceBounds]
 ·simp only [a4i,wL,w5,vH,Option.isSome_none,Option.isSome_some] at hb
  cases hx:x2.ev σ.env<;>simp [bounds,hx] at hb
  rename_i k n
  obtain ⟨rfl,rfl⟩:=hb
  rw [hx] at vx2
  simp only [Option.map_none,wK,vx2.int_inv.1,Instr.sliceBounds,vB,vA,xP]
  rw [bnd k n cap _ hpq (by omega)]
  rfl
 ·simp only [a4i,wS,w5,vH,Option.isSome_none,Option.isSome_some] at hb
  cases hx:x.ev σ.env<;>simp [bounds,hx] at hb
  rename_i k n
  obtain ⟨rfl,rfl⟩:=hb
  rw [hx] at vx
  simp only [Option.map_none,wK,vx.int_inv.1,Instr.sliceBounds,vB,vA,xP]
  rw [bnd k n len _ h0 (by omega)]
  simp
 ·simp only [a4i,wE,wL,w5,vH,Option.isSome_some] at hb
  cases hx:x.ev σ.env<;>cases hx2:x2.ev σ.env<;>simp [bounds,hx,hx2] at hb
  rename_i k n k2 n2
  obtain ⟨rfl,rfl⟩:=hb
  rw [hx] at vx;rw [hx2] at vx2
  simp only [wK,vx.int_inv.1,vx2.int_inv.1,Instr.sliceBounds,vB,vA,xP]
  rw [bnd k2 n2 cap _ (by omega) (by omega)]
  simp only [xP]
  rw [bnd k n n2.toNat _ h0 (by omega)]
  rfl
theorem f8u {k:Nat} {x:Opd} {lo hi:Option Opd} (hok:(a06.slc k x lo hi).ok P o.op=true) (hR:Rel P c g σ a w) {d:Nat} (h:w9 P (.slc k x lo hi) d (x.ev σ.env::(a4i lo++a4i hi).map (·.ev σ.env)) ob K L) (hF:Fin o c g σ a w K L K'):o.wp P a w K' Q':=by
 have:∃t y lo' hi',o.op=.slice t y lo' hi' none∧x.ok y=true∧b5u lo lo'=true∧b5u hi hi'=true∧isSlice P t k=true:=by
  cases ho:o.op<;>rw [ho] at hok<;>try (simp [a06.ok] at hok;done)
  rename_i t y lo' hi' mx
  cases mx<;>try (simp [a06.ok] at hok;done)
  simp [a06.ok] at hok
  exact ⟨_,_,_,_,rfl,hok.1.1.1,hok.1.1.2,hok.1.2,hok.2⟩
 obtain ⟨t,y,lo',hi',ho,hx,hlo,hhi,ht⟩:=this
 obtain ⟨e,hu,hsz⟩:=c0l ht
 have vx:=Opd.vr hR hx
 have hrun:∀(ad:Option Addr) (len cap:Nat) (p q:Int),a.eval y=.slice ad len cap→bounds lo.isSome hi.isSome len ((a4i lo++a4i hi).map (·.ev σ.env))=some (p,q)→0≤p→p≤q→q≤len→len≤cap →
   (execOp a.eval o).run P w=.ok (.value (.slice (if cap=p.toNat then ad else ad.map (·.add (p.toNat*k))) (q.toNat - p.toNat) (cap - p.toNat))) w:=by
  intro ad len cap p q e1 hb h0 h1 h2 h3
  have hr:=c4i (P:=P) hR hlo hhi (isS:=true) hb h0 h1 h2 h3
  simp only [execOp,ho,e1]
  refine a7f ?_
  have e2:P.elem t=e:=by simp [Program.elem,hu]
  rw [run_sliceAt_slice w t _ _ _ _ (by rw [e2];exact hu)]
  simp only [Option.map_none,Instr.slice,vB,run_underlying hu,xP]
  rw [hr]
  simp only [xP,hsz w,vA]
 simp only [w9,d3s] at h
 split at h
 ·rename_i xs hs
  rw [hs] at vx
  split at h
  ·rename_i p q hpq
   obtain ⟨⟨h0,h1,h2⟩,hkk,hk⟩:=h
   have hrd:=vx.sl_inv
   generalize hvy:a.eval y=vy at hrd
   cases hrd with
   | nilsl =>
    simp at h2
    have hp0:p=0:=by omega
    have hq0:q=0:=by omega
    subst hp0;subst hq0
    refine a09 hR hF (hrun none 0 0 0 0 hvy hpq (by omega) (by omega) (by simp) (vL _)) (.inl hk) (.rd ?_)
    simp
    exact .nilsl
   | slz a0 cap0 =>
    simp at h2
    have hp0:p=0:=by omega
    have hq0:q=0:=by omega
    subst hp0;subst hq0
    refine a09 hR hF (hrun (some a0) 0 cap0 0 0 hvy hpq (by omega) (by omega) (by simp) (vJ _)) (.inl hk) (.rd ?_)
    simp only [Int.toNat_zero,List.take_zero,wW,Nat.sub_zero,wK]
    split<;>exact .slz _ _
   | sl b o' len cap k' cur e' fz _ hS hg hl hm hcc hb hkx hr =>
    subst hl
    refine a09 hR hF (hrun _ _ cap p q hvy hpq h0 h1 h2 hcc) (.inl hk) (.rd ?_)
    have hlen:((xs.take q.toNat).drop p.toNat).length=q.toNat - p.toNat:=by simp;omega
    have hget:∀(i:Nat) (u:V),((xs.take q.toNat).drop p.toNat)[i]?=some u→xs[p.toNat+i]?=some u:=by
     intro i u hu'
     rw [xM,xL] at hu'
     split at hu'
     ·exact hu'
     ·cases hu'
    obtain ⟨o'',ho''⟩:∃o'',(if cap=p.toNat then (some (⟨b,o',none⟩:Addr)) else (some (⟨b,o',none⟩:Addr)).map (·.add (p.toNat*k)))=some ⟨b,o'',none⟩∧(cap=p.toNat∨o''=o'+p.toNat*k):=by
     by_cases hcp:cap=p.toNat
     ·exact ⟨o',by rw [if_pos hcp],.inl hcp⟩
     ·refine ⟨o'+p.toNat*k,?_,.inr rfl⟩
      rw [if_neg hcp]
      simp only [wK]
      congr 1
      exact Addr.add_lit _ _ _
    rw [ho''.1]
    by_cases hz:q.toNat - p.toNat=0
    ·have hnil:(xs.take q.toNat).drop p.toNat=[]:=zB (by rw [hlen];exact hz)
     rw [hnil,hz]
     exact .sl b o'' 0 _ k cur e' fz [] hS hg rfl (by omega) (by omega) (.inl rfl) (fun x hx=>by simp at hx) (fun i j u y hu' _=>by simp at hu')
    ·have hkp:k'=k:=by
      have hlt:p.toNat<xs.length:=by omega
      have m1:=wD hlt
      rw [←(hkx _ m1).1];exact hkk _ m1
     subst hkp
     have hoo:o''=o'+p.toNat*k':=by
      rcases ho''.2 with h|h
      ·omega
      ·exact h
     subst hoo
     refine .sl b _ _ _ k' cur e' fz _ hS hg hlen (by omega) (by omega) (.inr ?_) (fun u hu'=>?_) (fun i j u y hu' hy=>?_)
     ·rcases hb with hb|hb
      ·omega
      ·refine vD ?_ hb
       have:(p.toNat+(q.toNat - p.toNat))*k'≤xs.length*k':=zZ _ (by omega)
       rw [vM] at this
       omega
     ·exact hkx u (List.mem_of_mem_take (xA hu'))
     ·have:=hr (p.toNat+i) j u y (hget i u hu') hy
      rw [vM] at this
      rw [show o'+p.toNat*k'+i*k'+j=o'+(p.toNat*k'+i*k')+j by omega]
      exact this
  ·exact h.elim
 ·rename_i id k' l n hs
  rw [hs] at vx
  split at h
  ·rename_i p q hpq
   by_cases hkk:Nat.beq k k'=true
   case neg=>simp [hkk] at h
   simp only [hkk,vQ] at h
   have:=zR hkk;subst this
   obtain ⟨⟨h0,h1,h2⟩,hk⟩:=h
   rcases vx.osl_inv with ⟨hnil,hv,hz⟩|⟨hnn,o',cc,hv,ho',hcap,hlc,hm⟩
   ·subst hz
    have hp0:p=0:=by omega
    have hq0:q=0:=by omega
    subst hp0;subst hq0
    refine a09 hR hF (hrun none 0 0 0 0 hv hpq (by omega) (by omega) (by simp) (vL _)) (.inl hk) ?_
    simp
    exact .oslnil _ _ _ hnil
   ·refine a09 hR hF (hrun _ _ cc p q hv hpq h0 h1 h2 hlc) (.inl hk) ?_
    by_cases hcp:cc=p.toNat
    ·rw [if_pos hcp]
     exact .osl _ _ _ _ _ _ hnn (.inl (by omega)) (by omega) (by omega) (by omega)
    ·rw [if_neg hcp]
     simp only [wK]
     rw [show (⟨g.ρ id,o',none⟩:Addr).add (p.toNat*k)=⟨g.ρ id,o'+p.toNat*k,none⟩ from Addr.add_lit _ _ _]
     refine .osl _ _ _ _ _ _ hnn (.inr ?_) (by omega) (by omega) (by omega)
     rcases ho' with h|h
     ·omega
     ·rw [h,←vM,wZ]
  ·exact h.elim
 ·exact h.elim
end
section
variable {P:Program} {o:Oper} {c:Ctx} {g:Gh} {σ:St} {a:Act} {w:World} {ob:Nat→Option a0c} {K L:Eff→Prop} {K':Act→World→Prop} {Q':Exit→Act→World→Prop}
theorem d67 {w:World} {b o' n:Nat} {cur:Array Value} {e:TypeId} {fz:Nat×Nat} (hb:w.heap[b]?=some (.cells cur e fz)) (h:o'+n≤cur.size) :
  (loadCells ⟨b,o',none⟩ n).run P w=.ok ((cur.toList.drop o').take n).toArray w:=by
 have hl:((cur.toList.drop o').take n).length=n:=by simp;omega
 have:=run_loadCells_list (P:=P) w ⟨b,o',none⟩ ((cur.toList.drop o').take n) (fun j v hv=>by
  rw [show (⟨b,o',none⟩:Addr).add j=⟨b,o'+j,none⟩ from Addr.add_lit _ _ _,cell_of_row w b _ cur e fz hb]
  rw [xL] at hv
  split at hv
  ·simpa using hv
  ·cases hv)
 rwa [hl] at this
theorem b5i {cur:Array Value} {o' n j:Nat} (hj:j<n) (h:o'+n≤cur.size):((cur.toList.drop o').take n)[j]?=some (cur.getD (o'+j) undef):=by
 rw [xL,if_pos hj,xM,zW]
 have:o'+j<cur.size:=by omega
 simp [zC,this]
structure Src (P:Program) (S:Nat→Prop) (w:World) (k:Nat) (v:Value) (ys:List V) (news:List Value):Prop where
 len:news.length=ys.length*k
 lenOf:(Builtin.lenOf v).run P w=.ok ys.length w
 first:(Builtin.firstCells k ys.length v).run P w=.ok news.toArray w
 one:∀u∈news,u.oneCell'=true
 rd:∀(i j:Nat) (x y:V),ys[i]?=some x→x.cells[j]?=some y→Rd S w (news.getD (i*k+j) undef) y
 elem:∀x∈ys,x.cells.length=k∧(∀c∈x.cells,c.one=true)∧x.sealed=true
 big:ys.length≤maxLen
theorem b1q {w:World} {S:Nat→Prop} {b o' k len cap:Nat} {cur:Array Value} {e:TypeId} {fz:Nat×Nat} {ys:List V} (hb:w.heap[b]?=some (.cells cur e fz)) (hl:ys.length=len) (h:len=0∨o'+len*k≤cur.size)
  (hrd:∀(i j:Nat) (x y:V),ys[i]?=some x→x.cells[j]?=some y→Rd S w (cur.getD (o'+i*k+j) undef) y) (hel:∀x∈ys,x.cells.length=k∧(∀c∈x.cells,c.one=true)∧x.sealed=true) (hm:len≤maxLen) :
  ∃news,Src P S w k (.slice (some ⟨b,o',none⟩) len cap) ys news:=by
 subst hl
 by_cases h0:ys.length=0
 ·have hnil:ys=[]:=zB h0
  subst hnil
  refine ⟨[],by simp,rfl,?_,by simp,by simp,by simp,by simp⟩
  simp [Builtin.firstCells,loadCells,loadCellsFrom]
 ·have h:o'+ys.length*k≤cur.size:=h.resolve_left h0
  refine ⟨(cur.toList.drop o').take (ys.length*k),by simp;omega,rfl,d67 hb h,?_,?_,hel,hm⟩
  ·intro u hu
   obtain ⟨j,hj,rfl⟩:=xC.1 hu
   have hj':j<ys.length*k:=by simp at hj;omega
   have hkp:0<k:=by rcases Nat.eq_zero_or_pos k with h|h<;>simp_all
   have e1:=b5i (cur:=cur) hj' h
   rw [zJ hj] at e1
   have e3:=wJ e1
   have hi:j / k<ys.length:=Nat.div_lt_of_lt_mul (by rw [Nat.mul_comm];exact hj')
   have hx:=hel _ (wD hi)
   have hm':j % k<ys[j / k].cells.length:=by rw [hx.1];exact Nat.mod_lt _ hkp
   have:=hrd (j / k) (j % k) _ _ (zJ hi) (zJ hm')
   have e2:o'+j / k*k+j % k=o'+j:=by
    have:=Nat.div_add_mod j k
    rw [Nat.mul_comm] at this;omega
   rw [e2] at this
   rw [e3]
   exact (VR.rd (g:=⟨S,id,id,id,fun _=>False⟩) this).one_cell (hx.2.1 _ (wD hm'))
  ·intro i j x y hi hj
   have hlt:i<ys.length:=(zG.1 hi).1
   have hjk:j<k:=by rw [←(hel x (xB hi)).1];exact (zG.1 hj).1
   have hij:i*k+j<ys.length*k:=by
    have:(i+1)*k≤ys.length*k:=zZ _ hlt
    rw [vM,vK] at this;omega
   have e1:=b5i (cur:=cur) hij h
   have e2:((cur.toList.drop o').take (ys.length*k)).getD (i*k+j) undef=cur.getD (o'+(i*k+j)) undef:=by
    rw [zE,e1];rfl
   rw [e2,←wZ]
   exact hrd i j x y hi hj
theorem b5f {w:World} {S:Nat→Prop} {k:Nat}:Src P S w k (.slice none 0 0) [] [] :=
 ⟨by simp,rfl,by simp [Builtin.firstCells],by simp,by simp,by simp,by simp⟩
theorem b6d (hR:Rel P c g σ a w) (hob:∀id o,ob id=some o→find id σ.heap=some o) {k:Nat} {v:Value} {y:V} {ys:List V} (hv:VR g w v y) (h:a5l k y ob=some ys) (hvl:e2j y≤ys.length) (hk:∀x∈ys,x.cells.length=k):∃news,Src P g.S w k v ys news:=by
 unfold a5l at h
 split at h
 ·cases h
  rw [hv.nils_inv]
  exact ⟨[],b5f⟩
 ·rename_i zs
  cases h
  have hrd:=hv.sl_inv
  cases hrd with
  | nilsl=>exact ⟨[],b5f⟩
  | slz a0 cap0=>exact ⟨[],by simp,rfl,by simp [Builtin.firstCells,loadCells,loadCellsFrom],by simp,by simp,by simp,by simp⟩
  | sl b o' len cap k' cur e fz _ hS hg hl hm hc hb hkk hr =>
   by_cases h0:ys.length=0
   ·have hnil:ys=[]:=zB h0
    subst hnil
    exact b1q hg hl (.inl (by simpa using hl.symm)) (fun i j x y hx _=>by simp at hx) (fun x hx=>by simp at hx) hm
   ·obtain ⟨x,hx⟩:∃x,x∈ys:=List.exists_mem_of_length_pos (by omega)
    have:k'=k:=by rw [←(hkk x hx).1];exact hk x hx
    subst this
    exact b1q hg hl hb hr hkk hm
 ·rename_i id k' lo n
  split at h
  ·rename_i k'' xs t0 hobj
   by_cases hb:(Nat.beq k k'&&Nat.beq k k'')=true
   case neg=>simp [hb] at h
   simp only [hb,vQ,xQ] at h
   simp only [wG] at hb
   have e1:=zR hb.1;subst e1
   have e2:=zR hb.2;subst e2
   rcases hv.osl_inv with ⟨hnil,rfl,rfl⟩|⟨hnn,o',cc,rfl,ho',hcap,hlc,hm⟩
   ·have:ys=[]:=by rw [←h];simp
    subst this
    exact ⟨[],b5f⟩
   ·rcases hR.hp.obj _ _ (hob _ _ hobj) with ⟨hnil,_⟩|⟨_,ha⟩
    ·exact absurd hnil hnn
    ·obtain ⟨hkp,⟨cur,e,fz,h1,h2,h3,h4⟩,h5,h6,h7⟩:=ha
     have hget:∀(i:Nat) (x:V),ys[i]?=some x→xs[lo+i]?=some x∧i<n:=by
      intro i x hi
      rw [←h,xL] at hi
      split at hi
      ·rename_i hlt
       rw [xM] at hi;exact ⟨hi,hlt⟩
      ·cases hi
     have hel:∀x∈ys,x.cells.length=k∧(∀c∈x.cells,c.one=true)∧x.sealed=true:=by
      intro x hx
      obtain ⟨i,hi,rfl⟩:=xC.1 hx
      exact h7 _ (xB (hget i _ (zJ hi)).1)
     have hlen:ys.length=n:=by
      have h8:ys.length≤n:=by rw [←h];simp;omega
      simp only [e2j] at hvl
      omega
     ·by_cases hn0:n=0
      ·have hnil:ys=[]:=zB (by omega)
       subst hnil
       exact b1q h1 hlen (.inl hn0) (fun i j x y hx _=>by simp at hx) (fun x hx=>by simp at hx) (by omega)
      ·have hoo:o'=(g.base id+lo)*k:=by
        rcases ho' with h|h
        ·omega
        ·exact h
       refine b1q h1 hlen (.inr ?_) (fun i j x y hx hy=>?_) hel (by omega)
       ·rw [hoo,←vM,h2];exact zZ _ (by omega)
       ·have:=h4 (lo+i) j x y (hget i x hx).1 hy
        rw [hoo,←vM,wZ];exact this
  ·cases h
 ·rename_i s
  by_cases hb:Nat.beq k 1=true
  case neg=>simp [hb] at h
  simp only [hb,vQ,xQ] at h
  have e1:=zR hb;subst e1;subst h
  obtain ⟨b,rfl,hb',hm⟩:=hv.str_inv
  have hsz:b.size=s.length:=by rw [←hb',xG];rfl
  refine ⟨s.map fun c=>.int .u8 c.toNat,by simp,?_,?_,fun u hu=>?_,fun i j x y hi hj=>?_,d2y s,by simp;omega⟩
  ·simp [Builtin.lenOf,hsz]
  ·simp only [Builtin.firstCells,vA]
   congr 1
   apply wH.1
   simp only [wP,Array.toList_map]
   have:(b.extract 0 s.length).data.toList=s:=by
    obtain ⟨⟨l⟩⟩:=b
    rw [ByteArray.extract_mk]
    simp only at hb' ⊢
    rw [wW,Nat.sub_zero,hb'];exact wA
   rw [this]
  ·obtain ⟨b',_,rfl⟩:=vG.1 hu;rfl
  ·rw [xS] at hi
   cases hsi:s[i]? with
   | none=>rw [hsi] at hi;cases hi
   | some b' =>
    rw [hsi] at hi;simp at hi;subst hi
    cases j with
    | succ j=>simp [a13,V.cells] at hj
    | zero =>
     simp [a13,V.cells] at hj;subst hj
     have:(s.map fun c=>Value.int .u8 c.toNat).getD (i*1+0) undef=.int .u8 b'.toNat:=by
      simp [zE,hsi]
     rw [this]
     exact d9f b'
 ·cases h
def f7v (P:Program) (t':TypeId):Prop:=P.underlying t'=some .string∨∃e',P.underlying t'=some (.slice e')
theorem b0e {t t' ty e:TypeId} {i:TypeInfo} (hu:P.underlying t=some (.slice e)) (hu':f7v P t') (hi:P.info? e=some i)
  {ad:Addr} {n cap m:Nat} {y:Value} {news:List Value} (hy:(Builtin.lenOf y).run P w=.ok m w) (hf:(Builtin.firstCells i.size m y).run P w=.ok news.toArray w) (h:n+m≤cap) {w':World}
  (hst:(storeCells (ad.add (n*i.size)) news).run P w=.ok () w') :
  (Builtin.append_ #[t,t'] ty #[.slice (some ad) n cap,y]).run P w=.ok (.slice (some ad) (n+m) cap) w':=by
 rcases hu' with hu'|⟨e',hu'⟩ <;>
  simp [Builtin.append_,run_underlying hu,run_underlying hu',Go.sizeOf,typeInfo,hi,hy,hf,h,hst]
theorem b0f {t t' ty e:TypeId} {i:TypeInfo} (hu:P.underlying t=some (.slice e)) (hu':f7v P t') (hi:P.info? e=some i)
  {y:Value} (hy:(Builtin.lenOf y).run P w=.ok 0 w) (hf:(Builtin.firstCells i.size 0 y).run P w=.ok #[] w) :
  (Builtin.append_ #[t,t'] ty #[.slice none 0 0,y]).run P w=.ok (.slice none 0 0) w:=by
 rcases hu' with hu'|⟨e',hu'⟩ <;>
  simp [Builtin.append_,run_underlying hu,run_underlying hu',Go.sizeOf,typeInfo,hi,hy,hf]
theorem b6p {t t' ty e:TypeId} {i:TypeInfo} {z:Value} (hu:P.underlying t=some (.slice e)) (hu':f7v P t') (hi:P.info? e=some i) (hz:i.zero=some z)
  {base:Option Addr} {n cap m:Nat} {y:Value} {olds news:Array Value} (hy:(Builtin.lenOf y).run P w=.ok m w) (hof:(Builtin.firstCells i.size n (.slice base n cap)).run P w.drew=.ok olds w.drew) (hf:(Builtin.firstCells i.size m y).run P w.drew=.ok news w.drew)
  (h:cap<n+m) (h63:n+m≤9223372036854775807) (hfit:Builtin.nextslicecap (n+m) cap*i.bytes≤281474976710656) :
  (Builtin.append_ #[t,t'] ty #[.slice base n cap,y]).run P w =
   .ok (.slice (some ⟨w.heap.size,0,none⟩) (n+m) (grownCap w (n+m) cap e)) (w.drew.alloc (.cells (olds++news++Builtin.zeroCells z.cells (grownCap w (n+m) cap e - (n+m))) e)):=by
 have h1:¬n+m≤cap:=by omega
 have h2:¬((9223372036854775807:Int)<((n:Int)+(m:Int))):=by omega
 have h3:¬(281474976710656<Builtin.nextslicecap (n+m) cap*i.bytes):=by omega
 rcases hu' with hu'|⟨e',hu'⟩ <;>
  simp [Builtin.append_,run_underlying hu,run_underlying hu',Go.sizeOf,typeInfo,zeroValue,hi,hz,hy,h1,h2,h3,Question.forced,grownCap,hof,hf,newRow]
end
section
variable {P:Program} {o:Oper} {c:Ctx} {g:Gh} {σ:St} {a:Act} {w:World} {ob:Nat→Option a0c} {K L:Eff→Prop} {K':Act→World→Prop} {Q':Exit→Act→World→Prop}
theorem a2l.same {w':World} {H:Heap} (h:a2l P g w H) (e:w'.heap=w.heap):a2l P g w' H:=by
 have hk:a1o g.S w w':=fun b _=>by rw [e]
 refine ⟨fun id o ho=>(h.obj id o ho).mono (g':=g) hk (fun _ h=>h) (Gh.agree.refl _ _) (fun _=>by rw [e]) (fun n _=>Gh.agree.refl _ _) (by rw [e];exact vL _),h.inj,h.sep,fun b hb=>by rw [e];exact h.lt b hb,fun w2 hw2=>h.tabs w2 fun b hb=>(hw2 b hb).trans (hk b hb)⟩
theorem Rel.drew (h:Rel P c g σ a w):Rel P c g σ a w.drew:=by
 have hk:a1o g.S w w.drew:=fun b _=>rfl
 refine ⟨h.size,h.dfr,fun s x hx=>⟨(h.env s x hx).1,(h.env s x hx).2.mono (g':=g) hk (fun _ h=>h) fun _ _=>Gh.agree.refl _ _⟩,h.hp.same rfl,?_⟩
 exact ⟨h.fr.os,h.fr.tape,h.fr.output,h.fr.size,h.fr.old,h.fr.own,h.fr.sup,h.fr.sub,h.fr.par⟩
theorem d5g (z:Array Value) (n:Nat):(Builtin.zeroCells z n).size=n*z.size:=by simp [Builtin.zeroCells]
theorem Fin.mk' (hF:Fin o c g σ a w K L K') {eff:Eff} (hk:K eff) {g':Gh} {v:Value} {w':World} (hrun:(execOp a.eval o).run P w=.ok (.value v) w') (h1:a07 g σ.heap w eff g' w') (h2:a0v c.H0 g g' σ eff) (h3:VR g' w' v eff.val):o.wp P a w K' Q':=by
 unfold Oper.wp
 rw [hrun]
 exact hF eff (.inl hk) g' v w' h1 h2 h3
def Gh.setNil (g:Gh) (n:Nat):Gh:={ g with nil:=fun i=>i=n∨g.nil i }
theorem Gh.setNil_agree {g:Gh} {n i:Nat} (h:i≠n):g.agree (g.setNil n) i:=by simp [Gh.agree,Gh.setNil,h]
theorem a07.newNil {g:Gh} {H:Heap} {w:World} (x:V) (n k:Nat) (dr:List Nat) (ty:Option TypeId) (hH:a2l P g w H):a07 g H w ⟨x,dr,[(n,.arr k [] ty)]⟩ (g.setNil n) w:=by
 refine ⟨rfl,rfl,rfl,vL _,fun _ _ _=>rfl,fun _ h=>h,fun b hb=>.inl hb,hH.lt,fun id hid=>Gh.setNil_agree fun e=>hid (.arr k [] ty) (by simp [e]),?_,?_,?_,?_⟩
 ·intro id o h;simp at h;obtain ⟨rfl,rfl⟩:=h;exact .inl ⟨.inl rfl,rfl⟩
 ·intro id o h hn;simp at h;obtain ⟨rfl,rfl⟩:=h;exact absurd (.inl rfl) hn
 ·intro i j o1 o2 hi hj hn;simp at hi;obtain ⟨rfl,rfl⟩:=hi;exact absurd (.inl rfl) hn
 ·intro id o h hn;simp at h;obtain ⟨rfl,rfl⟩:=h;exact absurd (.inl rfl) hn
theorem a07.pass {g:Gh} {H:Heap} {w w':World} (x:V) (n id0 base cap:Nat) (o o0:a0c) (hH:a2l P g w H) (hf:find id0 H=some o0) (hn:¬g.nil id0) (h1:w'.os=w.os) (h2:w'.tape=w.tape) (h3:w'.output=w.output) (h4:w'.heap.size=w.heap.size)
  (h5:∀b,b≠g.ρ id0→w'.heap[b]?=w.heap[b]?) (ho:OR (g.set n (g.ρ id0) base cap) w' n o):a07 g H w ⟨x,[id0],[(n,o)]⟩ (g.set n (g.ρ id0) base cap) w':=by
 refine ⟨h1,h2,h3,by omega,fun b hb hb'=>h5 b fun e=>hb' id0 o0 (by simp [Eff.ids]) hf hn e.symm,fun _ h=>h,fun b hb=>.inl hb,fun b hb=>by have:=hH.lt b hb;omega,fun id hid=>Gh.set_agree fun e=>hid o (by simp [e]),?_,?_,?_,?_⟩
 ·intro id o' h;simp at h;obtain ⟨rfl,rfl⟩:=h;exact ho
 ·intro id o' h _;simp at h;obtain ⟨rfl,rfl⟩:=h;exact .inr ⟨id0,o0,by simp [Eff.ids],hf,hn,by simp [Gh.set]⟩
 ·intro i j o1 o2 hi hj;simp at hi hj;intro _ _ _;rw [hi.1,hj.1]
 ·intro id o' h _ hS
  simp at h;obtain ⟨rfl,rfl⟩:=h
  have:(g.set id (g.ρ id0) base cap).ρ id=g.ρ id0:=by simp [Gh.set]
  rw [this] at hS
  exact hH.sep id0 o0 hf hn hS
theorem b89 {S:Nat→Prop} {w:World} {k n m:Nat} {xs ys:List V} {olds news:List Value} {cur:Array Value} {s:Nat} (hxl:xs.length=n) (hol:olds.length=n*k) (hxe:∀x∈xs,x.cells.length=k)
  (hx:∀(i j:Nat) (x y:V),xs[i]?=some x→x.cells[j]?=some y→Rd S w (olds.getD (i*k+j) undef) y) (hyl:ys.length=m) (hnl:news.length=m*k) (hye:∀x∈ys,x.cells.length=k)
  (hy:∀(i j:Nat) (x y:V),ys[i]?=some x→x.cells[j]?=some y→Rd S w (news.getD (i*k+j) undef) y) (hcur:∀j,j<(n+m)*k→cur[s+j]?=(olds++news)[j]?) :
  ∀(i j:Nat) (x y:V),(xs++ys)[i]?=some x→x.cells[j]?=some y→Rd S w (cur.getD (s+(i*k+j)) undef) y:=by
 intro i j x y hi hj
 have hjk:∀z:V,z.cells.length=k→z.cells[j]?=some y→j<k:=fun z hz h=>by rw [←hz];exact (zG.1 h).1
 rw [List.getElem?_append] at hi
 by_cases hlt:i<xs.length
 ·rw [if_pos hlt] at hi
  have hj':=hjk x (hxe x (xB hi)) hj
  have hb:(i+1)*k≤n*k:=zZ _ (by omega)
  rw [vM,vK] at hb
  have hb2:n*k≤(n+m)*k:=zZ _ (by omega)
  have:=hcur (i*k+j) (by omega)
  rw [zH (by omega)] at this
  have e1:cur.getD (s+(i*k+j)) undef=olds.getD (i*k+j) undef:=by
   rw [zC,this,zE]
  rw [e1];exact hx i j x y hi hj
 ·rw [if_neg hlt] at hi
  have hj':=hjk x (hye x (xB hi)) hj
  have hi2:i - xs.length<ys.length:=(zG.1 hi).1
  have hb:(i+1)*k≤(n+m)*k:=zZ _ (by omega)
  rw [vM i,vK] at hb
  have h3:n*k≤i*k:=zZ _ (by omega)
  have:=hcur (i*k+j) (by omega)
  rw [zD (by omega),hol] at this
  have e2:i*k+j - n*k=(i - xs.length)*k+j:=by
   rw [Nat.sub_mul,hxl];omega
  rw [e2] at this
  have e1:cur.getD (s+(i*k+j)) undef=news.getD ((i - xs.length)*k+j) undef:=by
   rw [zC,this,zE]
  rw [e1];exact hy _ j x y hi hj
theorem e2m {a b:Option TypeId} {e:TypeId} {fz:Nat×Nat} (h:c2m a e fz):c2m (tyJ a b) e fz:=by
 cases a<;>cases b<;>simp only [tyJ]<;>try exact trivial
 rename_i a b
 cases Nat.beq a b
 ·exact trivial
 ·exact h
theorem e2l {a b:Option TypeId} {e:TypeId} {fz:Nat×Nat} (h:c2m b e fz):c2m (tyJ a b) e fz:=by
 cases a<;>cases b<;>simp only [tyJ]<;>try exact trivial
 rename_i a b
 cases hb:Nat.beq a b
 ·exact trivial
 ·rw [zR hb];exact h
def Gh.plus (g:Gh) (T:Nat→Prop):Gh:={ g with S:=fun b=>g.S b∨T b }
theorem a07.allocDropT {g:Gh} {H:Heap} {w w':World} (T:Nat→Prop) (x:V) (n base cap:Nat) (o:a0c) (dr:List Nat) (B:Obj) (hlt:∀b,g.S b→b<w.heap.size) (h1:w'.os=w.os) (h2:w'.tape=w.tape) (h3:w'.output=w.output) (h4:w'.heap=w.heap.push B)
  (hT:∀b,T b→b<w.heap.size∧∃id0 o0,id0∈dr∧find id0 H=some o0∧¬g.nil id0∧g.ρ id0=b)
  (ho:OR ((g.plus T).set n w.heap.size base cap) w' n o):a07 g H w ⟨x,dr,[(n,o)]⟩ ((g.plus T).set n w.heap.size base cap) w':=by
 have hsz:w'.heap.size=w.heap.size+1:=by rw [h4];simp
 have hlt':∀b,(g.plus T).S b→b<w.heap.size:=fun b hb=>hb.elim (hlt b) fun h=>(hT b h).1
 refine ⟨h1,h2,h3,by omega,fun b hb _=>?_,fun _ h=>.inl h,fun b hb=>?_,fun b hb=>by have:=hlt' b hb;omega,fun id hid=>Gh.set_agree (g:=g.plus T) fun e=>hid o (by simp [e]),?_,?_,?_,?_⟩
 ·rw [h4,Array.getElem?_push,if_neg (by omega)]
 ·rcases hb with hb|hb
  ·exact .inl hb
  ·obtain ⟨_,id0,o0,k1,k2,k3,k4⟩:=hT b hb
   exact .inr (.inr ⟨id0,o0,by simp [Eff.ids,k1],k2,k3,k4⟩)
 ·intro id o' h;simp at h;obtain ⟨rfl,rfl⟩:=h;exact ho
 ·intro id o' h _;simp at h;obtain ⟨rfl,rfl⟩:=h;exact .inl (by simp [Gh.set])
 ·intro i j o1 o2 hi hj;simp at hi hj;intro _ _ _;rw [hi.1,hj.1]
 ·intro id o' h _ hS
  simp at h;obtain ⟨rfl,rfl⟩:=h
  have:((g.plus T).set id w.heap.size base cap).ρ id=w.heap.size:=by simp [Gh.set]
  rw [this] at hS
  have:=hlt' _ hS
  omega
def c9e (g g':Gh) (w':World) (id k:Nat) (xs:List V) (d:Nat):Prop :=
 xs=[]∨∃(cur:Array Value) (e:TypeId) (fz:Nat×Nat),w'.heap[g.ρ id]?=some (.cells cur e fz)∧(∀i x,xs[i]?=some x→(g.base id+i)*k+x.cells.length≤cur.size) ∧
  (∀(i j:Nat) (x y:V),xs[i]?=some x→x.cells[j]?=some y→Rd g'.S w' (cur.getD ((g.base id+i)*k+j) undef) y)∧(g'.S (g.ρ id)∨(¬g'.nil d∧g'.ρ d=g.ρ id))
def d4m (o:Oper) (c:Ctx) (g:Gh) (σ:St) (a:Act) (w:World) (K:Eff→Prop) (k d:Nat) (x:V) (ob:Nat→Option a0c) (K':Act→World→Prop):Prop :=
 ∀eff,K eff→∀(g':Gh) (v:Value) (w':World),a07 g σ.heap w eff g' w'→a0v c.H0 g g' σ eff→VR g' w' v eff.val→(∀id k' lo n k'' xs t0,x=.osl id k' lo n→ob id=some (.arr k'' xs t0)→c9e g g' w' id k xs d)→K' (a.put o.dst v) w'
theorem d4m.mk {k d:Nat} {x:V} (hF:d4m o c g σ a w K k d x ob K') {eff:Eff} (hk:K eff) {g':Gh} {v:Value} {w':World} (hrun:(execOp a.eval o).run P w=.ok (.value v) w') (h1:a07 g σ.heap w eff g' w') (h2:a0v c.H0 g g' σ eff) (h3:VR g' w' v eff.val)
  (h4:∀id k' lo n k'' xs t0,x=.osl id k' lo n→ob id=some (.arr k'' xs t0)→c9e g g' w' id k xs d):o.wp P a w K' Q':=by
 unfold Oper.wp
 rw [hrun]
 exact hF eff hk g' v w' h1 h2 h3 h4
theorem c9e.of {g g':Gh} {w w':World} {id k d:Nat} {xs:List V} {cur cur':Array Value} {e:TypeId} {fz:Nat×Nat} {bs:Nat} (hb:w'.heap[g.ρ id]?=some (.cells cur' e fz)) (hsz:cur'.size=cur.size) (h2:cur.size=(g.base id+bs)*k) (h5:xs.length≤bs)
  (h4:∀(i j:Nat) (x c:V),xs[i]?=some x→x.cells[j]?=some c→Rd g.S w (cur.getD ((g.base id+i)*k+j) undef) c) (h7:∀x∈xs,x.cells.length=k) (hk:a1o g.S w w') (hs:∀b,g.S b→g'.S b)
  (hsame:∀q,q<(g.base id+xs.length)*k→cur'[q]?=cur[q]?) (hr:g'.S (g.ρ id)∨(¬g'.nil d∧g'.ρ d=g.ρ id)):c9e g g' w' id k xs d:=by
 have hfit:∀i x,xs[i]?=some x→(g.base id+i)*k+x.cells.length≤(g.base id+xs.length)*k:=by
  intro i x hi
  have h8:=h7 x (xB hi)
  have hlt:=(zG.1 hi).1
  have:(g.base id+i+1)*k≤(g.base id+xs.length)*k:=zZ _ (by omega)
  rw [vM,vK] at this
  omega
 refine .inr ⟨cur',e,fz,hb,fun i x hi=>?_,fun i j x y hi hj=>?_,hr⟩
 ·have:=hfit i x hi
  have:(g.base id+xs.length)*k≤(g.base id+bs)*k:=zZ _ (by omega)
  omega
 ·have h8:=hfit i x hi
  have hjl:=(zG.1 hj).1
  have:=h4 i j x y hi hj
  rw [zC] at this ⊢
  rw [hsame _ (by omega)]
  exact this.mono hk hs
theorem d3r {k bytes:Nat} {x y:Opd} {ty:Option TypeId} (hok:(a06.app k bytes x y ty).ok P o.op=true) (hR:Rel P c g σ a w) (hob:∀id o,ob id=some o→find id σ.heap=some o) {d:Nat} (hcl:Clean c σ d) (h:w9 P (.app k bytes x y ty) d [x.ev σ.env,y.ev σ.env] ob K L) (hF:d4m o c g σ a w K k d (x.ev σ.env) ob K'):o.wp P a w K' Q':=by
 have:∃cl u v t t',o.op=.call cl∧cl.callee=.builtin .append∧cl.args=#[u,v]∧cl.argTypes=#[t,t']∧x.ok u=true∧y.ok v=true∧a3m P t k bytes=true∧b6e P t'=true∧d3c P t ty=true:=by
  cases ho:o.op<;>rw [ho] at hok<;>try (simp [a06.ok] at hok;done)
  rename_i cl
  obtain ⟨callee,args,ts⟩:=cl
  cases callee<;>try (simp [a06.ok] at hok;done)
  rename_i b
  cases b<;>try (simp [a06.ok] at hok;done)
  unfold a06.ok at hok
  simp only at hok
  split at hok
  ·rename_i u v t t' he1 he2
   simp only [wG] at hok
   exact ⟨_,u,v,t,t',rfl,rfl,wH.1 (by simpa using he1),wH.1 (by simpa using he2),hok.1.1.1.1,hok.1.1.1.2,hok.1.1.2,hok.1.2,hok.2⟩
  ·cases hok
 obtain ⟨cl,u,v,t,t',ho,hcl',hargs,hts,hx,hy,hse,hat,hty⟩:=this
 obtain ⟨e,i,z,hu,hi,hz,hsz,hby,hkp,hbp,hzs⟩:=a7y hse
 have hty:∀fz,c2m ty e fz:=by
  intro fz
  cases ty with
  | none=>exact trivial
  | some u =>
   simp only [d3c,hu,wG,xX] at hty
   simp only [c2m,hty.2,vO]
   exact zR hty.1
 have hu':f7v P t':=by
  unfold b6e at hat
  split at hat
  ·exact .inr ⟨_,‹_›⟩
  ·exact .inl ‹_›
  ·cases hat
 have vx:=Opd.vr hR hx
 have vy:=Opd.vr hR hy
 have hexec:∀{r:Value} {w':World},(Builtin.append_ #[t,t'] o.type #[a.eval u,a.eval v]).run P w=.ok r w'→(execOp a.eval o).run P w=.ok (.value r) w':=by
  intro r w' hr
  simp [execOp,ho,resolve,hcl',hargs,hts,invoke,builtin,hr]
 simp only [w9,c0t] at h
 split at h
 ·rename_i ys hsrc
  obtain ⟨hvl,h⟩:=h
  have grow:∀(base:Option Addr) (n cap:Nat) (xs:List V) (olds:List Value) (dr:List Nat),a.eval u=.slice base n cap→xs.length=n→olds.length=n*k →
    (Builtin.firstCells k n (.slice base n cap)).run P w.drew=.ok olds.toArray w.drew→(∀x∈xs,x.cells.length=k∧(∀c∈x.cells,c.one=true)∧x.sealed=true) →
    (∀(i j:Nat) (x y:V),xs[i]?=some x→x.cells[j]?=some y→Rd g.S w (olds.getD (i*k+j) undef) y)→(∀y∈ys,y.cells.length=k)→cap<n+ys.length→(n+ys.length)*bytes≤140737488355328→n≤maxLen →
    n+ys.length≤9223372036854775807→∀tq,c2m tq e (0,0)→K ⟨.osl d k 0 (n+ys.length),dr,[(d,.arr k (xs++ys) tq)]⟩→∀T:Nat→Prop,(∀b,T b→b<w.heap.size∧∃id0 o0,id0∈dr∧find id0 σ.heap=some o0∧¬g.nil id0∧g.ρ id0=b) →
    (∀(g':Gh) (w':World),(∀b,g'.S b↔g.S b∨T b)→(∀b,b<w.heap.size→w'.heap[b]?=w.heap[b]?)→∀id k' lo n k'' xs t0,x.ev σ.env=.osl id k' lo n→ob id=some (.arr k'' xs t0)→c9e g g' w' id k xs d)→o.wp P a w K' Q':=by
   intro base n cap xs olds dr eu hxl hol hof hxe hxr hye hlt hbd hnm h63 tq htq hk T hT hpin
   obtain ⟨news,hsr⟩:=b6d hR hob vy hsrc hvl hye
   obtain ⟨news2,hsr2⟩:=b6d (hR.drew) hob (vy.mono (g':=g) (w:=w) (w':=w.drew) (fun b _=>rfl) (fun _ h=>h) fun _ _=>Gh.agree.refl _ _) hsrc hvl hye
   have hrun:=b6p (P:=P) (w:=w) (t:=t) (t':=t') (ty:=o.type) hu hu' hi hz (base:=base) (n:=n) (cap:=cap) (m:=ys.length) (y:=a.eval v) (olds:=olds.toArray) (news:=news2.toArray) hsr.lenOf (by rw [hsz];exact hof) (by rw [hsz];exact hsr2.first) hlt h63 (growslice_fits hlt (by rw [hby];exact hbd))
   obtain ⟨gc,hgc⟩:∃gc,gc=grownCap w (n+ys.length) cap e:=⟨_,rfl⟩
   rw [←hgc] at hrun
   have hge:n+ys.length≤gc:=by rw [hgc];exact grownCap_ge w _ cap e
   have hgm:gc≤maxLen:=by rw [hgc];exact grownCap_le_maxLen w _ cap e (by rw [maxLen];omega)
   obtain ⟨cur,hcur⟩:∃cur:Array Value,cur=olds.toArray++news2.toArray++Builtin.zeroCells z.cells (gc - (n+ys.length)):=⟨_,rfl⟩
   rw [←hcur] at hrun
   have hcs:cur.size=gc*k:=by
    rw [hcur]
    simp only [Array.size_append,List.size_toArray,d5g,hzs,hol,hsr2.len]
    rw [←vM,←vM]
    congr 1;omega
   have e1:((g.plus T).set d w.heap.size 0 gc).ρ d=w.heap.size:=by simp [Gh.set]
   have e2:((g.plus T).set d w.heap.size 0 gc).base d=0:=by simp [Gh.set]
   have e3:((g.plus T).set d w.heap.size 0 gc).cap d=gc:=by simp [Gh.set]
   have e4:¬((g.plus T).set d w.heap.size 0 gc).nil d:=by simp [Gh.set]
   have hkeep:a1o g.S w (w.drew.alloc (.cells cur e)):=a1o.push hR.hp.lt rfl
   rw [←eu] at hrun
   refine d4m.mk hF hk (hexec hrun) (a07.allocDropT T _ d 0 gc _ dr (.cells cur e) hR.hp.lt rfl rfl rfl rfl hT ?_) (a0v.of_clean hcl) ?_ (hpin _ _ (fun b=>vR) fun b hb=>?_)
   ·refine .inr ⟨e4,?_⟩
    rw [e1,e2,e3]
    refine ⟨hkp,⟨cur,e,(0,0),heap_alloc_new w.drew _,by rw [hcs,vC],⟨a3c _,htq⟩,fun i' j x' y' hi' hj'=>?_⟩,by simp [hxl];omega,by omega,fun x' hx'=>?_⟩
    ·have:=b89 (S:=g.S) (w:=w) (cur:=cur) (s:=0) (n:=n) (m:=ys.length) (k:=k) (olds:=olds) (news:=news2) hxl hol (fun x hx=>(hxe x hx).1) hxr rfl hsr2.len hye
      (fun i j x y hx hy=>(hsr2.rd i j x y hx hy).mono (w:=w.drew) (w':=w) (fun b _=>rfl) fun _ h=>h) (fun j hj=>by
       rw [hcur,vC,Array.getElem?_append_left (by simp [hol,hsr2.len,←vM];exact hj)]
       simp) i' j x' y' hi' hj'
     rw [vC] at this ⊢
     exact this.mono hkeep fun _ h=>.inl h
    ·rcases wN.1 hx' with h8|h8
     ·exact hxe x' h8
     ·exact hsr2.elem x' h8
   ·have:=VR.osl (g:=(g.plus T).set d w.heap.size 0 gc) (w:=w.drew.alloc (.cells cur e)) d k 0 (n+ys.length) 0 gc e4 (.inr (by rw [e2];simp)) (by rw [e3];omega) (by omega) hgm
    rw [e1] at this
    exact this
   ·show (w.heap.push _)[b]?=_
    rw [Array.getElem?_push,if_neg (by omega)]
  split at h
  ·rename_i hxn
   rw [hxn] at vx
   obtain ⟨⟨hbd,hye⟩,hk⟩:=h
   have eu:=vx.nils_inv
   obtain ⟨news,hsr⟩:=b6d hR hob vy hsrc hvl hye
   by_cases h0:ys.length=0
   ·have hnil:ys=[]:=zB h0
    subst hnil
    have hnn:news=[]:=zB (by have:=hsr.len;simpa using this)
    subst hnn
    have hrun:=b0f (P:=P) (w:=w) (t:=t) (t':=t') (ty:=o.type) hu hu' hi (y:=a.eval v) hsr.lenOf (by rw [hsz];exact hsr.first)
    rw [←eu] at hrun
    refine d4m.mk hF hk (hexec hrun) (a07.newNil _ d k [] _ hR.hp) (a0v.of_clean hcl) ?_ (fun id1 k1 lo1 n1 k2 xs1 t1 e _=>by rw [hxn] at e;cases e)
    rw [eu]
    exact .oslnil d k 0 (.inl rfl)
   ·refine grow none 0 0 [] [] [] eu rfl (by simp) (by simp [Builtin.firstCells]) (fun x hx=>by simp at hx) (fun i j x y hx _=>by simp at hx) hye (by omega) (by rw [vC];exact hbd) (by omega) ?_ ty (hty _) ?_ (fun _=>False) (fun _ h=>h.elim) (fun _ _ _ _ id1 k1 lo1 n1 k2 xs1 t1 e _=>by rw [hxn] at e;cases e)
    ·have:=hsr.big;rw [maxLen] at this;omega
    ·rw [vC,wL];exact hk
  ·rename_i id k' lo n hxo
   rw [hxo] at vx
   split at h
   ·rename_i k'' xs t0 hobj
    by_cases hb:(Nat.beq k k'&&Nat.beq k k'')=true
    case neg=>simp [hb] at h
    simp only [hb,vQ] at h
    simp only [wG] at hb
    have q1:=zR hb.1;subst q1
    have q2:=zR hb.2;subst q2
    obtain ⟨⟨hlo,hbd,hye⟩,hk⟩:=h
    have hfd:=hob _ _ hobj
    obtain ⟨news,hsr⟩:=b6d hR hob vy hsrc hvl hye
    have hdl:(xs.drop lo).length=n:=by simp;omega
    rcases vx.osl_inv with ⟨hnil,eu,hn0⟩|⟨hnn,o',cc,eu,ho',hcap,hlc,hm⟩
    ·subst hn0
     have hx0:xs=[]:=by
      rcases hR.hp.obj _ _ hfd with ⟨_,h8⟩|⟨h8,_⟩
      ·exact h8
      ·exact absurd hnil h8
     subst hx0
     simp only [List.drop_nil,wL,vC] at hk
     by_cases h0:ys.length=0
     ·have hnl:ys=[]:=zB h0
      subst hnl
      have hnn:news=[]:=zB (by have:=hsr.len;simpa using this)
      subst hnn
      have hrun:=b0f (P:=P) (w:=w) (t:=t) (t':=t') (ty:=o.type) hu hu' hi (y:=a.eval v) hsr.lenOf (by rw [hsz];exact hsr.first)
      rw [←eu] at hrun
      refine d4m.mk hF hk (hexec hrun) (a07.newNil _ d k [id] _ hR.hp) (a0v.of_clean hcl) ?_ (fun id1 k1 lo1 n1 k2 xs1 t1 e e'=>by rw [hxo] at e;cases e;rw [hobj] at e';cases e';exact .inl rfl)
      rw [eu]
      exact .oslnil d k 0 (.inl rfl)
     ·refine grow none 0 0 [] [] [id] eu rfl (by simp) (by simp [Builtin.firstCells]) (fun x hx=>by simp at hx) (fun i j x y hx _=>by simp at hx) hye (by omega) hbd (by omega) ?_ (tyJ t0 ty) (e2l (hty _)) ?_ (fun _=>False) (fun _ h=>h.elim) (fun _ _ _ _ id1 k1 lo1 n1 k2 xs1 t1 e e'=>by rw [hxo] at e;cases e;rw [hobj] at e';cases e';exact .inl rfl)
      ·have:=hsr.big;rw [maxLen] at this;omega
      ·rw [vC,wL];exact hk
    ·rcases hR.hp.obj _ _ hfd with ⟨hnil,_⟩|⟨_,ha⟩
     ·exact absurd hnil hnn
     obtain ⟨_,⟨cur,e',fz,h1,h2,⟨h3,ht0⟩,h4⟩,h5,h6,h7⟩:=ha
     have hoo:n≠0∨0<cc→o'=(g.base id+lo)*k:=by
      intro h8
      rcases ho' with h|h
      ·omega
      ·exact h
     by_cases hroom:n+ys.length≤cc
     · -- in place
      by_cases hcc:cc=0
      · -- nothing there,nothing appended
       have hn0:n=0:=by omega
       have hy0:ys.length=0:=by omega
       have hnl:ys=[]:=zB hy0
       subst hnl;subst hn0;subst hcc
       have hnn':news=[]:=zB (by have:=hsr.len;simpa using this)
       subst hnn'
       have hrun:=b0e (P:=P) (w:=w) (t:=t) (t':=t') (ty:=o.type) hu hu' hi (ad:=⟨g.ρ id,o',none⟩) (n:=0) (cap:=0) (m:=0) (y:=a.eval v) (news:=[]) hsr.lenOf (by rw [hsz];exact hsr.first) (vL _) (w':=w) rfl
       rw [←eu] at hrun
       have hlo':lo=xs.length:=by omega
       have hdn:xs.drop lo=[]:=List.drop_eq_nil_of_le (by omega)
       rw [hdn,wS] at hk
       refine d4m.mk hF hk (hexec hrun) (a07.pass _ d id (g.base id+lo) (g.cap id - lo) _ _ hR.hp hfd hnn rfl rfl rfl rfl (fun _ _=>rfl) ?_) (a0v.of_clean hcl) ?_ (fun id1 k1 lo1 n1 k2 xs1 t1 e e2=>by rw [hxo] at e;cases e;rw [hobj] at e2;cases e2;exact c9e.of h1 rfl h2 h5 h4 (fun x hx=>(h7 x hx).1) (fun _ _=>rfl) (fun _ h=>h) (fun _ _=>rfl) (.inr ⟨by simp [Gh.set],by simp [Gh.set]⟩))
       ·have e1:(g.set d (g.ρ id) (g.base id+lo) (g.cap id - lo)).ρ d=g.ρ id:=by simp [Gh.set]
        have e2:(g.set d (g.ρ id) (g.base id+lo) (g.cap id - lo)).base d=g.base id+lo:=by simp [Gh.set]
        have e3:(g.set d (g.ρ id) (g.base id+lo) (g.cap id - lo)).cap d=g.cap id - lo:=by simp [Gh.set]
        refine .inr ⟨by simp [Gh.set],?_⟩
        rw [e1,e2,e3]
        exact ⟨hkp,⟨cur,e',fz,h1,by rw [h2];congr 1;omega,⟨h3,e2m ht0⟩,fun i' j x' y' hi' _=>by simp at hi'⟩,by simp,by omega,fun x' hx'=>by simp at hx'⟩
       ·have e1:(g.set d (g.ρ id) (g.base id+lo) (g.cap id - lo)).ρ d=g.ρ id:=by simp [Gh.set]
        have:=VR.osl (g:=g.set d (g.ρ id) (g.base id+lo) (g.cap id - lo)) (w:=w) d k 0 0 o' 0 (by simp [Gh.set]) (.inl rfl) (by simp) (vL _) (by simp)
        rw [e1] at this
        rw [eu]
        exact this
      ·have ho'':=hoo (.inr (by omega))
       have hfit:o'+n*k+0+news.length≤cur.size:=by
        rw [ho'',hsr.len,vF,←vM,←vM,h2]
        exact zZ _ (by omega)
       obtain ⟨w',cur',r1,r2,r3,r4,r5,r6,r7,r8,r9⟩:=a3t (P:=P) (g.ρ id) (o'+n*k) e' fz news 0 cur w h1 h3 hfit hsr.one
       have hrun:=b0e (P:=P) (w:=w) (t:=t) (t':=t') (ty:=o.type) hu hu' hi (ad:=⟨g.ρ id,o',none⟩) (n:=n) (cap:=cc) (m:=ys.length) (y:=a.eval v) (news:=news) hsr.lenOf (by rw [hsz];exact hsr.first) hroom (w':=w')
        (by rw [hsz,show (⟨g.ρ id,o',none⟩:Addr).add (n*k)=⟨g.ρ id,o'+n*k,none⟩ from Addr.add_lit _ _ _];exact r1)
       rw [←eu] at hrun
       have hkeep:a1o g.S w w':=a1o.upd hR.hp hfd hnn r6
       have e1:(g.set d (g.ρ id) (g.base id+lo) (g.cap id - lo)).ρ d=g.ρ id:=by simp [Gh.set]
       have e2:(g.set d (g.ρ id) (g.base id+lo) (g.cap id - lo)).base d=g.base id+lo:=by simp [Gh.set]
       have e3:(g.set d (g.ρ id) (g.base id+lo) (g.cap id - lo)).cap d=g.cap id - lo:=by simp [Gh.set]
       refine d4m.mk hF hk (hexec hrun) (a07.pass _ d id (g.base id+lo) (g.cap id - lo) _ _ hR.hp hfd hnn r2 r3 r4 r5 r6 ?_) (a0v.of_clean hcl) ?_ ?_
       ·refine .inr ⟨by simp [Gh.set],?_⟩
        rw [e1,e2,e3]
        refine ⟨hkp,⟨cur',e',fz,r7,by rw [r8,h2];congr 1;omega,⟨by rw [r8];exact h3,e2m ht0⟩,fun i' j x' y' hi' hj'=>?_⟩,by simp;omega,by omega,fun x' hx'=>?_⟩
        ·have hold:((cur.toList.drop o').take (n*k)).length=n*k:=by
          have:o'+n*k≤cur.size:=by omega
          simp;omega
         have:=b89 (S:=g.S) (w:=w) (cur:=cur') (s:=o') (n:=n) (m:=ys.length) (k:=k) (xs:=xs.drop lo) (olds:=(cur.toList.drop o').take (n*k)) (news:=news) hdl hold (fun x hx=>(h7 x (xA hx)).1)
          (fun i j x y hx hy=>by
           rw [xM] at hx
           have hil:lo+i<xs.length:=(zG.1 hx).1
           have hjk:j<k:=by rw [←(h7 x (xB hx)).1];exact (zG.1 hy).1
           have hij:i*k+j<n*k:=by
            have:(i+1)*k≤n*k:=zZ _ (by omega)
            rw [vM,vK] at this;omega
           have e5:=b5i (cur:=cur) (o':=o') (n:=n*k) (j:=i*k+j) hij (by omega)
           rw [zE,e5]
           have:=h4 (lo+i) j x y hx hy
           rw [ho'',←wZ,←vM,wZ (g.base id)]
           exact this) rfl hsr.len hye hsr.rd (fun j hj=>by
           rw [r9 (o'+j)]
           simp only [vF]
           by_cases hjn:j<n*k
           ·rw [if_neg (by omega),zH (by omega),b5i hjn (by omega)]
            have:o'+j<cur.size:=by omega
            simp [zC,this]
           ·rw [vM] at hj
            rw [if_pos (by have:=hsr.len;omega),zD (by omega),hold]
            congr 1;omega) i' j x' y' hi' hj'
         rw [ho'',←wZ,←vM] at this
         exact this.mono hkeep fun _ h=>h
        ·rcases wN.1 hx' with h8|h8
         ·exact h7 x' (xA h8)
         ·exact hsr.elem x' h8
       ·have:=VR.osl (g:=g.set d (g.ρ id) (g.base id+lo) (g.cap id - lo)) (w:=w') d k 0 (n+ys.length) o' cc (by simp [Gh.set]) (.inr (by rw [e2];simpa using ho'')) (by rw [e3];omega) hroom hm
        rw [e1] at this
        exact this
       ·intro id1 k1 lo1 n1 k2 xs1 t1 e e2
        rw [hxo] at e;cases e;rw [hobj] at e2;cases e2
        refine c9e.of r7 r8 h2 h5 h4 (fun x hx=>(h7 x hx).1) hkeep (fun _ h=>h) (fun q hq=>?_) (.inr ⟨by simp [Gh.set],e1⟩)
        have e9:(g.base id+xs.length)*k=o'+n*k:=by rw [ho'',←vM];congr 1;omega
        rw [r9 q,if_neg (by omega)]
     ·have hfit:n=0∨o'+n*k≤cur.size:=by
       by_cases hn0:n=0
       ·exact .inl hn0
       ·right
        rw [hoo (.inl hn0),←vM,h2]
        exact zZ _ (by omega)
      obtain ⟨olds,hso⟩:=b1q (P:=P) (S:=g.S) (w:=w.drew) (b:=g.ρ id) (o':=o') (k:=k) (len:=n) (cap:=cc) (cur:=cur) (e:=e') (fz:=fz) (ys:=xs.drop lo) h1 hdl hfit (fun i j x y hx hy=>by
        rw [xM] at hx
        have hil:lo+i<xs.length:=(zG.1 hx).1
        have:=h4 (lo+i) j x y hx hy
        rw [hoo (.inl (by omega)),←vM,wZ (g.base id)]
        exact this.mono (w:=w) (w':=w.drew) (fun b _=>rfl) fun _ h=>h) (fun x hx=>h7 x (xA hx)) (by omega)
      have hol:=hso.len
      have hfi:=hso.first
      rw [hdl] at hol hfi
      refine grow (some ⟨g.ρ id,o',none⟩) n cc (xs.drop lo) olds [id] eu hdl hol hfi (fun x hx=>h7 x (xA hx)) (fun i j x y hx hy=>(hso.rd i j x y hx hy).mono (w:=w.drew) (w':=w) (fun b _=>rfl) fun _ h=>h) hye (by omega) hbd (by omega) ?_ (tyJ t0 ty) (e2l (hty _)) hk (fun b=>b=g.ρ id) (fun b hb=>by subst hb;exact ⟨(hR.hp.obj _ _ hfd).block hnn,id,_,by simp,hfd,hnn,rfl⟩) (fun g' w' hS hW id1 k1 lo1 n1 k2 xs1 t1 e e2=>by rw [hxo] at e;cases e;rw [hobj] at e2;cases e2;exact c9e.of ((hW _ ((hR.hp.obj _ _ hfd).block hnn)).trans h1) rfl h2 h5 h4 (fun x hx=>(h7 x hx).1) (fun b hb=>hW b (hR.hp.lt b hb)) (fun b hb=>(hS b).2 (.inl hb)) (fun _ _=>rfl) (.inl ((hS _).2 (.inr rfl))))
      have h10:n+ys.length≤(n+ys.length)*bytes:=Nat.le_mul_of_pos_right _ hbp
      omega
   ·exact h.elim
  ·exact h.elim
 ·exact h.elim
theorem e3k {k bytes:Nat} {x y:Opd} {ty:Option TypeId} (hok:(a06.app k bytes x y ty).ok P o.op=true) (hR:Rel P c g σ a w) (hob:∀id o,ob id=some o→find id σ.heap=some o) {d:Nat} (hcl:Clean c σ d) (h:w9 P (.app k bytes x y ty) d [x.ev σ.env,y.ev σ.env] ob K L) (hF:Fin o c g σ a w K L K'):o.wp P a w K' Q' :=
 d3r hok hR hob hcl h fun eff hk g' v w' h1 h2 h3 _=>hF eff (.inl hk) g' v w' h1 h2 h3
end
def KD.desc:KD→TypeDesc
 | .int k=>.int k
 | .str=>.string
 | .bool=>.bool
theorem KD.is_inv {kd:KD} {k:V} (h:kd.is k=true):(∃i n,kd=.int i∧k=.int i n)∨(∃s,kd=.str∧k=.str s)∨∃b,kd=.bool∧k=.bool b:=by
 cases kd with
 | int i=>cases i<;>cases k<;>(try (simp [KD.is] at h;done))<;>rename_i j n<;>cases j<;>(try (simp [KD.is] at h;done))<;>exact .inl ⟨_,_,rfl,rfl⟩
 | str=>cases k<;>simp [KD.is] at h;exact .inr (.inl ⟨_,rfl,rfl⟩)
 | bool=>cases k<;>simp [KD.is] at h;exact .inr (.inr ⟨_,rfl,rfl⟩)
theorem KD.same {a b:KD} {k:V} (h:a.is k=true) (h':b.is k=true):a=b:=by
 rcases KD.is_inv h with ⟨i,n,rfl,rfl⟩|⟨s,rfl,rfl⟩|⟨x,rfl,rfl⟩<;>rcases KD.is_inv h' with ⟨j,m,rfl,e⟩|⟨t,rfl,e⟩|⟨y,rfl,e⟩<;>cases e<;>rfl
theorem KD.rd {S:Nat→Prop} {w:World} {kd:KD} {k:V} {v:Value} (h:kd.is k=true) (hr:Rd S w v k):MapKept.IsKey kd.desc v:=by
 rcases KD.is_inv h with ⟨i,n,rfl,rfl⟩|⟨s,rfl,rfl⟩|⟨x,rfl,rfl⟩<;>cases hr<;>simp [KD.desc,MapKept.IsKey]
theorem KD.sc {kd:KD} {k:V} (h:kd.is k=true):k.sc=true:=by
 rcases KD.is_inv h with ⟨i,n,rfl,rfl⟩|⟨s,rfl,rfl⟩|⟨x,rfl,rfl⟩<;>rfl
theorem KD.eq {S S':Nat→Prop} {w w':World} {kd:KD} {k k':V} {v v':Value} (h:kd.is k=true) (h':kd.is k'=true) (hr:Rd S w v k) (hr':Rd S' w' v' k'):v'=v↔keq k k'=true:=by
 rcases KD.is_inv h with ⟨i,n,rfl,rfl⟩|⟨s,rfl,rfl⟩|⟨x,rfl,rfl⟩<;>rcases KD.is_inv h' with ⟨j,m,e1,rfl⟩|⟨t,e1,rfl⟩|⟨y,e1,rfl⟩<;>cases e1<;>cases hr<;>cases hr'
 ·simp only [keq,xO,Value.int.injEq]
  exact ⟨fun h=>h.2.symm,fun h=>⟨trivial,h.symm⟩⟩
 ·rename_i a _ b _
  simp only [keq,xO,Value.string.injEq]
  constructor
  ·rintro rfl;rfl
  ·intro e
   have e1:a.data=b.data:=wH.1 e
   obtain ⟨a⟩:=a;obtain ⟨b⟩:=b
   simp only at e1;subst e1;rfl
 ·simp only [keq,beq_iff_eq,Value.bool.injEq]
  exact ⟨fun h=>h.symm,fun h=>h.symm⟩
section
variable {S:Nat→Prop} {w:World} {kd:KD} {k:V} {v:Value}
theorem b3q.cons {S:Nat→Prop} {w:World} {kd:KD} {e:MapEntry} {l:List MapEntry} {kv:V×V} {es:List (V×V)} (h:b3q S w kd (e::l) (kv::es)):b3q S w kd l es :=
 ⟨by simpa using h.len,fun x hx=>h.key x (xD _ hx),fun i ent kv hi hj=>h.rd (i+1) ent kv (by simpa using hi) (by simpa using hj)⟩
theorem a6f (hk:kd.is k=true) (hv:Rd S w v k):∀{l:List MapEntry} {es:List (V×V)} (i:Nat),b3q S w kd l es →
  (Instr.findNow kd.desc v l i=some none∧c1j k es=none∧(∀u,b6g k u es=es++[(k,u)])∧c3o k es=es∧∀x∈l,x.key≠v) ∨
  ∃j e kv,Instr.findNow kd.desc v l i=some (some (i+j,e.val))∧l[j]?=some e∧es[j]?=some kv∧e.key=v∧c1j k es=some kv.2∧(∀u,b6g k u es=es.set j (kv.1,u))∧c3o k es=es.eraseIdx j
 | [],[],i,_=>.inl ⟨rfl,rfl,fun _=>rfl,rfl,fun x hx=>by cases hx⟩
 | [],_::_,_,h=>by have:=h.len;simp at this
 | _::_,[],_,h=>by have:=h.len;simp at this
 | e::l,(a,b)::es,i,h=>by
  have hka:kd.is a=true:=h.key (a,b) (by simp)
  obtain ⟨ha,hb⟩:=h.rd 0 e (a,b) rfl rfl
  obtain ⟨r,hr,hiff⟩:=MapKept.sameNow_of_keys (KD.rd hk hv) (KD.rd hka ha)
  have heq:=KD.eq hk hka hv ha
  cases hq:keq k a with
  | true =>
   have e1:e.key=v:=heq.2 hq
   have:r=true:=hiff.2 e1.symm
   subst this
   exact .inr ⟨0,e,(a,b),by simp [Instr.findNow,hr],rfl,rfl,e1,by simp [c1j,hq],fun u=>by simp [b6g,hq],by simp [c3o,hq]⟩
  | false =>
   have hne:e.key≠v:=fun e1=>by rw [heq.1 e1] at hq;cases hq
   have:r=false:=by
    cases r with
    | false=>rfl
    | true=>exact absurd (hiff.1 rfl).symm hne
   subst this
   rcases a6f hk hv (i+1) h.cons with ⟨h1,h2,h3,h4,h5⟩|⟨j,e',kv,h1,h2,h3,h4,h5,h6,h7⟩
   ·refine .inl ⟨by simp [Instr.findNow,hr,h1],by simp [c1j,hq,h2],fun u=>by simp [b6g,hq,h3],by simp [c3o,hq,h4],fun x hx=>?_⟩
    rcases w4.1 hx with rfl|hx
    ·exact hne
    ·exact h5 x hx
   ·exact .inr ⟨j+1,e',kv,by simp [Instr.findNow,hr,h1];omega,by simpa using h2,by simpa using h3,h4,by simp [c1j,hq,h5],fun u=>by simp [b6g,hq,h6],by simp [c3o,hq,h7]⟩
theorem b3q.push {l:List MapEntry} {es:List (V×V)} (h:b3q S w kd l es) (hk:kd.is k=true) (hv:Rd S w v k) {u:V} {x:Value} (hu:Rd S w x u) (clock:Nat) :
  b3q S w kd (l++[{ key:=v,val:=x,born:=clock }]) (es++[(k,u)]):=by
 refine ⟨by simp [h.len],fun kv hm=>?_,fun i ent kv hi hj=>?_⟩
 ·rcases wN.1 hm with hm|hm
  ·exact h.key kv hm
  ·simp at hm;subst hm;exact hk
 ·by_cases hlt:i<l.length
  ·rw [zH hlt] at hi
   rw [zH (by rw [←h.len];exact hlt)] at hj
   exact h.rd i ent kv hi hj
  ·rw [zD (by omega)] at hi
   rw [zD (by have:=h.len;omega),←h.len] at hj
   cases hd:i - l.length with
   | zero=>rw [hd] at hi hj;simp at hi hj;subst hi hj;exact ⟨hv,hu⟩
   | succ m=>rw [hd] at hi;simp at hi
theorem b3q.modify {l l':List MapEntry} {es:List (V×V)} (h:b3q S w kd l es) {j:Nat} {e:MapEntry} {kv:V×V} (he:l[j]?=some e) (hj:es[j]?=some kv) {u:V} {x:Value} (hu:Rd S w x u)
  (hl:l'.length=l.length) (h1:∀e',l'[j]?=some e'→e'.key=e.key∧e'.val=x) (h2:∀i,i≠j→l'[i]?=l[i]?):b3q S w kd l' (es.set j (kv.1,u)):=by
 refine ⟨by simp [hl,h.len],fun q hm=>?_,fun i ent q hi hq=>?_⟩
 ·rcases List.mem_or_eq_of_mem_set hm with hm|hm
  ·exact h.key q hm
  ·subst hm;exact h.key kv (xB hj)
 ·by_cases hij:i=j
  ·subst hij
   have hlt:i<es.length:=(zG.1 hj).1
   rw [List.getElem?_set_self hlt] at hq
   cases hq
   obtain ⟨e1,e2⟩:=h1 ent hi
   exact ⟨by rw [e1];exact (h.rd i e kv he hj).1,by rw [e2];exact hu⟩
  ·rw [h2 i hij] at hi
   rw [List.getElem?_set_ne (fun e=>hij e.symm)] at hq
   exact h.rd i ent q hi hq
theorem b3q.erase {l:List MapEntry} {es:List (V×V)} (h:b3q S w kd l es) (j:Nat):b3q S w kd (l.eraseIdx j) (es.eraseIdx j):=by
 refine ⟨by simp [List.length_eraseIdx,h.len],fun kv hm=>h.key kv (List.mem_of_mem_eraseIdx hm),fun i ent kv hi hj=>?_⟩
 rw [List.getElem?_eraseIdx] at hi hj
 split at hi
 ·rename_i hlt;rw [if_pos hlt] at hj;exact h.rd i ent kv hi hj
 ·rename_i hlt;rw [if_neg hlt] at hj;exact h.rd (i+1) ent kv hi hj
end
section
variable {P:Program} {w:World}
theorem d00 {r m clock:Nat} {ty:TypeId} {seen:Array Nat} {es:Array MapEntry} (hr:w.heap[r]?=some (.mapIter (some m) clock seen clock)) (hb:w.heap[m]?=some (.map es clock)) (hold:∀x∈es.toList,x.born<clock) :
  ((es.toList.filter fun e=>!seen.contains e.born)=[]∧(Instr.next (.pointer (some ⟨r,0,none⟩)) false ty).run P w=.ok (.tuple #[.bool false]) w) ∨
  ∃(i:Nat) (e:MapEntry) (w1:World),(es.toList.filter fun e=>!seen.contains e.born)[i]?=some e∧w1.heap=w.heap∧w1.os=w.os∧w1.output=w.output∧w1.tape=w.tape ∧
   (Instr.next (.pointer (some ⟨r,0,none⟩)) false ty).run P w=.ok (.tuple #[.bool true,e.key,e.val]) { w1 with heap:=w1.heap.setIfInBounds r (.mapIter (some m) clock (seen.push e.born) clock) }:=by
 simp only [Instr.next,getObj,vB,Sem.run,hr,hb,Result.andThen,next_test_false seen es clock clock hold (vL _),xN,if_false]
 have hlist:(es.toList.filter fun e=>!seen.contains e.born)=(es.filter fun e=>!seen.contains e.born).toList:=by simp
 rw [hlist]
 have hmem:∀x∈(Array.filter (fun e=>!seen.contains e.born) es).toList,x.born<clock:=fun x hx=>hold x (by simp at hx ⊢;exact hx.1)
 generalize Array.filter (fun e=>!seen.contains e.born) es=L at hmem ⊢
 have e1:L.filter (fun x=>decide (x.born<clock))=L:=Array.filter_eq_self.2 (fun x hx=>by simpa using hmem x (by simpa using hx))
 have e2:L.filter (fun x=>decide (x.born≥clock))=#[]:=by
  rw [Array.filter_eq_empty_iff]
  intro x hx
  have:=hmem x (by simpa using hx)
  simp
  omega
 simp only [e1,e2,Array.append_empty]
 by_cases h0:L.size=0
 ·left
  have:L=#[]:=Array.eq_empty_of_size_eq_zero h0
  subst this
  refine ⟨rfl,?_⟩
  simp [choose,Sem.run,Question.forced]
 ·right
  have hne:L.isEmpty=false:=by simp [Array.isEmpty,h0]
  simp only [hne,xN,if_false,Array.empty_append,Array.size_map]
  have hch:∃(j:Nat) (w1:World),j<L.size∧w1.heap=w.heap∧w1.os=w.os∧w1.output=w.output∧w1.tape=w.tape∧(choose (Question.mapNext L.size)).run P w=.ok j w1:=by
   by_cases hf:L.size≤1
   ·exact ⟨0,w,by omega,rfl,rfl,rfl,rfl,by simp [choose,Sem.run,Question.forced,hf]⟩
   ·exact ⟨_,w.drew,Nat.mod_lt _ (by omega),rfl,rfl,rfl,rfl,by
     simp only [choose,Sem.run,Question.forced,xO,hf,if_false,Question.cut]
     rfl⟩
  obtain ⟨j,w1,hj,q1,q2,q3,q4,hrun⟩:=hch
  refine ⟨j,L[j],w1,by simp [hj],q1,q2,q3,q4,?_⟩
  have hset:∀(o':Obj),(setObj r o').run P w1=.ok () { w1 with heap:=w1.heap.setIfInBounds r o' }:=fun o'=>by
   simp only [setObj,Sem.run,q1,hr]
  simp only [hrun,Array.getElem?_map,zI hj,wK,vB,hset,Result.andThen]
  rfl
theorem b6o {r:Nat} {ty:TypeId} {x:Nat} {y:Array Nat} {z:Nat} (hr:w.heap[r]?=some (.mapIter none x y z)):(Instr.next (.pointer (some ⟨r,0,none⟩)) false ty).run P w=.ok (.tuple #[.bool false]) w:=by
 simp only [Instr.next,getObj,vB,Sem.run,hr,Result.andThen]
 rfl
theorem b77 {seen:Array Nat} {e:MapEntry}:∀{l:List MapEntry} {i:Nat},(l.map (·.born)).Nodup→(l.filter fun e=>!seen.contains e.born)[i]?=some e →
  (l.filter fun x=>!(seen.push e.born).contains x.born)=(l.filter fun e=>!seen.contains e.born).eraseIdx i:=by
 have hc:∀x:MapEntry,(!(seen.push e.born).contains x.born)=(!seen.contains x.born&&!(x.born==e.born)):=fun x=>by
  rw [wU];simp [Array.mem_push,not_or]
 have hother:∀l:List MapEntry,(∀x∈l,x.born≠e.born)→(l.filter fun x=>!(seen.push e.born).contains x.born)=l.filter fun e=>!seen.contains e.born:=fun l h=>by
  refine List.filter_congr fun x hx=>?_
  rw [hc]
  simp [h x hx]
 intro l
 induction l with
 | nil=>intro i _ h;simp at h
 | cons x l ih =>
  intro i hn h
  simp only [w5,List.nodup_cons] at hn
  by_cases hx:seen.contains x.born=true
  ·have h1:(!seen.contains x.born)=false:=by rw [hx];rfl
   have h2:(!(seen.push e.born).contains x.born)=false:=by rw [hc,h1];rfl
   simp only [List.filter_cons,h1,xN,if_false] at h ⊢
   rw [h2]
   exact ih hn.2 h
  ·have h1:(!seen.contains x.born)=true:=by rw [Bool.not_eq_true] at hx;rw [hx];rfl
   simp only [List.filter_cons,h1,if_true] at h ⊢
   cases i with
   | zero =>
    simp at h;subst h
    have h2:(!(seen.push x.born).contains x.born)=false:=by rw [hc];simp
    simp only [h2,xN,if_false,List.eraseIdx_zero,List.tail_cons]
    exact hother l fun y hy hb=>hn.1 (vG.2 ⟨y,hy,hb⟩)
   | succ i =>
    simp only [zN] at h
    have hm:e∈l:=(wM.1 (xB h)).1
    have hne:x.born≠e.born:=fun hb=>hn.1 (vG.2 ⟨e,hm,hb.symm⟩)
    have h2:(!(seen.push e.born).contains x.born)=true:=by rw [hc,h1];simp [hne]
    simp only [h2,if_true,List.eraseIdx_cons_succ]
    rw [ih hn.2 h]
end
section
variable {P:Program} {o:Oper} {c:Ctx} {g:Gh} {σ:St} {a:Act} {w:World} {ob:Nat→Option a0c} {K L:Eff→Prop} {K':Act→World→Prop} {Q':Exit→Act→World→Prop}
theorem Fin.mk'L (hF:Fin o c g σ a w K L K') {eff:Eff} (hk:L eff) {g':Gh} {v:Value} {w':World} (hrun:(execOp a.eval o).run P w=.ok (.value v) w') (h1:a07 g σ.heap w eff g' w') (h2:a0v c.H0 g g' σ eff) (h3:VR g' w' v eff.val):o.wp P a w K' Q':=by
 unfold Oper.wp
 rw [hrun]
 exact hF eff (.inr hk) g' v w' h1 h2 h3
theorem a4m {t:TypeId} {kd:Option KD} {z:Option V} (h:isMap P t kd z=true):∃kt et,P.underlying t=some (.map kt et)∧(∀k,kd=some k→P.underlying kt=some k.desc) ∧
  (∀y,z=some y→∃u,(∀w':World,(zeroValue et).run P w'=.ok u w')∧cOK y u=true):=by
 unfold isMap at h
 split at h
 case h_2=>cases h
 rename_i kt et hu
 simp only [wG] at h
 obtain ⟨⟨h1,_⟩,h3⟩:=h
 refine ⟨kt,et,hu,fun k hk=>?_,fun y hy=>?_⟩
 ·subst hk
  simp only at h1
  split at h1
  ·rename_i i j e
   have:=b0k h1;subst this;exact e
  ·rename_i e;exact e
  ·rename_i e;exact e
  ·cases h1
 ·subst hy
  simp only at h3
  split at h3
  ·rename_i i hi
   split at h3
   ·rename_i u hz
    exact ⟨u,fun w'=>by simp [zeroValue,typeInfo,hi,hz],h3⟩
   ·cases h3
  ·cases h3
theorem VR.nilm_inv {v:Value} (h:VR g w v .nilm):v=.map none:=by
 cases h with|rd h=>cases h;rfl
theorem b72 {v:Value} {x:V} {Km:KD→List (V×V)→Prop} (hR:a2l P g w σ.heap) (hob:∀id o,ob id=some o→find id σ.heap=some o) (vx:VR g w v x) (h:a9r x ob Km) :
  ∃b kd es ents clock,v=.map (some b)∧w.heap[b]?=some (.map ents clock)∧b3q g.S w kd ents.toList es∧Km kd es:=by
 unfold a9r at h
 split at h
 ·rename_i kd es
  cases vx with
  | rd hr =>
   cases hr with
   | smap b _ ents clock _ hS hg hl hk hb hn hr1 hr2 =>
    exact ⟨b,kd,es,ents,clock,rfl,hg,⟨by simpa using hl,hk,fun i ent kv hi hj=>⟨hr1 i ent kv (by simpa using hi) hj,hr2 i ent kv (by simpa using hi) hj⟩⟩,h⟩
 ·rename_i id
  split at h
  ·rename_i kd es hobj
   obtain ⟨_,ents,clock,h1,h2,_⟩:=hR.obj _ _ (hob _ _ hobj)
   exact ⟨_,kd,es,ents,clock,vx.omap_inv,h1,h2,h⟩
  ·rename_i kd es hobj
   obtain ⟨_,ents,clock,h1,h2,_⟩:=hR.obj _ _ (hob _ _ hobj)
   exact ⟨_,kd,es,ents,clock,vx.omap_inv,h1,h2,h⟩
  ·exact h.elim
 ·exact h.elim
theorem a2e {t:TypeId} {kd:KD} {k:V} {v:Value} {S:Nat→Prop} {w0:World} (hd:P.underlying t=some kd.desc) (hk:kd.is k=true) (hv:Rd S w0 v k) (e:Bool):(Instr.checkKey e 10000 t v).run P w=.ok () w :=
 MapKept.run_checkKey hd (KD.rd hk hv) e 9999
theorem b2h (ok:Bool) (z:V) {v:Value} (h:VR g w v z):VR g w (if ok=true then .tuple #[v,.bool false] else v) (a3x ok z none):=by
 cases ok with
 | false=>exact h
 | true =>
  refine .tup _ _ rfl fun i c hc=>?_
  match i,hc with
  | 0,hc=>simp at hc;subst hc;exact h
  | 1,hc=>simp at hc;subst hc;exact .rd (.bool _)
  | n+2,hc=>simp at hc
theorem b9p (ok:Bool) (z x:V) {v:Value} (h:VR g w v x):VR g w (if ok=true then .tuple #[v,.bool true] else v) (a3x ok z (some x)):=by
 cases ok with
 | false=>exact h
 | true =>
  refine .tup _ _ rfl fun i c hc=>?_
  match i,hc with
  | 0,hc=>simp at hc;subst hc;exact h
  | 1,hc=>simp at hc;subst hc;exact .rd (.bool _)
  | n+2,hc=>simp at hc
theorem VR.nsmap_inv {m p:Nat} {kd:KD} {es:List (V×V)} {v:Value} (h:VR g w v (.nsmap m p kd es)):∃b ents clock,v=.map (some b)∧w.heap[b]?=some (.map ents clock)∧b3q g.S w kd ents.toList es ∧
  ∀(i:Nat) (ent:MapEntry) (kv:V×V),ents[i]?=some ent→es[i]?=some kv→∃xs,kv.2=.sl xs∧a7g g.S (g.base m) p w ent.val xs:=by
 cases h with
 | rd h=>cases h
 | nsmap b _ _ _ ents clock _ hr hS hg hn =>
  refine ⟨b,ents,clock,rfl,hg,?_,hn⟩
  cases hr with
  | smap _ _ ents' clock' _ hS' hg' hl hk hb hn' hr1 hr2 =>
   rw [hg] at hg';cases hg'
   exact ⟨by simpa using hl,hk,fun i ent kv h1 h2=>⟨hr1 i ent kv (by simpa using h1) h2,hr2 i ent kv (by simpa using h1) h2⟩⟩
theorem d44 (ok:Bool) {m p:Nat} {o:Option V} {v:Value} {b:Bool} (hb:o.isSome=b) (h:VR g w v (f9x m p o)):VR g w (if ok=true then .tuple #[v,.bool b] else v) (b4n ok m p o):=by
 cases ok with
 | false=>exact h
 | true =>
  refine .tup _ _ rfl fun i c hc=>?_
  match i,hc with
  | 0,hc=>simp [b4n] at hc;subst hc;exact h
  | 1,hc=>simp [b4n] at hc;subst hc;rw [hb];exact .rd (.bool _)
  | n+2,hc=>simp [b4n] at hc
theorem c7a {z:V} {u:Value} (h:z.isNilS=true) (hu:cOK z u=true):u=.slice none 0 0:=by
 cases z<;>try (simp [V.isNilS] at h;done)
 ·unfold cOK at hu;split at hu<;>first|rfl|(simp at *;done)
 ·rename_i xs
  cases xs with
  | nil=>unfold cOK at hu;split at hu<;>first|rfl|(simp at *;done)
  | cons x r=>simp [V.isNilS] at h
theorem f9b {kd:KD} {ok:Bool} {z:V} {xs:List Opd} (hok:a15 P (.lku kd ok z) xs o.op=true) (hR:Rel P c g σ a w) (hob:∀id o,ob id=some o→find id σ.heap=some o) {d:Nat}
  (h:a1x (.lku kd ok z) d (xs.map (·.ev σ.env)) ob K L) (hF:Fin o c g σ a w K L K'):o.wp P a w K' Q':=by
 obtain ⟨x,k,t,x',k',rfl,ho,hx,hk,hm⟩:∃x k t x' k',xs=[x,k]∧o.op=.lookup t x' k' ok∧x.ok x'=true∧k.ok k'=true∧isMap P t (some kd) (some z)=true:=by
  cases ho:o.op<;>rw [ho] at hok<;>try (simp [a15] at hok;done)
  rename_i t x' k' c'
  simp only [a15,wG,beq_iff_eq] at hok
  obtain ⟨⟨h1,rfl⟩,h3⟩:=hok
  split at h1
  ·rename_i x k
   simp only [wG] at h1
   exact ⟨x,k,t,x',k',rfl,rfl,h1.1,h1.2,h3⟩
  ·cases h1
 obtain ⟨kt,et,hu,hkd,hz⟩:=a4m hm
 have hd:=hkd kd rfl
 obtain ⟨u,hzero,hzu⟩:=hz z rfl
 have vx:=Opd.vr hR hx
 have vk:=Opd.vr hR hk
 simp only [a1x,w5,vH] at h
 have hex:(execOp a.eval o)=(do pure (Next.value (←Instr.lookup t (a.eval x') (a.eval k') ok)):Sem Next):=by simp [execOp,ho]
 split at h
 ·rename_i hc
  cases hkk:kd.is (k.ev σ.env) with
  | false=>rw [hkk] at h;exact h.elim
  | true =>
   rw [hkk] at h
   have hrk:=vk.sc_rd (KD.sc hkk)
   have e1:a.eval x'=.map none:=by rw [hc] at vx;exact vx.nilm_inv
   have hck:=fun e=>a2e (w:=w) hd hkk hrk e
   have hfk:(Instr.findKey kt (a.eval k') []).run P w=.ok none w:=MapKept.run_findKey hd rfl
   refine a09 hR hF (v:=if ok=true then .tuple #[u,.bool false] else u) ?_ (.inl h) (b2h ok z (.rd (b50 hzu)))
   rw [hex]
   refine a7f ?_
   rw [e1]
   simp [Instr.lookup,run_underlying hu,hck,hfk,hzero w,Result.andThen]
 ·rename_i m p kd' es hx0
  rw [hx0] at vx
  obtain ⟨b,ents,clock,e1,hb,he,hnr⟩:=vx.nsmap_inv
  cases hkk:kd.is (k.ev σ.env)&&kd'.is (k.ev σ.env)&&z.isNilS with
  | false=>rw [hkk] at h;exact h.elim
  | true =>
   rw [hkk] at h
   simp only [wG] at hkk
   obtain ⟨hkk,hzn⟩:=hkk
   have:=KD.same hkk.1 hkk.2;subst this
   have hrk:=vk.sc_rd (KD.sc hkk.1)
   have hck:=fun e=>a2e (w:=w) hd hkk.1 hrk e
   rcases a6f hkk.1 hrk 0 he with ⟨h1,h2,_⟩|⟨j,e,kv,h1,h2,h3,h4,h5,_⟩
   ·rw [h2] at h
    have hfk:(Instr.findKey kt (a.eval k') ents.toList).run P w=.ok none w:=MapKept.run_findKey hd h1
    refine a09 hR hF (v:=if ok=true then .tuple #[u,.bool false] else u) ?_ (.inl h) (d44 ok rfl (.nsl m p [] _ (.inl ⟨c7a hzn hzu,rfl⟩)))
    rw [hex]
    refine a7f ?_
    rw [e1]
    simp [Instr.lookup,run_underlying hu,MapKept.run_getObj_map hb,hck,hfk,hzero w,Result.andThen]
   ·rw [h5] at h
    obtain ⟨xs,e2,hnw⟩:=hnr j e kv (by simpa using h2) h3
    have hfk:(Instr.findKey kt (a.eval k') ents.toList).run P w=.ok (some (0+j,e.val)) w:=MapKept.run_findKey hd h1
    refine a09 hR hF (v:=if ok=true then .tuple #[e.val,.bool true] else e.val) ?_ (.inl h) (d44 ok rfl (by rw [e2];exact .nsl m p xs _ hnw))
    rw [hex]
    refine a7f ?_
    rw [e1]
    simp [Instr.lookup,run_underlying hu,MapKept.run_getObj_map hb,hck,hfk,Result.andThen]
 ·rename_i x0 hne
  obtain ⟨b,kd',es,ents,clock,e1,hb,he,hK⟩:=b72 hR.hp hob vx h
  cases hkk:kd.is (k.ev σ.env)&&kd'.is (k.ev σ.env) with
  | false=>rw [hkk] at hK;exact hK.elim
  | true =>
   rw [hkk] at hK
   simp only [wG] at hkk
   have:=KD.same hkk.1 hkk.2;subst this
   have hrk:=vk.sc_rd (KD.sc hkk.1)
   have hck:=fun e=>a2e (w:=w) hd hkk.1 hrk e
   rcases a6f hkk.1 hrk 0 he with ⟨h1,h2,_⟩|⟨j,e,kv,h1,h2,h3,h4,h5,_⟩
   ·rw [h2] at hK
    have hfk:(Instr.findKey kt (a.eval k') ents.toList).run P w=.ok none w:=MapKept.run_findKey hd h1
    refine a09 hR hF (v:=if ok=true then .tuple #[u,.bool false] else u) ?_ (.inl hK) (b2h ok z (.rd (b50 hzu)))
    rw [hex]
    refine a7f ?_
    rw [e1]
    simp [Instr.lookup,run_underlying hu,MapKept.run_getObj_map hb,hck,hfk,hzero w,Result.andThen]
   ·rw [h5] at hK
    have hfk:(Instr.findKey kt (a.eval k') ents.toList).run P w=.ok (some (0+j,e.val)) w:=MapKept.run_findKey hd h1
    refine a09 hR hF (v:=if ok=true then .tuple #[e.val,.bool true] else e.val) ?_ (.inl hK) (b9p ok z kv.2 (.rd (he.rd j e kv h2 h3).2))
    rw [hex]
    refine a7f ?_
    rw [e1]
    simp [Instr.lookup,run_underlying hu,MapKept.run_getObj_map hb,hck,hfk,Result.andThen]
theorem g78 {kd:KD} {xs:List Opd} (hok:a15 P (.mk kd) xs o.op=true) (hR:Rel P c g σ a w) {d:Nat} (hcl:Clean c σ d)
  (h:a1x (.mk kd) d (xs.map (·.ev σ.env)) ob K L) (hF:Fin o c g σ a w K L K'):o.wp P a w K' Q':=by
 obtain ⟨t,rfl,ho⟩:∃t,xs=[]∧o.op=.makeMap t none:=by
  cases ho:o.op<;>rw [ho] at hok<;>try (simp [a15] at hok;done)
  rename_i t r
  cases r<;>simp [a15] at hok
  obtain ⟨_,h2⟩:=hok
  split at h2
  ·exact ⟨t,rfl,rfl⟩
  ·cases h2
 simp only [a1x,vH] at h
 have hrun:(execOp a.eval o).run P w=.ok (.value (.map (some w.heap.size))) (w.alloc (.map #[] 0)):=by
  simp [execOp,ho,Instr.makeMap]
 have hh:(w.alloc (.map #[] 0)).heap=w.heap.push (.map #[] 0):=rfl
 have e1:(g.set d w.heap.size 0 0).ρ d=w.heap.size:=by simp [Gh.set]
 have e4:¬(g.set d w.heap.size 0 0).nil d:=by simp [Gh.set]
 refine Fin.mk' hF h hrun (a07.alloc _ d 0 0 _ (.map #[] 0) hR.hp.lt rfl rfl rfl hh ?_) (a0v.of_clean hcl) ?_
 ·refine ⟨e4,#[],0,by rw [e1,hh];simp,⟨rfl,(fun kv h=>by cases h),(fun i ent kv hi=>by simp at hi)⟩,by simp,by simp⟩
 ·have:=VR.omap (g:=g.set d w.heap.size 0 0) (w:=w.alloc (.map #[] 0)) d
  rw [e1] at this
  exact this
theorem b70 {l:List MapEntry} {l':List MapEntry} (h:(l.map (·.born)).Nodup) (hl:l'.map (·.born)=l.map (·.born)):(l'.map (·.born)).Nodup:=by rw [hl];exact h
theorem b8t {kd:KD} {t kt et:TypeId} {r:Nat} {ents:Array MapEntry} {clock:Nat} {es:List (V×V)} {kv yv:Value} {kx:V} (hu:P.underlying t=some (.map kt et)) (hd:P.underlying kt=some kd.desc)
  (hb:w.heap[r]?=some (.map ents clock)) (he:b3q g.S w kd ents.toList es) (hb1:∀ent∈ents.toList,ent.born<clock) (hb2:(ents.toList.map (·.born)).Nodup) (hk1:kd.is kx=true) (hrk:Rd g.S w kv kx) :
  ∃ents' clock',(Instr.mapUpdate t (.map (some r)) kv yv).run P w=.ok () { w with heap:=w.heap.setIfInBounds r (.map ents' clock') } ∧
   (∀(S':Nat→Prop) (w':World) (y:V),a1o g.S w w'→(∀b,g.S b→S' b)→Rd S' w' yv y→b3q S' w' kd ents'.toList (b6g kx y es))∧(∀ent∈ents'.toList,ent.born<clock')∧(ents'.toList.map (·.born)).Nodup  ∧
   ∀(y:V) (i:Nat) (ent:MapEntry) (q:V×V),ents'[i]?=some ent→(b6g kx y es)[i]?=some q→(ent.val=yv∧q.2=y)∨(ents[i]?=some ent∧es[i]?=some q):=by
 have hck:=fun e=>a2e (w:=w) hd hk1 hrk e
 rcases a6f hk1 hrk 0 he with ⟨h1,_,h3,_,h5⟩|⟨j,e,q,h1,h2,h3,h4,_,h6,_⟩
 ·have hfk:(Instr.findKey kt kv ents.toList).run P w=.ok none w:=MapKept.run_findKey hd h1
  refine ⟨ents.push { key:=kv,val:=yv,born:=clock },clock+1,?_,fun S' w' y hw hs hy=>?_,fun ent hm=>?_,?_,fun y i ent q hi hq=>?_⟩
  ·simp [Instr.mapUpdate,run_underlying hu,MapKept.run_getObj_map hb,hck,hfk,MapKept.run_setObj_map _ hb,Result.andThen]
  ·rw [h3,Array.toList_push]
   exact (he.mono hw hs).push hk1 (hrk.mono hw hs) hy clock
  ·rw [Array.toList_push] at hm
   rcases wN.1 hm with hm|hm
   ·have:=hb1 ent hm;omega
   ·simp at hm;subst hm;simp
  ·rw [Array.toList_push,List.map_append,List.nodup_append]
   refine ⟨hb2,by simp,fun x hx y hy=>?_⟩
   simp at hy;subst hy
   obtain ⟨q,hq,rfl⟩:=vG.1 hx
   have:=hb1 q hq
   omega
  ·rw [h3] at hq
   have hl:=he.len
   simp only [xG] at hl
   rw [Array.getElem?_push] at hi
   by_cases hij:i=ents.size
   ·rw [if_pos hij] at hi;cases hi
    rw [zD (by omega),show i - es.length=0 by omega] at hq
    simp at hq;subst hq;exact .inl ⟨rfl,rfl⟩
   ·rw [if_neg hij] at hi
    have:=(zF.1 hi).1
    rw [zH (by omega)] at hq
    exact .inr ⟨hi,hq⟩
 ·have hj:ents[j]?=some e:=by simpa using h2
  have hfk:(Instr.findKey kt kv ents.toList).run P w=.ok (some (0+j,e.val)) w:=MapKept.run_findKey hd h1
  have hst:=MapKept.run_keyThatStays (P:=P) (w:=w) (KD.rd hk1 hrk)
  have hget:∀i,(ents.modify j fun e=>{ e with key:=kv,val:=yv }).toList[i]?=if j=i then (ents.toList[i]?).map (fun e=>{ e with key:=kv,val:=yv }) else ents.toList[i]?:=fun i=>by
   simp only [zW,zX]
  refine ⟨ents.modify j fun e=>{ e with key:=kv,val:=yv },clock,?_,fun S' w' y hw hs hy=>?_,fun ent hm=>?_,?_,fun y i ent q' hi hq=>?_⟩
  ·simp only [vC] at hfk
   simp [Instr.mapUpdate,run_underlying hu,MapKept.run_getObj_map hb,hck,hfk,hj,h4,hst,MapKept.run_setObj_map _ hb,Result.andThen]
  ·rw [h6]
   refine (he.mono hw hs).modify h2 h3 hy (by simp) (fun e' hi=>?_) fun i hi=>?_
   ·rw [hget,if_pos rfl,h2] at hi
    simp at hi;subst hi
    exact ⟨h4.symm,rfl⟩
   ·rw [hget,if_neg (fun e=>hi e.symm)]
  ·obtain ⟨i,hi⟩:=zT.1 hm
   rw [hget] at hi
   split at hi
   ·rename_i hij;subst hij
    rw [h2] at hi;simp at hi;subst hi
    exact hb1 e (xB h2)
   ·exact hb1 ent (xB hi)
  ·refine b70 hb2 (xV fun i=>?_)
   rw [xS,xS,hget]
   split
   ·cases ents.toList[i]?<;>rfl
   ·rfl
  ·rw [h6] at hq
   rw [zX] at hi
   by_cases hij:j=i
   ·subst hij
    rw [if_pos rfl,hj] at hi
    simp at hi;subst hi
    rw [List.getElem?_set_self (zG.1 h3).1] at hq;cases hq
    exact .inl ⟨rfl,rfl⟩
   ·rw [if_neg hij] at hi
    rw [List.getElem?_set_ne hij] at hq
    exact .inr ⟨hi,hq⟩
theorem c50 {xs:List Opd} {op:Op} {kd:KD} {m:b8k} (hm:m=.up kd∨m=.ups kd) (hok:a15 P m xs op=true):∃x k y t x' k' y',xs=[x,k,y]∧(op=.mapUpdate t x' k' y'∨op=.insert t x' k' y')∧x.ok x'=true∧k.ok k'=true∧y.ok y'=true∧isMap P t (some kd) none=true:=by
 rcases hm with rfl|rfl<;>cases op<;>try (simp [a15] at hok;done)
 all_goals
  rename_i t x' k' y'
  simp only [a15,wG] at hok
  obtain ⟨h1,h3⟩:=hok
  split at h1
  ·rename_i x k y
   simp only [wG] at h1
   exact ⟨x,k,y,t,x',k',y',rfl,by simp,h1.1.1,h1.1.2,h1.2,h3⟩
  ·cases h1
theorem g73 {kd:KD} {xs:List Opd} (hok:a15 P (.up kd) xs o.op=true) (hR:Rel P c g σ a w) (hob:∀id o,ob id=some o→find id σ.heap=some o) {d:Nat}
  (h:a1x (.up kd) d (xs.map (·.ev σ.env)) ob K L) (hF:Fin o c g σ a w K L K'):o.wp P a w K' Q':=by
 obtain ⟨x,k,y,t,x',k',y',rfl,ho,hx,hk,hy,hm⟩:=c50 (.inl rfl) hok
 obtain ⟨kt,et,hu,hkd,_⟩:=a4m hm
 have hd:=hkd kd rfl
 have vx:=Opd.vr hR hx
 have vk:=Opd.vr hR hk
 have vy:=Opd.vr hR hy
 simp only [w5,vH] at h
 unfold a1x at h
 split at h<;>try (rename_i heq;simp at heq;done)
 all_goals try (rename_i e1 e2;cases e1;done)
 case h_14=>exact h.elim
 rename_i kd1 id k1 v1 e1 e2
 cases e1
 simp only [wR,and_true] at e2
 obtain ⟨e2,e3,e4⟩:=e2
 rw [e2] at vx
 subst e3 e4
 split at h
 case h_2=>exact h.elim
 rename_i kd' es hobj
 cases hkk:kd.is (k.ev σ.env)&&kd'.is (k.ev σ.env)&&(y.ev σ.env).sealed with
 | false=>rw [hkk] at h;exact h.elim
 | true =>
  rw [hkk] at h
  simp only [wG] at hkk
  obtain ⟨⟨hk1,hk2⟩,hse⟩:=hkk
  have:=KD.same hk1 hk2;subst this
  have hfd:=hob _ _ hobj
  obtain ⟨hnn,ents,clock,hb,he,hb1,hb2⟩:=hR.hp.obj _ _ hfd
  have hrk:=vk.sc_rd (KD.sc hk1)
  have hry:=vy.sealed_rd hse
  have hxe:=vx.omap_inv
  have hlt:g.ρ id<w.heap.size:=(zF.1 hb).1
  obtain ⟨ents',clock',hrun,q1,q2,q3,q4⟩:=b8t (yv:=a.eval y') hu hd hb he hb1 hb2 hk1 hrk
  have hother:∀b,b≠g.ρ id→(w.heap.setIfInBounds (g.ρ id) (.map ents' clock'))[b]?=w.heap[b]?:=fun b hb=>by simp [Ne.symm hb]
  have hkeep:a1o g.S w { w with heap:=w.heap.setIfInBounds (g.ρ id) (.map ents' clock') }:=a1o.upd hR.hp hfd hnn hother
  unfold Oper.wp
  have:(execOp a.eval o).run P w=.ok .skip { w with heap:=w.heap.setIfInBounds (g.ρ id) (.map ents' clock') }:=by
   rcases ho with ho|ho<;>simp [execOp,ho,hxe,hrun]
  rw [this]
  refine hF _ (.inl h) g undef _ (a07.upd _ id _ _ hR.hp hfd hnn rfl rfl rfl (by simp) hother ?_) (a0v.upd _) (.any _)
  exact ⟨hnn,ents',clock',by simp [hlt],q1 _ _ _ hkeep (fun _ h=>h) (hry.mono hkeep fun _ h=>h),q2,q3⟩
def Gh.shutR (g:Gh) (n:Nat):Gh:={ g with S:=fun b=>g.S b∨(¬g.nil n∧b=g.ρ n) }
theorem c1f {j q n:Nat} {xs:List V} {ty:Option TypeId} {v:Value} (ho:OR g w j (.arr q xs ty)) (h:VR g w v (.osl j q 0 n)) (hn:n=xs.length):Rd (g.shutR j).S w v (.sl xs):=by
 cases h with
 | rd h=>cases h
 | oslnil id k' lo h =>
  have:xs=[]:=zM.1 hn.symm
  subst this
  exact .nilsl
 | osl id k' lo len o c h hoo hc hl hm =>
  rcases ho with ⟨hn',_⟩|⟨hn',hkp,⟨cur,e,fz,h1,h2,h3,h4⟩,h5,h6,h7⟩
  ·exact absurd hn' h
  ·refine .sl _ o n c q cur e fz _ (.inr ⟨h,rfl⟩) h1 hn.symm (vD hl hm) hl ?_ (fun x hx=>h7 x hx) fun i j' x cx hi hj=>?_
   ·rcases hoo with h0|h0
    ·exact .inl (by omega)
    ·refine .inr ?_
     rw [h0,h2,←vM]
     exact zZ q (by omega)
   ·have hil:i<n:=by rw [hn];exact (zG.1 hi).1
    have hoo':o=(g.base j+0)*q:=hoo.resolve_left (by omega)
    have:=(h4 i j' x cx hi hj).mono (S':=(g.shutR j).S) (w':=w) (fun _ _=>rfl) (fun _ h=>.inl h)
    have e1:o+i*q+j'=(g.base j+i)*q+j':=by rw [hoo',vF,vM (g.base j) i q]
    rw [e1];exact this
theorem d6q {j q n m:Nat} {xs:List V} {ty:Option TypeId} {v:Value} (ho:OR g w j (.arr q xs ty)) (h:VR g w v (.osl j q 0 n)) (hn:n=xs.length) (hb:∀b,m.testBit b=true→g.S b) (hs:¬g.nil j→¬g.S (g.ρ j)):a7g (g.shutR j).S m q w v xs:=by
 cases h with
 | rd h=>cases h
 | oslnil id k' lo h =>
  have:xs=[]:=zM.1 hn.symm
  exact .inl ⟨rfl,this⟩
 | osl id k' lo len o c h hoo hc hl hm =>
  rcases ho with ⟨hn',_⟩|⟨hn',⟨hkp,⟨cur,e,fz,h1,h2,h3,h4⟩,h5,h6,h7⟩⟩
  ·exact absurd hn' h
  ·refine .inr ⟨g.ρ j,o,g.base j,g.cap j,c,by rw [hn],by simpa using hoo,by rw [←hn];exact hl,by omega,hm,?_,.inr ⟨h,rfl⟩,hkp,⟨cur,e,fz,h1,h2,⟨h3.1,trivial⟩,fun i j' x y hi hj=>(h4 i j' x y hi hj).mono (fun _ _=>rfl) fun _ h=>.inl h⟩,h5,h6,h7⟩
   cases ht:m.testBit (g.ρ j) with
   | false=>rfl
   | true=>exact absurd (hb _ ht) (hs h)
theorem f8s {kd:KD} {xs:List Opd} (hok:a15 P (.ups kd) xs o.op=true) (hR:Rel P c g σ a w) (hob:∀id o,ob id=some o→find id σ.heap=some o) {d:Nat}
  (h:a1x (.ups kd) d (xs.map (·.ev σ.env)) ob K L) (hF:Fin o c g σ a w K L K'):o.wp P a w K' Q':=by
 obtain ⟨x,k,y,t,x',k',y',rfl,ho,hx,hk,hy,hm⟩:=c50 (.inr rfl) hok
 obtain ⟨kt,et,hu,hkd,_⟩:=a4m hm
 have hd:=hkd kd rfl
 have vx:=Opd.vr hR hx
 have vk:=Opd.vr hR hk
 have vy:=Opd.vr hR hy
 simp only [w5,vH] at h
 unfold a1x at h
 split at h<;>try (rename_i heq;simp at heq;done)
 all_goals try (rename_i e1 e2;cases e1;done)
 case h_14=>exact h.elim
 rename_i kd1 id k1 j q n e1 e2
 cases e1
 simp only [wR,and_true] at e2
 obtain ⟨e2,e3,e4⟩:=e2
 rw [e2] at vx
 rw [e4] at vy
 subst e3
 split at h
 case h_3=>exact h.elim
 case h_2 =>
  rename_i z p kd' es q' ys ty hobj hobj2
  cases hkk:kd.is (k.ev σ.env)&&kd'.is (k.ev σ.env)&&(Nat.beq q q'&&Nat.beq n ys.length&&!Nat.beq id j)&&Nat.beq q p with
  | false=>rw [hkk] at h;exact h.elim
  | true =>
   rw [hkk] at h
   simp only [wG,xX] at hkk
   obtain ⟨⟨⟨hk1,hk2⟩,⟨hq,hn⟩,hij⟩,hqp⟩:=hkk
   have:=zR hqp;subst this
   have:=zR hq;subst this
   have hn:=zR hn
   have hij:id≠j:=Nat.ne_of_beq_eq_false hij
   have:=KD.same hk1 hk2;subst this
   have hfd:=hob _ _ hobj
   have hfd2:=hob _ _ hobj2
   obtain ⟨hnn,ents,clock,hb,he,hb1,hb2,hnr,hB⟩:=hR.hp.obj _ _ hfd
   have hrk:=vk.sc_rd (KD.sc hk1)
   have hnw:=d6q (hR.hp.obj _ _ hfd2) vy hn hB (hR.hp.sep _ _ hfd2)
   have hry:=c1f (hR.hp.obj _ _ hfd2) vy hn
   have hxe:=vx.omap_inv
   have hlt:g.ρ id<w.heap.size:=(zF.1 hb).1
   obtain ⟨ents',clock',hrun,q1,q2,q3,q4⟩:=b8t (yv:=a.eval y') hu hd hb he hb1 hb2 hk1 hrk
   have hother:∀b,b≠g.ρ id→(w.heap.setIfInBounds (g.ρ id) (.map ents' clock'))[b]?=w.heap[b]?:=fun b hb=>by simp [Ne.symm hb]
   have hns:¬(g.shutR j).S (g.ρ id):=by
    rintro (h1|⟨h1,h2⟩)
    ·exact hR.hp.sep id _ hfd hnn h1
    ·exact hij (hR.hp.inj id j _ _ hfd hfd2 hnn h1 h2)
   have hkeep:a1o (g.shutR j).S w { w with heap:=w.heap.setIfInBounds (g.ρ id) (.map ents' clock') }:=fun b hb=>hother b fun e=>hns (e▸hb)
   have hup:∀b,g.S b→(g.shutR j).S b:=fun _ h=>.inl h
   unfold Oper.wp
   have:(execOp a.eval o).run P w=.ok .skip { w with heap:=w.heap.setIfInBounds (g.ρ id) (.map ents' clock') }:=by
    rcases ho with ho|ho<;>simp [execOp,ho,hxe,hrun]
   rw [this]
   have hOR:OR (g.shutR j) { w with heap:=w.heap.setIfInBounds (g.ρ id) (.map ents' clock') } id (.nmap z q kd (b6g (k.ev σ.env) (.sl ys) es)) :=
    ⟨hnn,ents',clock',by simp [hlt,Gh.shutR],q1 _ _ _ (fun b hb=>hkeep b (hup b hb)) hup (hry.mono hkeep fun _ h=>h),q2,q3,fun i ent u hi hu=>by
     rcases q4 _ i ent u hi hu with ⟨e5,e6⟩|⟨e5,e6⟩
     ·exact ⟨ys,e6,by rw [e5];exact hnw.mono hkeep fun _ h=>h⟩
     ·obtain ⟨zs,e7,e8⟩:=hnr i ent u e5 e6
      exact ⟨zs,e7,e8.mono (fun b hb=>hkeep b (hup b hb)) hup⟩,fun b hb=>.inl (hB b hb)⟩
   refine hF _ (.inl h) (g.shutR j) undef _ ⟨rfl,rfl,rfl,by simp,fun b hb hb'=>hother b fun e=>hb' id _ (by simp [Eff.ids]) hfd hnn e.symm,hup,fun b hb=>?_,fun b hb=>?_,fun i _=>⟨rfl,rfl,rfl,vR⟩,?_,?_,?_,?_⟩ (fun i o' _=>.inl ⟨rfl,rfl,rfl,vR⟩) (.any _)
   ·rcases hb with hb|⟨h1,h2⟩
    ·exact .inl hb
    ·exact .inr (.inr ⟨j,_,by simp [Eff.ids],hfd2,h1,h2.symm⟩)
   ·rcases hb with hb|⟨h1,h2⟩
    ·have:=hR.hp.lt b hb;simpa using this
    ·rcases hR.hp.obj _ _ hfd2 with ⟨h3,_⟩|⟨_,_,⟨cur,e,fz,h4,_⟩,_⟩
     ·exact absurd h3 h1
     ·rw [h2];have:=(zF.1 h4).1;simpa using this
   ·intro i o1 hi;simp at hi;obtain ⟨rfl,rfl⟩:=hi;exact hOR
   ·intro i o1 hi _;simp at hi;obtain ⟨rfl,rfl⟩:=hi;exact .inr ⟨i,_,by simp [Eff.ids],hfd,hnn,rfl⟩
   ·intro i i' o1 o2 hi hj;simp at hi hj;intro _ _ _;rw [hi.1,hj.1]
   ·intro i o1 hi _;simp at hi;obtain ⟨rfl,rfl⟩:=hi;exact hns
 rename_i kd' es q' ys ty hobj hobj2
 cases hkk:kd.is (k.ev σ.env)&&kd'.is (k.ev σ.env)&&(Nat.beq q q'&&Nat.beq n ys.length&&!Nat.beq id j) with
 | false=>rw [hkk] at h;exact h.elim
 | true =>
  rw [hkk] at h
  simp only [wG,xX] at hkk
  obtain ⟨⟨hk1,hk2⟩,⟨hq,hn⟩,hij⟩:=hkk
  have:=zR hq;subst this
  have hn:=zR hn
  have hij:id≠j:=Nat.ne_of_beq_eq_false hij
  have:=KD.same hk1 hk2;subst this
  have hfd:=hob _ _ hobj
  have hfd2:=hob _ _ hobj2
  obtain ⟨hnn,ents,clock,hb,he,hb1,hb2⟩:=hR.hp.obj _ _ hfd
  have hrk:=vk.sc_rd (KD.sc hk1)
  have hry:=c1f (hR.hp.obj _ _ hfd2) vy hn
  have hxe:=vx.omap_inv
  have hlt:g.ρ id<w.heap.size:=(zF.1 hb).1
  obtain ⟨ents',clock',hrun,q1,q2,q3,q4⟩:=b8t (yv:=a.eval y') hu hd hb he hb1 hb2 hk1 hrk
  have hother:∀b,b≠g.ρ id→(w.heap.setIfInBounds (g.ρ id) (.map ents' clock'))[b]?=w.heap[b]?:=fun b hb=>by simp [Ne.symm hb]
  have hns:¬(g.shutR j).S (g.ρ id):=by
   rintro (h1|⟨h1,h2⟩)
   ·exact hR.hp.sep id _ hfd hnn h1
   ·exact hij (hR.hp.inj id j _ _ hfd hfd2 hnn h1 h2)
  have hkeep:a1o (g.shutR j).S w { w with heap:=w.heap.setIfInBounds (g.ρ id) (.map ents' clock') }:=fun b hb=>hother b fun e=>hns (e▸hb)
  have hup:∀b,g.S b→(g.shutR j).S b:=fun _ h=>.inl h
  unfold Oper.wp
  have:(execOp a.eval o).run P w=.ok .skip { w with heap:=w.heap.setIfInBounds (g.ρ id) (.map ents' clock') }:=by
   rcases ho with ho|ho<;>simp [execOp,ho,hxe,hrun]
  rw [this]
  have hOR:OR (g.shutR j) { w with heap:=w.heap.setIfInBounds (g.ρ id) (.map ents' clock') } id (.map kd (b6g (k.ev σ.env) (.sl ys) es)) :=
   ⟨hnn,ents',clock',by simp [hlt,Gh.shutR],q1 _ _ _ (fun b hb=>hkeep b (hup b hb)) hup (hry.mono hkeep fun _ h=>h),q2,q3⟩
  refine hF _ (.inl h) (g.shutR j) undef _ ⟨rfl,rfl,rfl,by simp,fun b hb hb'=>hother b fun e=>hb' id _ (by simp [Eff.ids]) hfd hnn e.symm,hup,fun b hb=>?_,fun b hb=>?_,fun i _=>⟨rfl,rfl,rfl,vR⟩,?_,?_,?_,?_⟩ (fun i o' _=>.inl ⟨rfl,rfl,rfl,vR⟩) (.any _)
  ·rcases hb with hb|⟨h1,h2⟩
   ·exact .inl hb
   ·exact .inr (.inr ⟨j,_,by simp [Eff.ids],hfd2,h1,h2.symm⟩)
  ·rcases hb with hb|⟨h1,h2⟩
   ·have:=hR.hp.lt b hb;simpa using this
   ·rcases hR.hp.obj _ _ hfd2 with ⟨h3,_⟩|⟨_,_,⟨cur,e,fz,h4,_⟩,_⟩
    ·exact absurd h3 h1
    ·rw [h2];have:=(zF.1 h4).1;simpa using this
  ·intro i o1 hi;simp at hi;obtain ⟨rfl,rfl⟩:=hi;exact hOR
  ·intro i o1 hi _;simp at hi;obtain ⟨rfl,rfl⟩:=hi;exact .inr ⟨i,_,by simp [Eff.ids],hfd,hnn,rfl⟩
  ·intro i i' o1 o2 hi hj;simp at hi hj;intro _ _ _;rw [hi.1,hj.1]
  ·intro i o1 hi _;simp at hi;obtain ⟨rfl,rfl⟩:=hi;exact hns
theorem d6p {v:Value} {i k lo n:Nat} (h:VR g w v (.osl i k lo n)):∃p l q,v=.slice p l q∧(p=none→n=0):=by
 cases h with
 | rd h=>cases h
 | oslnil=>exact ⟨_,_,_,rfl,fun _=>rfl⟩
 | osl=>exact ⟨_,_,_,rfl,fun h=>by cases h⟩
theorem c06 {H:Heap} {d k:Nat} {vs:List V} {ty:Option TypeId} {g':Gh} {w':World} {v:Value} (hs:a07 g H w ⟨.osl d k 0 vs.length,[],[(d,.arr k vs ty)]⟩ g' w') (hv:VR g' w' v (.osl d k 0 vs.length)) (hd:find d H=none) :
  ∃g'',a07 g H w ⟨.sl vs,[],[]⟩ g'' w'∧VR g'' w' v (.sl vs):=by
 have hids:∀id o,id∈(Eff.mk (.osl d k 0 vs.length) [] [(d,.arr k vs ty)]).ids→find id H=some o→False:=fun id o hi ho=>by
  simp [Eff.ids] at hi
  rw [hi,hd] at ho;cases ho
 have ho:=hs.obj d (.arr k vs ty) (by simp)
 have hnew:∀b,¬g'.nil d→b=g'.ρ d→w.heap.size≤b:=fun b hn e=>by
  rcases hs.blk d (.arr k vs ty) (by simp) hn with h|⟨id0,o0,h1,h2,_⟩
  ·rw [e];exact h
  ·exact (hids id0 o0 h1 h2).elim
 refine ⟨{ g with S:=fun b=>g'.S b∨(¬g'.nil d∧b=g'.ρ d) },⟨hs.os,hs.tape,hs.output,hs.size,fun b hb _=>hs.keep b hb fun id o h1 h2=>(hids id o h1 h2).elim,fun b hb=>.inl (hs.sup b hb),fun b hb=>?_,fun b hb=>?_,
  fun id _=>⟨rfl,rfl,rfl,vR⟩,fun _ _ h=>by simp at h,fun _ _ h=>by simp at h,fun _ _ _ _ h=>by simp at h,fun _ _ h=>by simp at h⟩,.rd ?_⟩
 ·rcases hb with hb|⟨h1,h2⟩
  ·rcases hs.sub b hb with h|h|⟨id,o,h1,h2,_⟩
   ·exact .inl h
   ·exact .inr (.inl h)
   ·exact (hids id o h1 h2).elim
  ·exact .inr (.inl (hnew b h1 h2))
 ·rcases hb with hb|⟨h1,h2⟩
  ·exact hs.slt b hb
  ·rw [h2];exact ho.block h1
 ·rcases hv.osl_inv with ⟨hn,rfl,h0⟩|⟨hn,o,cc,rfl,h2,h3,h4,h5⟩
  ·have:vs=[]:=zB h0
   subst this;exact .nilsl
  ·rcases ho with ⟨h,_⟩|⟨_,kpos,⟨cur,e,fz,r1,r2,r3,r4⟩,hlen,hbig,helem⟩
   ·exact absurd h hn
   by_cases hz:vs=[]
   ·subst hz
    exact .sl _ o 0 cc k cur e fz [] (.inr ⟨hn,rfl⟩) r1 rfl (vJ _) (vJ _) (.inl rfl) (fun x hx=>by cases hx) fun i j x c hx=>by simp at hx
   have hvl:vs.length≠0:=fun h=>hz (zB h)
   have ho':o=(g'.base d+0)*k:=by
    rcases h2 with h|h
    ·omega
    ·exact h
   have hsz:o+vs.length*k≤cur.size:=by
    rw [ho',r2,←vM]
    exact zZ k (by omega)
   refine .sl _ o vs.length cc k cur e fz vs (.inr ⟨hn,rfl⟩) r1 rfl (by omega) h4 (.inr hsz) helem fun i j x c hx hc=>?_
   have:=r4 i j x c hx hc
   rw [show (g'.base d+i)*k+j=o+i*k+j by rw [ho',vF,vM]] at this
   exact this.mono (fun _ _=>rfl) fun b hb=>.inl hb
theorem a98 {n m:Nat} (h:n≠m):Nat.beq n m=false:=by
 cases hb:Nat.beq n m with
 | true=>exact absurd (zR hb) h
 | false=>rfl
mutual
theorem b7f:∀x:V,∃m,∀n,m≤n→x.has n=false
 | .ptr id _=>⟨id+1,fun n h=>by simp only [V.has];exact a98 (by omega)⟩
 | .osl id _ _ _=>⟨id+1,fun n h=>by simp only [V.has];exact a98 (by omega)⟩
 | .optr id _ _ _=>⟨id+1,fun n h=>by simp only [V.has];exact a98 (by omega)⟩
 | .omap id=>⟨id+1,fun n h=>by simp only [V.has];exact a98 (by omega)⟩
 | .bptr id=>⟨id+1,fun n h=>by simp only [V.has];exact a98 (by omega)⟩
 | .nsl id _ _=>⟨id+1,fun n h=>by simp only [V.has];exact a98 (by omega)⟩
 | .nsmap id _ _ _=>⟨id+1,fun n h=>by simp only [V.has];exact a98 (by omega)⟩
 | .at_ id _=>⟨id+1,fun n h=>by simp only [V.has];exact a98 (by omega)⟩
 | .agg cs=>by obtain ⟨m,h⟩:=a4n cs;exact ⟨m,fun n hn=>by simp only [V.has];exact h n hn⟩
 | .tup cs=>by obtain ⟨m,h⟩:=a4n cs;exact ⟨m,fun n hn=>by simp only [V.has];exact h n hn⟩
 | .fn _ cs=>by obtain ⟨m,h⟩:=a4n cs;exact ⟨m,fun n hn=>by simp only [V.has];exact h n hn⟩
 | .bool _|.int _ _|.str _|.nils|.nilp|.nilm|.nilf|.nili|.ifc _|.sl _|.smap _ _|.eptr _ _|.adr _ _|.any=>⟨0,fun n _=>by simp [V.has]⟩
theorem a4n:∀cs:List V,∃m,∀n,m≤n→V.hasL n cs=false
 | []=>⟨0,fun n _=>by simp [V.hasL]⟩
 | x::r=>by
  obtain ⟨m1,h1⟩:=b7f x
  obtain ⟨m2,h2⟩:=a4n r
  exact ⟨max m1 m2,fun n hn=>by simp only [V.hasL,h1 n (by omega),h2 n (by omega)];rfl⟩
end
theorem b7h:∀e:List (Nat×V),∃m,∀n,m≤n→a5z n e=true
 | []=>⟨0,fun n _=>rfl⟩
 | (s,x)::r=>by
  obtain ⟨m1,h1⟩:=b7f x
  obtain ⟨m2,h2⟩:=b7h r
  exact ⟨max m1 m2,fun n hn=>by simp [a5z,h1 n (by omega),h2 n (by omega)]⟩
theorem a9x:∀H:Heap,∃m,∀n,m≤n→a0z n H=true∧find n H=none
 | []=>⟨0,fun n _=>⟨rfl,rfl⟩⟩
 | (s,x)::r=>by
  obtain ⟨m2,h2⟩:=a9x r
  have h1:∃m,∀n,m≤n→x.has n=false:=by
   cases x with
   | cells cs t=>obtain ⟨m,h⟩:=a4n cs;exact ⟨m,fun n hn=>by simp only [a0c.has];exact h n hn⟩
   | nmap z k kd es=>exact ⟨z+1,fun n hn=>by simp only [a0c.has];exact a98 (by omega)⟩
   | _=>exact ⟨0,fun n _=>by simp [a0c.has]⟩
  obtain ⟨m1,h1⟩:=h1
  refine ⟨max (max m1 m2) (s+1),fun n hn=>⟨?_,?_⟩⟩
  ·simp [a0z,h1 n (by omega),(h2 n (by omega)).1]
  ·have:Nat.beq n s=false:=by
    cases hb:Nat.beq n s with
    | true=>have:=zR hb;omega
    | false=>rfl
   simp only [find,this,vO];exact (h2 n (by omega)).2
theorem d28 (c:Ctx) (σ:St):∃n,Clean c σ n∧find n σ.heap=none:=by
 obtain ⟨m1,h1⟩:=b7h σ.env
 obtain ⟨m2,h2⟩:=a9x σ.heap
 obtain ⟨m3,h3⟩:=a9x c.H0
 exact ⟨max (max m1 m2) m3,⟨(h3 _ (by omega)).2,h1 _ (by omega),(h2 _ (by omega)).1⟩,(h2 _ (by omega)).2⟩
theorem f9a {k:Nat} {xs:List Opd} (hok:(a06.lsl k xs).ok P o.op=true) (hR:Rel P c g σ a w) {d0:Nat} (h:w9 P (.lsl k xs) d0 (xs.map (·.ev σ.env)) ob K L) (hF:Fin o c g σ a w K L K'):o.wp P a w K' Q':=by
 obtain ⟨d,hcl,hfr⟩:=d28 c σ
 have hok':(a06.bslice k xs false).ok P o.op=true:=by
  cases ho:o.op<;>rw [ho] at hok<;>try (simp [a06.ok] at hok;done)
  exact hok
 have hk:(xs.map (·.ev σ.env)).all (a2z k)=true∧K (evl (.sl (xs.map (·.ev σ.env)))):=by
  unfold w9 at h
  by_cases hb:(xs.map (·.ev σ.env)).all (a2z k)=true
  ·simp only [hb,vQ] at h;exact ⟨hb,h⟩
  ·simp [hb] at h
 refine c0r (K:=fun e=>e=⟨.osl d k 0 (xs.map (·.ev σ.env)).length,[],[(d,.arr k (xs.map (·.ev σ.env)))]⟩) (L:=fun _=>False) (d:=d) (ob:=ob) hok' hR hcl ?_ fun eff he g' v w' h1 h2 h3=>?_
 ·unfold w9;simp only [hk.1,vQ,uvT]
 ·rcases he with rfl|he
  ·obtain ⟨g'',k1,k2⟩:=c06 h1 h3 hfr
   exact hF _ (.inl hk.2) g'' v w' k1 (fun _ _ h=>by simp [evl] at h) k2
  ·exact he.elim
theorem d0u {v:Value} (h:VR g w v .nils):v=.slice none 0 0:=by
 cases h with
 | rd h=>cases h;rfl
theorem e2y {v:Value} {ys:List V} (h:VR g w v (.sl ys)):∃p l q,v=.slice p l q∧(p=none→ys=[]):=by
 cases h with
 | rd h=>cases h<;>exact ⟨_,_,_,rfl,fun h=>by first|rfl|cases h⟩
theorem f9e {ng:Bool} {xs:List Opd} (hok:a15 P (.isn ng) xs o.op=true) (hR:Rel P c g σ a w) {d:Nat}
  (h:a1x (.isn ng) d (xs.map (·.ev σ.env)) ob K L) (hF:Fin o c g σ a w K L K'):o.wp P a w K' Q':=by
 obtain ⟨x,x',b,t,u,na,nb,e,rfl,ho,hx,hbn,hu⟩:∃x x' b t u na nb e,xs=[x]∧o.op=.binOp b t x' (.const (.slice none na nb)) u∧x.ok x'=true∧(b=.eql∧ng=false∨b=.neq∧ng=true)∧P.underlying t=some (.slice e):=by
  cases ho:o.op<;>rw [ho] at hok<;>try (simp [a15] at hok;done)
  rename_i b t x' y' u
  simp only [a15,wG] at hok
  obtain ⟨⟨⟨h1,h2⟩,h3⟩,h4⟩:=hok
  split at h1
  ·split at h3
   ·split at h4
    ·rename_i na nb _ e he
     refine ⟨_,_,_,_,_,na,nb,e,rfl,rfl,h1,?_,he⟩
     split at h2
     ·exact .inl ⟨rfl,by simpa using h2⟩
     ·exact .inr ⟨rfl,h2⟩
     ·cases h2
    ·cases h4
   ·cases h3
  ·cases h1
 have vx:=Opd.vr hR hx
 have run:∀p l q,a.eval x'=.slice p l q→(execOp a.eval o).run P w=.ok (.value (.bool (bif ng then !p.isNone else p.isNone))) w:=fun p l q e=>by
  have h1:=Lib.run_eql_slice_nil (P:=P) w t _ p l q na nb hu
  have ec:a.eval (.const (.slice none na nb))=.slice none na nb:=rfl
  rcases hbn with ⟨rfl,rfl⟩|⟨rfl,rfl⟩
  ·simp [execOp,ho,e,ec,eqGuard_at_slice,h1]
  ·have h2:(binOp .neq t (.slice p l q) (.slice none na nb)).run P w=.ok (.bool (!p.isNone)) w:=by
    have h3:(Op.equal t (.slice p l q) (.slice none na nb)).run P w=.ok p.isNone w:=by
     have h1':=h1
     simp only [binOp,vB,vA] at h1'
     cases hq:(Op.equal t (.slice p l q) (.slice none na nb)).run P w<;>rw [hq] at h1'<;>simp [Result.andThen] at h1'
     obtain ⟨rfl,rfl⟩:=h1';rfl
    simp [binOp,h3]
   simp [execOp,ho,e,ec,eqGuard_at_slice,h2]
 simp only [w5,vH,a1x] at h
 have fin:∀b:Bool,(execOp a.eval o).run P w=.ok (.value (.bool b)) w→L (evl (.bool b))→o.wp P a w K' Q':=fun b hr hl=>a09 hR hF hr (.inr hl) (.rd (.bool b))
 split at h
 ·rename_i hev
  rw [hev] at vx
  refine fin _ (run _ _ _ (d0u vx)) ?_
  cases ng<;>exact h
 ·rename_i ys hev
  rw [hev] at vx
  obtain ⟨p,l,q,e,hp⟩:=e2y vx
  refine fin _ (run _ _ _ e) ?_
  cases p with
  | none=>have:=h.1 (hp rfl);cases ng<;>exact this
  | some p=>have:=h.2;cases ng<;>exact this
 ·rename_i i1 i2 i3 n hev
  rw [hev] at vx
  obtain ⟨p,l,q,e,hp⟩:=d6p vx
  refine fin _ (run _ _ _ e) ?_
  cases p with
  | none=>have:=h.1 (hp rfl);cases ng<;>exact this
  | some p=>have:=h.2;cases ng<;>exact this
 ·exact h.elim
theorem f8t {i:Nat} {xs:List Opd} (hok:a15 P (.tab i) xs o.op=true) (hR:Rel P c g σ a w) {d:Nat}
  (h:a1x (.tab i) d (xs.map (·.ev σ.env)) ob K L) (hF:Fin o c g σ a w K L K'):o.wp P a w K' Q':=by
 obtain ⟨t,q,dd,rfl,ho,hdd,hg,ht⟩:∃t q dd,xs=[]∧o.op=.load t (.global q)∧b8w[i]?=some dd∧P.globalNamed dd.1=some q∧c2h P t=some (some dd.2.2.length):=by
  cases ho:o.op<;>rw [ho] at hok<;>try (simp [a15] at hok;done)
  rename_i t y
  cases y<;>try (simp [a15] at hok;done)
  rename_i q
  simp only [a15,wG] at hok
  obtain ⟨h1,h2⟩:=hok
  split at h1
  ·split at h2
   ·rename_i dd hdd
    simp only [wG,xO] at h2
    exact ⟨t,q,dd,rfl,rfl,hdd,h2.1,h2.2⟩
   ·cases h2
  ·cases h1
 simp only [vH] at h
 have h':K (evl (.agg (dd.2.2.map (V.int dd.2.1)))):=by
  unfold a1x at h
  simp only [hdd] at h
  exact h
 have htab:∀w',a1o g.S w w'→Lib.TabIs P w' dd.1 dd.2.1 dd.2.2:=fun w' hk=>(hR.hp.tabs w' hk).1 dd (xB hdd) (by rw [hg];rfl)
 have h0:=htab w fun _ _=>rfl
 unfold Lib.TabIs World.var? at h0
 rw [hg] at h0
 simp only [xZ] at h0
 split at h0
 case h_2=>cases h0
 rename_i cs e fz hcs
 have hcs':cs=(dd.2.2.map fun z=>Value.int dd.2.1 z).toArray:=wJ h0
 subst hcs'
 have hrng:∀z∈dd.2.2,inR dd.2.1 z:=by
  have:∀d∈b8w,∀z∈d.2.2,inR d.2.1 z:=by
   intro d hd
   simp only [b8w,w4,List.not_mem_nil,or_false] at hd
   rcases hd with rfl|rfl|rfl<;>simp [inR,IntKind.min,IntKind.max,IntKind.signed,IntKind.bits]
  exact this dd (xB hdd)
 obtain ⟨u,z,hrun,hz,hv⟩:=a1i (P:=P) (g:=g) (w:=w) ht (o':=0) (off:=0) (cs:=dd.2.2.map (V.int dd.2.1)) (Kp:=fun x=>x=V.agg (dd.2.2.map (V.int dd.2.1))) hcs (by simp) (fun j x hj=>by
  rw [xS] at hj
  cases hz:dd.2.2[j]? with
  | none=>rw [hz] at hj;cases hj
  | some n =>
   rw [hz] at hj;cases hj
   have hlt:=(zG.1 hz).1
   have e1:((dd.2.2.map fun z=>Value.int dd.2.1 z).toArray.getD (0+j) undef)=.int dd.2.1 n:=by
    simp [zC,hlt,(zG.1 hz).2]
   rw [e1]
   exact .rd (.int _ _ (hrng n (xB hz)))) (by
  simp only [part,wP]
  have:Nat.ble (0+dd.2.2.length) dd.2.2.length=true:=by simp
  rw [this]
  simp only [vQ,wW]
  rw [←wP (f:=V.int dd.2.1),wA])
 subst hz
 refine a09 hR hF (v:=u) ?_ (.inl h') hv
 have ec:a.eval (.global q)=.pointer (some ⟨q,0,none⟩):=rfl
 simp [execOp,ho,Instr.loadAt,ec,Instr.sureAddr] at hrun ⊢
 simp [hrun]
theorem f9n {kd:KD} {xs:List Opd} (hok:a15 P (.del kd) xs o.op=true) (hR:Rel P c g σ a w) (hob:∀id o,ob id=some o→find id σ.heap=some o) {d:Nat}
  (h:a1x (.del kd) d (xs.map (·.ev σ.env)) ob K L) (hF:Fin o c g σ a w K L K'):o.wp P a w K' Q':=by
 obtain ⟨x,k,cl,t,t2,x',k',rfl,ho,hcl,hargs,hts,hx,hk,hm⟩:∃x k cl t t2 x' k',xs=[x,k]∧o.op=.call cl∧cl.callee=.builtin .delete∧cl.args=#[x',k']∧cl.argTypes=#[t,t2]∧x.ok x'=true∧k.ok k'=true∧isMap P t (some kd) none=true:=by
  cases ho:o.op<;>rw [ho] at hok<;>try (simp [a15] at hok;done)
  rename_i cl
  obtain ⟨callee,args,ts⟩:=cl
  cases callee<;>try (simp [a15] at hok;done)
  rename_i b
  cases b<;>try (simp [a15] at hok;done)
  simp only [a15] at hok
  split at hok
  ·rename_i xx k x' k' t t2 he1 he2
   simp only [wG] at hok
   exact ⟨xx,k,_,t,t2,x',k',rfl,rfl,rfl,wH.1 (by simpa using he1),wH.1 (by simpa using he2),hok.1.1,hok.1.2,hok.2⟩
  ·cases hok
 obtain ⟨kt,et,hu,hkd,_⟩:=a4m hm
 have hd:=hkd kd rfl
 have vx:=Opd.vr hR hx
 have vk:=Opd.vr hR hk
 simp only [w5,vH] at h
 unfold a1x at h
 split at h<;>try (rename_i heq;simp at heq;done)
 all_goals try (rename_i e1 e2;cases e1;done)
 case h_14=>exact h.elim
 rename_i kd1 id k1 e1 e2
 cases e1
 simp only [wR,and_true] at e2
 obtain ⟨e2,e3⟩:=e2
 rw [e2] at vx
 subst e3
 split at h
 case h_2=>exact h.elim
 rename_i kd' es hobj
 cases hkk:kd.is (k.ev σ.env)&&kd'.is (k.ev σ.env) with
 | false=>rw [hkk] at h;exact h.elim
 | true =>
  rw [hkk] at h
  simp only [wG] at hkk
  obtain ⟨hk1,hk2⟩:=hkk
  have:=KD.same hk1 hk2;subst this
  have hfd:=hob _ _ hobj
  obtain ⟨hnn,ents,clock,hb,he,hb1,hb2⟩:=hR.hp.obj _ _ hfd
  have hrk:=vk.sc_rd (KD.sc hk1)
  have hck:=fun e=>a2e (w:=w) hd hk1 hrk e
  have hxe:=vx.omap_inv
  have hlt:g.ρ id<w.heap.size:=(zF.1 hb).1
  have fin:∀ents',(Builtin.delete_ #[t,t2] o.type #[a.eval x',a.eval k']).run P w=.ok (.tuple #[]) { w with heap:=w.heap.setIfInBounds (g.ρ id) (.map ents' clock) } →
    (∀w':World,a1o g.S w w'→b3q g.S w' kd ents'.toList (c3o (k.ev σ.env) es))→(∀ent∈ents'.toList,ent.born<clock)→(ents'.toList.map (·.born)).Nodup→o.wp P a w K' Q':=by
   intro ents' hrun q1 q2 q3
   have hother:∀b,b≠g.ρ id→(w.heap.setIfInBounds (g.ρ id) (.map ents' clock))[b]?=w.heap[b]?:=fun b hb=>by simp [Ne.symm hb]
   have hkeep:a1o g.S w { w with heap:=w.heap.setIfInBounds (g.ρ id) (.map ents' clock) }:=a1o.upd hR.hp hfd hnn hother
   refine Fin.mk' hF h (v:=.tuple #[]) (w':={ w with heap:=w.heap.setIfInBounds (g.ρ id) (.map ents' clock) }) ?_ (a07.upd _ id _ _ hR.hp hfd hnn rfl rfl rfl (by simp) hother ?_) (a0v.upd _) (.tup _ _ rfl fun i c hc=>by simp at hc)
   ·simp [execOp,ho,resolve,hcl,hargs,hts,invoke,builtin,hrun]
   ·exact ⟨hnn,ents',clock,by simp [hlt],q1 _ hkeep,q2,q3⟩
  rcases a6f hk1 hrk 0 he with ⟨h1,_,_,h4,h5⟩|⟨j,e,kv,h1,h2,h3,h4,_,_,h7⟩
  ·have hfk:(Instr.findKey kt (a.eval k') ents.toList).run P w=.ok none w:=MapKept.run_findKey hd h1
   refine fin ents ?_ (fun w' hw=>by rw [h4];exact he.mono hw fun _ h=>h) hb1 hb2
   rw [hxe]
   simp [Builtin.delete_,run_underlying hu,MapKept.run_getObj_map hb,hck,hfk,MapKept.run_setObj_map _ hb,Result.andThen]
  ·have hfk:(Instr.findKey kt (a.eval k') ents.toList).run P w=.ok (some (0+j,e.val)) w:=MapKept.run_findKey hd h1
   have hjl:j<ents.size:=by simpa using (zG.1 h2).1
   have htl:(ents.eraseIdxIfInBounds j).toList=ents.toList.eraseIdx j:=by
    unfold Array.eraseIdxIfInBounds
    rw [dif_pos hjl,Array.toList_eraseIdx]
   refine fin (ents.eraseIdxIfInBounds j) ?_ (fun w' hw=>by rw [h7,htl];exact (he.mono hw fun _ h=>h).erase j) (fun ent hm=>?_) ?_
   ·rw [hxe]
    simp only [vC] at hfk
    simp [Builtin.delete_,run_underlying hu,MapKept.run_getObj_map hb,hck,hfk,MapKept.run_setObj_map _ hb,Result.andThen]
   ·rw [htl] at hm;exact hb1 ent (List.mem_of_mem_eraseIdx hm)
   ·rw [htl];exact ((List.eraseIdx_sublist _ _).map _).nodup hb2
theorem e3f {xs:List Opd} (hok:a15 P .len xs o.op=true) (hR:Rel P c g σ a w) (hob:∀id o,ob id=some o→find id σ.heap=some o) {d:Nat}
  (h:a1x .len d (xs.map (·.ev σ.env)) ob K L) (hF:Fin o c g σ a w K L K'):o.wp P a w K' Q':=by
 obtain ⟨x,cl,t,x',rfl,ho,hcl,hargs,hts,hx,hm⟩:∃x cl t x',xs=[x]∧o.op=.call cl∧cl.callee=.builtin .len∧cl.args=#[x']∧cl.argTypes=#[t]∧x.ok x'=true∧isMap P t none none=true:=by
  cases ho:o.op<;>rw [ho] at hok<;>try (simp [a15] at hok;done)
  rename_i cl
  obtain ⟨callee,args,ts⟩:=cl
  cases callee<;>try (simp [a15] at hok;done)
  rename_i b
  cases b<;>try (simp [a15] at hok;done)
  simp only [a15] at hok
  split at hok
  ·rename_i xx x' t he1 he2
   simp only [wG] at hok
   exact ⟨xx,_,t,x',rfl,rfl,rfl,wH.1 (by simpa using he1),wH.1 (by simpa using he2),hok.1,hok.2⟩
  ·cases hok
 obtain ⟨kt,et,hu,_,_⟩:=a4m hm
 have vx:=Opd.vr hR hx
 simp only [a1x,w5,vH] at h
 have fin:∀(n:Nat),(Builtin.len_ #[t] o.type #[a.eval x']).run P w=.ok (goInt n) w→(n:Int)≤9223372036854775807→K (evl (.int .i64 n))→o.wp P a w K' Q':=by
  intro n hrun hm hk
  refine a09 hR hF (v:=goInt n) ?_ (.inl hk) (.rd (.int _ _ ?_))
  ·simp [execOp,ho,resolve,hcl,hargs,hts,invoke,builtin,hrun]
  ·rw [a1a];simp only [rng];omega
 split at h
 ·rename_i hc
  rw [hc] at vx
  exact fin 0 (by simp [vx.nilm_inv,Builtin.len_,run_underlying hu]) (by omega) h
 ·rename_i x0 hne
  obtain ⟨b,kd',es,ents,clock,e1,hb,he,hK⟩:=b72 hR.hp hob vx h
  refine fin es.length ?_ hK.1 hK.2
  have hl:ents.size=es.length:=by simpa using he.len
  simp [e1,Builtin.len_,run_underlying hu,MapKept.run_getObj_map hb,hl]
theorem f8v {xs:List Opd} (hok:a15 P .rng xs o.op=true) (hR:Rel P c g σ a w) {d:Nat} (hcl:Clean c σ d)
  (h:a1x .rng d (xs.map (·.ev σ.env)) ob K L) (hF:Fin o c g σ a w K L K'):o.wp P a w K' Q':=by
 obtain ⟨x,t,x',rfl,ho,hx,hm⟩:∃x t x',xs=[x]∧o.op=.range t x'∧x.ok x'=true∧isMap P t none none=true:=by
  cases ho:o.op<;>rw [ho] at hok<;>try (simp [a15] at hok;done)
  simp only [a15,wG] at hok
  obtain ⟨h1,h3⟩:=hok
  split at h1
  ·exact ⟨_,_,_,rfl,rfl,h1,h3⟩
  ·cases h1
 obtain ⟨kt,et,hu,_,_⟩:=a4m hm
 have vx:=Opd.vr hR hx
 simp only [a1x,w5,vH] at h
 have fin:∀(it:Obj) (es:List (V×V)),(Instr.range t (a.eval x')).run P w=.ok (.pointer (some ⟨w.heap.size,0,none⟩)) (w.alloc it)→K ⟨.ptr d 0,[],[(d,.iter es none)]⟩ →
   (∀w':World,a1o g.S w w'→w'.heap[w.heap.size]?=some it→b8l g.S w' w.heap.size es none)→o.wp P a w K' Q':=by
  intro it es hrun hk q
  have hh:(w.alloc it).heap=w.heap.push it:=rfl
  have e1:(g.set d w.heap.size 0 0).ρ d=w.heap.size:=by simp [Gh.set]
  have e4:¬(g.set d w.heap.size 0 0).nil d:=by simp [Gh.set]
  refine Fin.mk' hF hk (v:=.pointer (some ⟨w.heap.size,0,none⟩)) (w':=w.alloc it) ?_ (a07.alloc _ d 0 0 _ it hR.hp.lt rfl rfl rfl hh ?_) (a0v.of_clean hcl) ?_
  ·simp [execOp,ho,hrun]
  ·refine ⟨e4,?_⟩
   rw [e1]
   exact q _ (a1o.push hR.hp.lt hh) (by rw [hh];simp)
  ·have:=VR.ptr (g:=g.set d w.heap.size 0 0) (w:=w.alloc it) d 0
   rw [e1] at this
   exact this
 split at h
 ·rename_i hc
  rw [hc] at vx
  exact fin (.mapIter none 0 #[] 0) [] (by rw [vx.nilm_inv];simp [Instr.range,run_underlying hu]) h fun w' _ hw=>.inl ⟨_,_,_,hw,rfl,rfl⟩
 ·rename_i kd es hc
  rw [hc] at vx
  generalize hev:a.eval x'=ev at vx
  cases vx with
  | rd hr =>
   cases hr with
   | smap b _ ents clock _ hS hg hl hk hb hn hr1 hr2 =>
    refine fin (.mapIter (some b) clock #[] clock) es ?_ h fun w' hk' hw=>?_
    ·rw [hev];exact run_range_map w t kt et b ents clock hu hg
    ·have hf:(ents.toList.filter fun e=>!(#[]:Array Nat).contains e.born)=ents.toList:=List.filter_eq_self.2 fun x _=>by simp
     refine .inr ⟨b,clock,#[],ents,hw,hS,(hk' b hS).trans hg,hb,hn,by rw [hf];simpa using hl,fun i ent kv hi hj=>?_,fun kv h=>by cases h⟩
     rw [hf] at hi
     exact ⟨(hr1 i ent kv (by simpa using hi) hj).mono hk' fun _ h=>h,(hr2 i ent kv (by simpa using hi) hj).mono hk' fun _ h=>h⟩
 ·exact h.elim
theorem f8w {xs:List Opd} (hok:a15 P .nxt xs o.op=true) (hR:Rel P c g σ a w) (hob:∀id o,ob id=some o→find id σ.heap=some o) {d:Nat}
  (h:a1x .nxt d (xs.map (·.ev σ.env)) ob K L) (hF:Fin o c g σ a w K L K'):o.wp P a w K' Q':=by
 obtain ⟨x,x',rfl,ho,hx⟩:∃x x',xs=[x]∧o.op=.next x' false∧x.ok x'=true:=by
  cases ho:o.op<;>rw [ho] at hok<;>try (simp [a15] at hok;done)
  simp only [a15,wG,xX] at hok
  obtain ⟨h1,h3⟩:=hok
  subst h3
  split at h1
  ·exact ⟨_,_,rfl,rfl,h1⟩
  ·cases h1
 have vx:=Opd.vr hR hx
 simp only [w5,vH] at h
 unfold a1x at h
 split at h<;>try (rename_i heq;simp at heq;done)
 all_goals try (rename_i e1 e2;cases e1;done)
 case h_14=>exact h.elim
 rename_i id e1 e2
 simp only [wR,and_true] at e2
 rw [e2] at vx
 split at h
 case h_2=>exact h.elim
 rename_i rem cur hobj
 obtain ⟨hk1,hk2⟩:=h
 have hfd:=hob _ _ hobj
 obtain ⟨hnn,hit⟩:=hR.hp.obj _ _ hfd
 have hxe:=vx.ptr_inv
 rcases hit with ⟨q1,q2,q3,hb,rfl,_⟩|⟨m,clock,seen,ents,hb,hS,hm,hold,hnd,hl,hrd,_⟩
 ·refine Fin.mk'L hF (hk1 rfl) (v:=.tuple #[.bool false]) (w':=w) ?_ (a07.upd _ id _ _ hR.hp hfd hnn rfl rfl rfl rfl (fun _ _=>rfl) ⟨hnn,.inl ⟨_,_,_,hb,rfl,rfl⟩⟩) (a0v.upd _) ?_
  ·have:=b6o (P:=P) (ty:=o.type) hb
   simp [execOp,ho,hxe,this]
  ·refine .tup _ _ rfl fun i c hc=>?_
   match i,hc with
   | 0,hc=>simp at hc;subst hc;exact .rd (.bool _)
   | n+1,hc=>simp at hc
 ·rcases d00 (P:=P) (ty:=o.type) hb hm hold with ⟨h0,hrun⟩|⟨i,e,w1,hi,p1,p2,p3,p4,hrun⟩
  ·have hr0:rem=[]:=zB (by rw [←hl,h0];rfl)
   subst hr0
   refine Fin.mk'L hF (hk1 rfl) (v:=.tuple #[.bool false]) (w':=w) ?_ (a07.upd _ id _ _ hR.hp hfd hnn rfl rfl rfl rfl (fun _ _=>rfl) ⟨hnn,.inr ⟨m,clock,seen,ents,hb,hS,hm,hold,hnd,hl,hrd,fun kv h=>by cases h⟩⟩) (a0v.upd _) ?_
   ·simp [execOp,ho,hxe,hrun]
   ·refine .tup _ _ rfl fun i c hc=>?_
    match i,hc with
    | 0,hc=>simp at hc;subst hc;exact .rd (.bool _)
    | n+1,hc=>simp at hc
  ·have hlt:i<rem.length:=by rw [←hl];exact (zG.1 hi).1
   have hkv:rem[i]?=some rem[i]:=zJ hlt
   obtain ⟨r1,r2⟩:=hrd i e _ hi hkv
   have hother:∀b,b≠g.ρ id→(w1.heap.setIfInBounds (g.ρ id) (.mapIter (some m) clock (seen.push e.born) clock))[b]?=w.heap[b]?:=fun b hb=>by rw [p1];simp [Ne.symm hb]
   have hkeep:a1o g.S w { w1 with heap:=w1.heap.setIfInBounds (g.ρ id) (.mapIter (some m) clock (seen.push e.born) clock) }:=a1o.upd hR.hp hfd hnn hother
   have hlt2:g.ρ id<w.heap.size:=(zF.1 hb).1
   refine Fin.mk'L hF (hk2 i _ hkv) (v:=.tuple #[.bool true,e.key,e.val]) (w':={ w1 with heap:=w1.heap.setIfInBounds (g.ρ id) (.mapIter (some m) clock (seen.push e.born) clock) }) ?_
    (a07.upd _ id _ _ hR.hp hfd hnn p2 p4 p3 (by simp [p1]) hother ⟨hnn,.inr ⟨m,clock,seen.push e.born,ents,by simp [p1,hlt2],hS,(hkeep m hS).trans hm,hold,hnd,?_,?_,?_⟩⟩) (a0v.upd _) ?_
   ·simp [execOp,ho,hxe,hrun]
   ·rw [b77 hnd hi,List.length_eraseIdx,List.length_eraseIdx,hl]
   ·intro j ent kv hj hq
    rw [b77 hnd hi,List.getElem?_eraseIdx] at hj
    rw [List.getElem?_eraseIdx] at hq
    split at hj
    ·rename_i hlt;rw [if_pos hlt] at hq
     exact ⟨(hrd j ent kv hj hq).1.mono hkeep fun _ h=>h,(hrd j ent kv hj hq).2.mono hkeep fun _ h=>h⟩
    ·rename_i hlt;rw [if_neg hlt] at hq
     exact ⟨(hrd (j+1) ent kv hj hq).1.mono hkeep fun _ h=>h,(hrd (j+1) ent kv hj hq).2.mono hkeep fun _ h=>h⟩
   ·intro kv hc
    cases hc
    exact ⟨e,(wM.1 (xB hi)).1,by simp,r1.mono hkeep fun _ h=>h,r2.mono hkeep fun _ h=>h⟩
   ·refine .tup _ _ rfl fun j c hc=>?_
    match j,hc with
    | 0,hc=>simp at hc;subst hc;exact .rd (.bool _)
    | 1,hc=>simp at hc;subst hc;exact .rd (r1.mono hkeep fun _ h=>h)
    | 2,hc=>simp at hc;subst hc;exact .rd (r2.mono hkeep fun _ h=>h)
    | n+3,hc=>simp at hc
theorem f9m {xs:List Opd} (hok:a15 P .ent xs o.op=true) (hR:Rel P c g σ a w) (hob:∀id o,ob id=some o→find id σ.heap=some o) {d:Nat}
  (h:a1x .ent d (xs.map (·.ev σ.env)) ob K L) (hF:Fin o c g σ a w K L K'):o.wp P a w K' Q':=by
 obtain ⟨x,x',rfl,ho,hx⟩:∃x x',xs=[x]∧o.op=.entry x'∧x.ok x'=true:=by
  cases ho:o.op<;>rw [ho] at hok<;>try (simp [a15] at hok;done)
  simp only [a15] at hok
  split at hok
  ·exact ⟨_,_,rfl,rfl,hok⟩
  ·cases hok
 have vx:=Opd.vr hR hx
 simp only [w5,vH] at h
 unfold a1x at h
 split at h<;>try (rename_i heq;simp at heq;done)
 all_goals try (rename_i e1 e2;cases e1;done)
 case h_14=>exact h.elim
 rename_i id e1 e2
 simp only [wR,and_true] at e2
 rw [e2] at vx
 split at h
 case h_2=>exact h.elim
 rename_i rem e hobj
 have hfd:=hob _ _ hobj
 obtain ⟨hnn,hit⟩:=hR.hp.obj _ _ hfd
 have hxe:=vx.ptr_inv
 rcases hit with ⟨q1,q2,q3,hb,_,hc⟩|⟨m,clock,seen,ents,hb,hS,hm,hold,hnd,hl,hrd,hcur⟩
 ·cases hc
 ·obtain ⟨ent,h1,h2,h3,h4⟩:=hcur e rfl
  have hf:ents.find? (·.born==ent.born)=some ent:=by rw [←Array.find?_toList];exact find_born ent ents.toList hnd h1
  have hrun:(Instr.entry (.pointer (some ⟨g.ρ id,0,none⟩))).run P w=.ok (.tuple #[ent.key,ent.val]) w:=by
   simp only [Instr.entry,getObj,vB,Sem.run,hb,hm,Result.andThen,h2,bne_self_eq_false,xN,if_false,hf]
   rfl
  refine a09 hR hF (v:=.tuple #[ent.key,ent.val]) ?_ (.inl h) ?_
  ·simp [execOp,ho,hxe,hrun]
  ·refine .tup _ _ rfl fun j c hc=>?_
   match j,hc with
   | 0,hc=>simp at hc;subst hc;exact .rd h3
   | 1,hc=>simp at hc;subst hc;exact .rd h4
   | n+2,hc=>simp at hc
theorem VR.ifc_inv {v:Value} {b:Bool} (h:VR g w v (.ifc b)):(v=.nilIface∧b=true)∨∃t p,v=.iface t p∧b=false:=by
 cases h with
 | rd h=>cases h with
  | ifcn=>exact .inl ⟨rfl,rfl⟩
  | ifcs t p=>exact .inr ⟨t,p,rfl,rfl⟩
theorem f9f {ng:Bool} {xs:List Opd} (hok:a15 P (.ifz ng) xs o.op=true) (hR:Rel P c g σ a w) {d:Nat}
  (h:a1x (.ifz ng) d (xs.map (·.ev σ.env)) ob K L) (hF:Fin o c g σ a w K L K'):o.wp P a w K' Q':=by
 obtain ⟨x,x',b,t,u,ms,rfl,ho,hx,hbn,hu⟩:∃x x' b t u ms,xs=[x]∧o.op=.binOp b t x' (.const .nilIface) u∧x.ok x'=true∧(b=.eql∧ng=false∨b=.neq∧ng=true)∧P.underlying t=some (.interface ms):=by
  cases ho:o.op<;>rw [ho] at hok<;>try (simp [a15] at hok;done)
  rename_i b t x' y' u
  simp only [a15,wG] at hok
  obtain ⟨⟨⟨h1,h2⟩,h3⟩,h4⟩:=hok
  split at h1
  ·split at h3
   ·split at h4
    ·rename_i ms he
     refine ⟨_,_,_,_,_,ms,rfl,rfl,h1,?_,he⟩
     split at h2
     ·exact .inl ⟨rfl,by simpa using h2⟩
     ·exact .inr ⟨rfl,h2⟩
     ·cases h2
    ·cases h4
   ·cases h3
  ·cases h1
 have vx:=Opd.vr hR hx
 have hm:P.underlying t=some (.interface (P.methodsAt t)):=by
  rw [hu];simp [Program.methodsAt,hu]
 simp only [w5,vH] at h
 unfold a1x at h
 split at h<;>try (rename_i heq;simp at heq;done)
 all_goals try (rename_i e1 e2;cases e1;done)
 case h_14=>exact h.elim
 rename_i ng' b' e1 e2
 cases e1
 simp only [wR,and_true] at e2
 rw [e2] at vx
 have ec:a.eval (.const .nilIface)=.nilIface:=rfl
 rcases vx.ifc_inv with ⟨hv,rfl⟩|⟨tt,p,hv,rfl⟩
 ·rcases hbn with ⟨rfl,rfl⟩|⟨rfl,rfl⟩
  ·refine a09 hR hF (v:=.bool true) ?_ (.inl h) (.rd (.bool _))
   simp [execOp,ho,hv,ec,eqGuard,run_eql_nil_nil _ t hm]
  ·refine a09 hR hF (v:=.bool false) ?_ (.inl h) (.rd (.bool _))
   simp [execOp,ho,hv,ec,eqGuard,run_neq_nil_nil _ t hm]
 ·rcases hbn with ⟨rfl,rfl⟩|⟨rfl,rfl⟩
  ·refine a09 hR hF (v:=.bool false) ?_ (.inl h) (.rd (.bool _))
   simp [execOp,ho,hv,ec,eqGuard,run_eql_held_nil _ t tt p hm]
  ·refine a09 hR hF (v:=.bool true) ?_ (.inl h) (.rd (.bool _))
   simp [execOp,ho,hv,ec,eqGuard,run_neq_held_nil _ t tt p hm]
theorem a07.congrH {H H':Heap} {e:Eff} {g':Gh} {w':World} (h:a07 g H w e g' w') (hd:∀i o,find i H=some o→∃o',find i H'=some o') (hd':∀i o,find i H'=some o→∃o',find i H=some o'):a07 g H' w e g' w':=by
 refine ⟨h.os,h.tape,h.output,h.size,fun b hb hn=>h.keep b hb fun i o hi ho=>?_,h.sup,fun b hb=>?_,h.slt,h.agree,h.obj,fun i o hi hn=>?_,h.inj,h.sep⟩
 ·obtain ⟨o',ho'⟩:=hd i o ho
  exact hn i o' hi ho'
 ·rcases h.sub b hb with h1|h1|⟨i,o,h1,h2,h3⟩
  ·exact .inl h1
  ·exact .inr (.inl h1)
  ·obtain ⟨o',ho'⟩:=hd i o h2
   exact .inr (.inr ⟨i,o',h1,ho',h3⟩)
 ·rcases h.blk i o hi hn with h1|⟨j,o1,h1,h2,h3⟩
  ·exact .inl h1
  ·obtain ⟨o',ho'⟩:=hd j o1 h2
   exact .inr ⟨j,o',h1,ho',h3⟩
theorem Rel.cutR {id k m:Nat} {xs:List V} {t:Option TypeId} (h:Rel P c g σ a w) (hf:find id σ.heap=some (.arr k xs t)):Rel P c g ⟨σ.env,Go.Ab.put id (.arr k (xs.take m) t) σ.heap⟩ a w:=by
 have dom:∀n o,find n (Go.Ab.put id (.arr k (xs.take m) t) σ.heap)=some o→∃o',find n σ.heap=some o':=fun n o hn=>by
  rw [a0s] at hn
  split at hn
  ·rename_i e;subst e;exact ⟨_,hf⟩
  ·exact ⟨_,hn⟩
 refine ⟨h.size,h.dfr,h.env,⟨fun n o hn=>?_,fun i j o o' hi hj=>?_,fun n o hn=>?_,h.hp.lt,h.hp.tabs⟩,⟨h.fr.os,h.fr.tape,h.fr.output,h.fr.size,h.fr.old,fun n o hn=>?_,h.fr.sup,h.fr.sub,h.fr.par⟩⟩
 ·rw [a0s] at hn
  split at hn
  ·rename_i e;subst e;cases hn
   rcases h.hp.obj _ _ hf with ⟨h1,rfl⟩|⟨h1,k1,⟨cur,e,fz,h2,h3,h4,h5⟩,h6,h7,h8⟩
   ·exact .inl ⟨h1,by simp⟩
   ·refine .inr ⟨h1,k1,⟨cur,e,fz,h2,h3,h4,fun i j x y hx hy=>h5 i j x y ?_ hy⟩,?_,h7,fun x hx=>h8 x (List.mem_of_mem_take hx)⟩
    ·rw [xL] at hx
     split at hx
     ·exact hx
     ·cases hx
    ·rw [wB];omega
  ·exact h.hp.obj n o hn
 ·obtain ⟨o1,h1⟩:=dom i o hi
  obtain ⟨o2,h2⟩:=dom j o' hj
  exact h.hp.inj i j o1 o2 h1 h2
 ·obtain ⟨o1,h1⟩:=dom n o hn
  exact h.hp.sep n o1 h1
 ·obtain ⟨o1,h1⟩:=dom n o hn
  exact h.fr.own n o1 h1
theorem f9r {q bytes:Nat} {xs:List Opd} (hok:a15 P (.apc q bytes) xs o.op=true) (hR:Rel P c g σ a w) (hob:∀id o,ob id=some o→find id σ.heap=some o) {d:Nat} (hcl:Clean c σ d)
  (h:a1x (.apc q bytes) d (xs.map (·.ev σ.env)) ob K L) (hF:Fin o c g σ a w K L K'):o.wp P a w K' Q':=by
 obtain ⟨x,y,rfl,hok2⟩:∃x y,xs=[x,y]∧(a06.app q bytes x y none).ok P o.op=true:=by
  cases ho:o.op<;>rw [ho] at hok<;>try (simp [a15] at hok;done)
  rename_i cl
  obtain ⟨callee,args,ts⟩:=cl
  cases callee<;>try (simp [a15] at hok;done)
  rename_i b
  cases b<;>try (simp [a15] at hok;done)
  simp only [a15] at hok
  split at hok
  ·rename_i u v t t' he het
   exact ⟨_,_,rfl,by simp only [a06.ok,he,het];exact hok⟩
  ·cases hok
 simp only [w5,vH] at h
 unfold a1x at h
 split at h<;>try (rename_i heq;simp at heq;done)
 all_goals try (rename_i e1 e2;cases e1;done)
 case h_14=>exact h.elim
 rename_i q' bytes' id k' lo n y' e1 e2
 cases e1
 simp only [wR,and_true] at e2
 obtain ⟨e2,e3⟩:=e2
 subst e3
 split at h
 case h_2=>exact h.elim
 rename_i ys hsrc
 obtain ⟨hvl,h⟩:=h
 split at h
 case h_2=>exact h.elim
 rename_i k'' zs t0 hobj
 cases hkk:Nat.beq q k'&&Nat.beq q k''&&!(y.ev σ.env).has id with
 | false=>rw [hkk] at h;exact h.elim
 | true =>
 rw [hkk] at h
 simp only [wG,xX] at hkk
 obtain ⟨⟨hk1,hk2⟩,hyn⟩:=hkk
 have:=zR hk1;subst this
 have:=zR hk2;subst this
 obtain ⟨⟨hrm,hye⟩,hK⟩:=h
 obtain ⟨hlo,hbd⟩:=b6r.1 hrm
 rw [show ((zs.drop lo).take n++ys).length=n+ys.length by simp;omega] at hK
 have hfd:=hob _ _ hobj
 have hR':=hR.cutR (m:=lo+n) hfd
 have dom1:∀i o',find i (Go.Ab.put id (.arr q (zs.take (lo+n)) t0) σ.heap)=some o'→∃o1,find i σ.heap=some o1:=fun i o' hi=>by
  rw [a0s] at hi
  split at hi
  ·rename_i e;subst e;exact ⟨_,hfd⟩
  ·exact ⟨_,hi⟩
 have dom2:∀i o',find i σ.heap=some o'→∃o1,find i (Go.Ab.put id (.arr q (zs.take (lo+n)) t0) σ.heap)=some o1:=fun i o' hi=>by
  rw [a0s]
  split
  ·exact ⟨_,rfl⟩
  ·exact ⟨_,hi⟩
 have hsrc':a5l q (y.ev σ.env) (fun i=>find i (Go.Ab.put id (.arr q (zs.take (lo+n)) t0) σ.heap))=some ys:=by
  cases hy:y.ev σ.env with
  | osl j k2 l2 n2 =>
   rw [hy] at hsrc hyn
   have hj:j≠id:=fun e=>by subst e;simp [V.has,vE] at hyn
   simp only [a5l] at hsrc ⊢
   split at hsrc
   ·rename_i k3 ys3 t3 hoj
    have:=hob _ _ hoj
    simp only [a0s,hj,if_false,this];exact hsrc
   ·cases hsrc
  | _=>rw [hy] at hsrc;exact hsrc
 have hcl':Clean c ⟨σ.env,Go.Ab.put id (.arr q (zs.take (lo+n)) t0) σ.heap⟩ d:=by
  refine ⟨hcl.1,hcl.2.1,?_⟩
  have:∀{H:Heap},a0z d H=true→a0z d (Go.Ab.put id (.arr q (zs.take (lo+n)) t0) H)=true:=by
   intro H
   induction H with
   | nil=>intro _;simp [Go.Ab.put,a0z,a0c.has]
   | cons p r ih =>
    obtain ⟨m,x⟩:=p
    intro hh
    simp only [a0z,wG] at hh
    simp only [Go.Ab.put]
    cases Nat.beq id m with
    | true=>simp [a0z,a0c.has,hh.2]
    | false=>simp only [vO,a0z,wG];exact ⟨hh.1,ih hh.2⟩
  exact this hcl.2.2
 have hdl:(zs.take (lo+n)).drop lo=(zs.drop lo).take n:=by rw [List.drop_take];congr 1;omega
 refine e3k (σ:=⟨σ.env,Go.Ab.put id (.arr q (zs.take (lo+n)) t0) σ.heap⟩) (K:=fun e=>e=⟨.osl d q 0 (n+ys.length),[id],[(d,.arr q ((zs.drop lo).take n++ys))]⟩) (L:=fun _=>False) hok2 hR' (ob:=fun i=>find i (Go.Ab.put id (.arr q (zs.take (lo+n)) t0) σ.heap)) (fun _ _ h=>h) hcl' ?_ ?_
 ·simp only [w9,c0t,hsrc']
  simp only [e2,a0s,if_true,vE,w8,vQ]
  refine ⟨hvl,⟨by rw [wB];omega,hbd,hye⟩,?_⟩
  rw [hdl]
  cases t0<;>rfl
 ·intro eff hk g' v w' hs hf hv
  rcases hk with rfl|hk
  case inr=>exact hk.elim
  refine hF _ (.inl hK) g' v w' (hs.congrH dom1 dom2) (fun i o' hi=>?_) hv
  rcases hf i o' hi with h1|⟨h1,h2,h3⟩
  ·exact .inl h1
  ·refine .inr ⟨h1,h2,fun n2 o2 hn2 hne=>?_⟩
   by_cases e:n2=id
   ·subst e;rw [hfd] at hn2;cases hn2;rfl
   ·exact h3 n2 o2 (by simp only [a0s,e,if_false];exact hn2) hne
theorem g76 {m:b8k} {xs:List Opd} (hok:(a06.mp m xs).ok P o.op=true) (hR:Rel P c g σ a w) (hob:∀id o,ob id=some o→find id σ.heap=some o) {d:Nat} (hcl:∀n∈(a06.mp m xs).creates d,Clean c σ n)
  (h:w9 P (.mp m xs) d (xs.map (·.ev σ.env)) ob K L) (hF:Fin o c g σ a w K L K'):o.wp P a w K' Q':=by
 have hok':a15 P m xs o.op=true:=by
  cases ho:o.op<;>simpa only [a06.ok,ho] using hok
 have h':a1x m d (xs.map (·.ev σ.env)) ob K L:=h
 cases m with
 | mk kd=>exact g78 hok' hR (hcl d (by simp [a06.creates])) h' hF
 | lku kd ok z=>exact f9b hok' hR hob h' hF
 | up kd=>exact g73 hok' hR hob h' hF
 | del kd=>exact f9n hok' hR hob h' hF
 | len=>exact e3f hok' hR hob h' hF
 | rng=>exact f8v hok' hR (hcl d (by simp [a06.creates])) h' hF
 | nxt=>exact f8w hok' hR hob h' hF
 | ent=>exact f9m hok' hR hob h' hF
 | isn ng=>exact f9e hok' hR h' hF
 | tab i=>exact f8t hok' hR h' hF
 | ups kd=>exact f8s hok' hR hob h' hF
 | ifz ng=>exact f9f hok' hR h' hF
 | apc k bytes=>exact f9r hok' hR hob (hcl d (by simp [a06.creates])) h' hF
end
end Go.Ab