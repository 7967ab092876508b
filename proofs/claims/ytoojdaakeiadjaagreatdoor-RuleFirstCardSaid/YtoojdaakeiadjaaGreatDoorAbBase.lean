/- The abstract layer, part 1: abstract values, objects and states, and what it means that they describe a world. -/
import Derived.WalkKit
import Derived.Orders
import Derived.Lib.LaidTab
set_option linter.all false
namespace Go.Ab
open Go.RowKit
abbrev zA:=@Array.getElem?_setIfInBounds_ne
abbrev zB:=@List.eq_nil_of_length_eq_zero
abbrev zC:=@Array.getD_eq_getD_getElem?
abbrev zD:=@List.getElem?_append_right
abbrev zE:=@List.getD_eq_getElem?_getD
abbrev zF:=@Array.getElem?_eq_some_iff
abbrev zG:=@List.getElem?_eq_some_iff
abbrev zH:=@List.getElem?_append_left
abbrev zI:=@Array.getElem?_eq_getElem
abbrev zJ:=@List.getElem?_eq_getElem
abbrev zK:=@decide_eq_false_iff_not
abbrev zL:=@Option.bind_eq_some_iff
abbrev zM:=@List.length_eq_zero_iff
abbrev zN:=@List.getElem?_cons_succ
abbrev zO:=@Option.map_eq_some_iff
abbrev zP:=@List.take_of_length_le
abbrev zQ:=@Nat.le_of_ble_eq_true
abbrev zR:=@Nat.eq_of_beq_eq_true
abbrev zS:=@List.mem_iff_getElem?
abbrev zT:=@List.mem_append_right
abbrev zU:=@Array.getElem?_toList
abbrev zV:=@Array.getElem?_modify
abbrev zW:=@Array.getElem?_append
abbrev zX:=@Nat.mul_le_mul_right
abbrev zY:=@List.mem_of_mem_drop
abbrev zZ:=@List.mem_of_getElem?
abbrev z2:=@List.mem_iff_getElem
abbrev z3:=@List.mem_cons_of_mem
abbrev z4:=@Bool.or_eq_false_iff
abbrev z5:=@List.drop_succ_cons
abbrev z6:=@Array.length_toList
abbrev z7:=@Nat.lt_of_lt_of_le
abbrev z9:=@List.mem_singleton
abbrev xA:=@List.mem_cons_self
abbrev xB:=@List.length_append
abbrev xC:=@List.getElem?_take
abbrev xD:=@List.getElem?_drop
abbrev xE:=@Bool.false_ne_true
abbrev xF:=@Bool.false_eq_true
abbrev xG:=@decide_eq_true_eq
abbrev xH:=@Result.andThen_ok
abbrev xI:=@Option.some.injEq
abbrev xJ:=@List.getElem?_set
abbrev xK:=@List.getElem?_map
abbrev xL:=@List.flatMap_cons
abbrev xM:=@List.ext_getElem?
abbrev xN:=@Int.toNat_natCast
abbrev xO:=@Bool.not_eq_true'
abbrev xP:=@Option.getD_some
abbrev xQ:=@Option.bind_some
abbrev xR:=@List.take_length
abbrev xS:=@List.length_take
abbrev xU:=@List.length_cons
abbrev xV:=@List.getElem_mem
abbrev xW:=@List.cons_append
abbrev xX:=@List.all_eq_true
abbrev xY:=@Bool.and_eq_true
abbrev xZ:=@Array.toList_inj
abbrev x4:=@decide_eq_false
abbrev x5:=@Option.some.inj
abbrev x6:=@Option.map_some
abbrev wA:=@List.nil_append
abbrev wB:=@List.mem_filter
abbrev wC:=@List.mem_append
abbrev wD:=@List.length_nil
abbrev wE:=@List.length_map
abbrev wF:=@List.foldl_cons
abbrev wG:=@List.cons.injEq
abbrev wH:=@List.append_nil
abbrev wI:=@Bool.or_eq_true
abbrev wJ:=@Bool.eq_iff_iff
abbrev wK:=@decide_eq_true
abbrev wL:=@List.drop_zero
abbrev wM:=@Bool.not_false
abbrev wN:=@Nat.add_assoc
abbrev wO:=@List.mem_cons
abbrev wP:=@List.map_cons
abbrev wQ:=@Bool.false_or
abbrev wR:=@Bool.and_self
abbrev wS:=@Sem.run_pure
abbrev wT:=@Sem.run_bind
abbrev wU:=@Nat.zero_add
abbrev wV:=@Nat.le_trans
abbrev wW:=@Nat.beq_refl
abbrev wY:=@Nat.add_zero
abbrev wZ:=@List.mem_map
abbrev w4:=@List.map_nil
abbrev w5:=@Int.le_of_lt
abbrev w6:=@Nat.zero_le
abbrev w7:=@Nat.one_mul
abbrev w8:=@Nat.le_refl
abbrev vA:=@Nat.add_mul
abbrev vB:=@Int.le_refl
abbrev vC:=@cond_false
abbrev vD:=@Nat.beq_eq
abbrev vE:=@cond_true
abbrev vF:=@Iff.rfl
inductive KD where
 | int (k:IntKind)
 | str
 | bool
 | arr (n:Nat) (k:IntKind)
inductive V where
 | bool (b:Bool)
 | int (k:IntKind) (n:Int)
 | str (s:List UInt8)
 | nils
 | nilp
 | nilm
 | nilf
 | nili
 | agg (cs:List V)
 | tup (cs:List V)
 | sl (xs:List V)
 | ptr (id off:Nat)
 | eptr (x:V) (off:Nat)
 | osl (id k lo len:Nat)
 | optr (id k i off:Nat)
 | omap (id:Nat)
 | bptr (id:Nat)
 | smap (kd:KD) (es:List (V×V))
 | fn (f:Fn) (cap:List V)
 | any
 | nsl (z k:Nat) (xs:List V)
 | nsmap (z k:Nat) (kd:KD) (es:List (V×V))
 | ifc (b:Bool)
 | adr (b off:Nat)
 | at_ (id b:Nat)
namespace V
def cells:V→List V
 | .agg cs=>cs
 | v=>[v]
def one:V→Bool
 | .agg _|.tup _|.any|.at_ _ _=>false
 | _=>true
def sc:V→Bool
 | .bool _|.int _ _|.str _|.nils|.nilp|.nilm|.nilf|.nili|.ifc _|.sl _|.smap _ _|.adr _ _=>true
 | .fn (.func _) []=>true
 | _=>false
def sealed:V→Bool
 | .agg cs=>cs.all V.sc
 | x=>x.sc
def fl1:V→Bool
 | .bool _|.int _ _|.str _|.nils|.nilp|.nilm|.nilf|.nili|.ifc _|.sl []=>true
 | _=>false
def flat:V→Bool
 | .agg cs=>cs.all V.fl1
 | x=>x.fl1
mutual
def has (n:Nat):V→Bool
 | .ptr id _=>Nat.beq n id
 | .osl id _ _ _=>Nat.beq n id
 | .optr id _ _ _=>Nat.beq n id
 | .omap id=>Nat.beq n id
 | .bptr id=>Nat.beq n id
 | .nsl z _ _=>Nat.beq n z
 | .nsmap z _ _ _=>Nat.beq n z
 | .at_ id _=>Nat.beq n id
 | .agg cs=>hasL n cs
 | .tup cs=>hasL n cs
 | .fn _ cs=>hasL n cs
 | _=>false
def hasL (n:Nat):List V→Bool
 | []=>false
 | x::r=>has n x||hasL n r
end
theorem hasL_mem {n:Nat}:∀{l:List V} {x:V},x∈l→hasL n l=false→x.has n=false
 | y::r,x,hm,h=>by
  simp only [hasL,z4] at h
  rcases wO.1 hm with rfl|hm
  ·exact h.1
  ·exact hasL_mem hm h.2
end V
def KD.isI:IntKind→V→Bool
 | .i8,.int .i8 _|.i16,.int .i16 _|.i32,.int .i32 _|.i64,.int .i64 _=>true
 | .u8,.int .u8 _|.u16,.int .u16 _|.u32,.int .u32 _|.u64,.int .u64 _=>true
 | _,_=>false
def KD.is:KD→V→Bool
 | .arr n k,.agg cs=>Nat.blt 0 n&&(Nat.beq cs.length n&&cs.all (KD.isI k))
 | .int .i8,.int .i8 _|.int .i16,.int .i16 _|.int .i32,.int .i32 _|.int .i64,.int .i64 _=>true
 | .int .u8,.int .u8 _|.int .u16,.int .u16 _|.int .u32,.int .u32 _|.int .u64,.int .u64 _=>true
 | .str,.str _=>true
 | .bool,.bool _=>true
 | _,_=>false
inductive a03 where
 | cells (cs:List V) (t:Option TypeId:=none)
 | arr (k:Nat) (xs:List V) (t:Option TypeId:=none)
 | map (kd:KD) (es:List (V×V))
 | iter (rem:List (V×V)) (cur:Option (V×V))
 | mark
 | nmap (z k:Nat) (kd:KD) (es:List (V×V))
 | rws (k:Nat) (xss:List (List V))
def a03.isRws:a03→Bool
 | .rws _ _=>true
 | _=>false
def a03.has (n:Nat):a03→Bool
 | .cells cs _=>V.hasL n cs
 | .nmap z _ _ _=>Nat.beq n z
 | _=>false
def inR (k:IntKind) (n:Int):Prop:=k.min≤n∧n≤k.max
def a2l (fz:Nat×Nat) (n:Nat):Prop:=fz.1=fz.2∨n≤fz.1
theorem a2l.at {fz:Nat×Nat} {n i:Nat} (h:a2l fz n) (hi:i<n):(decide (fz.1≤i)&&decide (i<fz.2))=false:=by
 rw [Bool.and_eq_false_iff,zK,zK]
 unfold a2l at h
 omega
inductive Rd (S:Nat→Prop) (w:World):Value→V→Prop
 | bool (b:Bool):Rd S w (.bool b) (.bool b)
 | int (k:IntKind) (n:Int) (h:inR k n):Rd S w (.int k n) (.int k n)
 | str (s:ByteArray) (h:s.size≤maxLen):Rd S w (.string s) (.str s.data.toList)
 | nils:Rd S w (.slice none 0 0) .nils
 | nilsl:Rd S w (.slice none 0 0) (.sl [])
 | slz (a:Addr) (cap:Nat):Rd S w (.slice (some a) 0 cap) (.sl [])
 | nilp:Rd S w (.pointer none) .nilp
 | nilm:Rd S w (.map none) .nilm
 | nilf:Rd S w .nilFunc .nilf
 | nili:Rd S w .nilIface .nili
 | ifcn:Rd S w .nilIface (.ifc true)
 | ifcs (t:TypeId) (p:Value):Rd S w (.iface t p) (.ifc false)
 | adr (b off:Nat):Rd S w (.pointer (some ⟨b,off,none⟩)) (.adr b off)
 | fnc (n:Nat):Rd S w (.func (.func n) #[] #[]) (.fn (.func n) [])
 | agg (vs:Array Value) (cs:List V) (hl:vs.size=cs.length) (hr:∀(i:Nat) (c:V),cs[i]?=some c→Rd S w (vs.getD i undef) c):Rd S w (.agg vs) (.agg cs)
 | sl (g o len cap k:Nat) (cur:Array Value) (e:TypeId) (fz:Nat×Nat) (xs:List V) (hS:S g) (hg:w.heap[g]?=some (.cells cur e fz))
   (hl:xs.length=len) (hm:len≤maxLen) (hc:len≤cap) (hb:len=0∨o+len*k≤cur.size) (hk:∀x∈xs,x.cells.length=k∧(∀c∈x.cells,c.one=true)∧x.sealed=true)
   (hr:∀(i j:Nat) (x c:V),xs[i]?=some x→x.cells[j]?=some c→Rd S w (cur.getD (o+i*k+j) undef) c) :
   Rd S w (.slice (some ⟨g,o,none⟩) len cap) (.sl xs)
 | smap (b:Nat) (kd:KD) (ents:Array MapEntry) (clock:Nat) (es:List (V×V)) (hS:S b) (hg:w.heap[b]?=some (.map ents clock)) (hl:ents.size=es.length) (hk:∀kv∈es,kd.is kv.1=true)
   (hb:∀ent∈ents.toList,ent.born<clock) (hn:(ents.toList.map (·.born)).Nodup)
   (hr1:∀(i:Nat) (ent:MapEntry) (kv:V×V),ents[i]?=some ent→es[i]?=some kv→Rd S w ent.key kv.1) (hr2:∀(i:Nat) (ent:MapEntry) (kv:V×V),ents[i]?=some ent→es[i]?=some kv→Rd S w ent.val kv.2) :
   Rd S w (.map (some b)) (.smap kd es)
def a1l (S:Nat→Prop) (w w':World):Prop:=∀b,S b→w'.heap[b]?=w.heap[b]?
theorem Rd.mono {S S':Nat→Prop} {w w':World} (hk:a1l S w w') (hs:∀b,S b→S' b):∀{v:Value} {x:V},Rd S w v x→Rd S' w' v x:=by
 intro v x h
 induction h with
 | bool b=>exact .bool b
 | int k n h=>exact .int k n h
 | str s h=>exact .str s h
 | nils=>exact .nils
 | nilsl=>exact .nilsl
 | slz a cap=>exact .slz a cap
 | nilp=>exact .nilp
 | nilm=>exact .nilm
 | nilf=>exact .nilf
 | nili=>exact .nili
 | ifcn=>exact .ifcn
 | ifcs t p=>exact .ifcs t p
 | adr b off=>exact .adr b off
 | fnc n=>exact .fnc n
 | agg vs cs hl _ ih=>exact .agg vs cs hl ih
 | sl g o len cap k cur e fz xs hS hg hl hm hc hb hk' _ ih=>exact .sl g o len cap k cur e fz xs (hs _ hS) ((hk _ hS).trans hg) hl hm hc hb hk' ih
 | smap b kd ents clock es hS hg hl hk' hb hn _ _ ih1 ih2=>exact .smap b kd ents clock es (hs _ hS) ((hk _ hS).trans hg) hl hk' hb hn ih1 ih2
theorem Rd.agg_inv {S w v cs} (h:Rd S w v (.agg cs)):∃vs:Array Value,v=.agg vs∧vs.size=cs.length∧∀(i:Nat) (c:V),cs[i]?=some c→Rd S w (vs.getD i undef) c:=by
 cases h with
 | agg vs cs hl hr=>exact ⟨vs,rfl,hl,hr⟩
structure Gh where
 S:Nat→Prop
 ρ:Nat→Nat
 base:Nat→Nat
 cap:Nat→Nat
 nil:Nat→Prop
 sub:Nat→Nat→Option (Nat×Nat)
def Gh.agree (g g':Gh) (id:Nat):Prop:=g'.ρ id=g.ρ id∧g'.base id=g.base id∧g'.cap id=g.cap id∧(g'.nil id↔g.nil id)
theorem Gh.agree.refl (g:Gh) (id:Nat):g.agree g id:=⟨rfl,rfl,rfl,vF⟩
theorem Gh.agree.trans {a b c:Gh} {id:Nat} (h:a.agree b id) (k:b.agree c id):a.agree c id :=
 ⟨k.1.trans h.1,k.2.1.trans h.2.1,k.2.2.1.trans h.2.2.1,k.2.2.2.trans h.2.2.2⟩
def d3u:TypeId:=4000000000
def b88 (t:Option TypeId) (e:TypeId) (fz:Nat×Nat):Prop:=match t with
 | none=>True
 | some u=>bif Nat.beq u d3u then fz.1=fz.2 else e=u
def tyF:Option TypeId→Option TypeId
 | none=>none
 | some u=>bif Nat.beq u d3u then none else some u
theorem e3j {t:Option TypeId} {e:TypeId} {fz fz':Nat×Nat} (h:b88 t e fz):b88 (tyF t) e fz':=by
 cases t with
 | none=>trivial
 | some u =>
  simp only [tyF]
  cases hb:Nat.beq u d3u with
  | true=>trivial
  | false=>simp only [b88,hb,vC] at h ⊢;exact h
structure b2j (S:Nat→Prop) (w:World) (b base cap k:Nat) (xs:List V) (t:Option TypeId):Prop where
 kpos:0<k
 row:∃(cur:Array Value) (e:TypeId) (fz:Nat×Nat),w.heap[b]?=some (.cells cur e fz)∧cur.size=(base+cap)*k∧(a2l fz cur.size∧b88 t e fz) ∧
  ∀(i j:Nat) (x c:V),xs[i]?=some x→x.cells[j]?=some c→Rd S w (cur.getD ((base+i)*k+j) undef) c
 len:xs.length≤cap
 big:base+cap≤maxLen
 elem:∀x∈xs,x.cells.length=k∧(∀c∈x.cells,c.one=true)∧x.sealed=true
theorem b2j.keepB {S S':Nat→Prop} {w w':World} {b base cap k:Nat} {xs:List V} {t:Option TypeId} (h:b2j S w b base cap k xs t) (hb:w'.heap[b]?=w.heap[b]?) (hk:a1l S w w') (hs:∀b,S b→S' b):b2j S' w' b base cap k xs t:=by
 obtain ⟨h1,⟨cur,e,fz,h2,h3,h4,h5⟩,h6,h7,h8⟩:=h
 exact ⟨h1,⟨cur,e,fz,hb.trans h2,h3,h4,fun i j x c hx hc=>(h5 i j x c hx hc).mono hk hs⟩,h6,h7,h8⟩
def a8z (S:Nat→Prop) (m k:Nat) (w:World) (v:Value) (xs:List V):Prop :=
 (v=.slice none 0 0∧xs=[])∨∃b o base cap c,v=.slice (some ⟨b,o,none⟩) xs.length c∧(c=0∨o=base*k)∧xs.length≤c∧c≤cap∧c≤maxLen∧m.testBit b=false∧S b∧b2j S w b base cap k xs none
theorem a8z.mono {S S':Nat→Prop} {m k:Nat} {w w':World} {v:Value} {xs:List V} (h:a8z S m k w v xs) (hk:a1l S w w') (hs:∀b,S b→S' b):a8z S' m k w' v xs:=by
 rcases h with h|⟨b,o,base,cap,c,h1,h0,h2,h3,h4,h5,h6,h7⟩
 ·exact .inl h
 ·exact .inr ⟨b,o,base,cap,c,h1,h0,h2,h3,h4,h5,hs b h6,h7.keepB (hk b h6) hk hs⟩
theorem a8z.rd {S:Nat→Prop} {m k:Nat} {w:World} {v:Value} {xs:List V} (h:a8z S m k w v xs):Rd S w v (.sl xs):=by
 rcases h with ⟨rfl,rfl⟩|⟨b,o,base,cap,c,rfl,h0,h2,h3,h4,h5,h6,⟨h7,⟨cur,e,fz,h8,h9,h10,h11⟩,h12,h13,h14⟩⟩
 ·exact .nilsl
 ·refine .sl b o xs.length c k cur e fz xs h6 h8 rfl (wV h2 h4) h2 ?_ h14 fun i j x y hx hy=>?_
  ·rcases h0 with h0|h0
   ·exact .inl (by omega)
   ·refine .inr ?_
    rw [h0,h9,←vA];exact zX k (by omega)
  ·have hi:=(zG.1 hx).1
   have:=h11 i j x y hx hy
   rw [h0.resolve_left (by omega)]
   rwa [vA] at this
inductive VR (g:Gh) (w:World):Value→V→Prop
 | rd {v:Value} {x:V} (h:Rd g.S w v x):VR g w v x
 | any (v:Value):VR g w v .any
 | ptr (id off:Nat):VR g w (.pointer (some ⟨g.ρ id,off,none⟩)) (.ptr id off)
 | eptr (b o off:Nat) (cur:Array Value) (e:TypeId) (fz:Nat×Nat) (x:V) (hS:g.S b) (hg:w.heap[b]?=some (.cells cur e fz))
   (hb:o+x.cells.length≤cur.size) (hr:∀(j:Nat) (c:V),x.cells[j]?=some c→Rd g.S w (cur.getD (o+j) undef) c) :
   VR g w (.pointer (some ⟨b,o+off,none⟩)) (.eptr x off)
 | oslnil (id k lo:Nat) (h:g.nil id):VR g w (.slice none 0 0) (.osl id k lo 0)
 | osl (id k lo len o c:Nat) (h:¬g.nil id) (ho:c=0∨o=(g.base id+lo)*k) (hc:lo+c≤g.cap id) (hl:len≤c) (hm:c≤maxLen) :
   VR g w (.slice (some ⟨g.ρ id,o,none⟩) len c) (.osl id k lo len)
 | optr (id k i off:Nat):VR g w (.pointer (some ⟨g.ρ id,(g.base id+i)*k+off,none⟩)) (.optr id k i off)
 | omap (id:Nat):VR g w (.map (some (g.ρ id))) (.omap id)
 | bnil (id:Nat):VR g w (.pointer none) (.bptr id)
 | bself (id:Nat):VR g w (.pointer (some ⟨g.ρ id,0,none⟩)) (.bptr id)
 | at_ (id b:Nat) (v:Value) (h:g.ρ id=b):VR g w v (.at_ id b)
 | nsl (z k:Nat) (xs:List V) (v:Value) (h:a8z g.S (g.base z) k w v xs):VR g w v (.nsl z k xs)
 | nsmap (b z k:Nat) (kd:KD) (ents:Array MapEntry) (clock:Nat) (es:List (V×V)) (hr:Rd g.S w (.map (some b)) (.smap kd es)) (hS:g.S b) (hg:w.heap[b]?=some (.map ents clock))
   (hn:∀(i:Nat) (ent:MapEntry) (kv:V×V),ents[i]?=some ent→es[i]?=some kv→∃xs,kv.2=.sl xs∧a8z g.S (g.base z) k w ent.val xs):VR g w (.map (some b)) (.nsmap z k kd es)
 | agg (vs:Array Value) (cs:List V) (hl:vs.size=cs.length) (hr:∀(i:Nat) (c:V),cs[i]?=some c→VR g w (vs.getD i undef) c):VR g w (.agg vs) (.agg cs)
 | tup (vs:Array Value) (cs:List V) (hl:vs.size=cs.length) (hr:∀(i:Nat) (c:V),cs[i]?=some c→VR g w (vs.getD i undef) c):VR g w (.tuple vs) (.tup cs)
 | fn (n:Nat) (vs:Array Value) (cs:List V) (hl:vs.size=cs.length) (hr:∀(i:Nat) (c:V),cs[i]?=some c→VR g w (vs.getD i undef) c):VR g w (.func (.func n) #[] vs) (.fn (.func n) cs)
 | bnd (n:Nat) (vs:Array Value) (cs:List V) (hl:vs.size=cs.length) (hr:∀(i:Nat) (c:V),cs[i]?=some c→VR g w (vs.getD i undef) c):VR g w (.func (.func n) vs #[]) (.fn (.yield n) cs)
theorem VR.mono {g g':Gh} {w w':World} (hk:a1l g.S w w') (hs:∀b,g.S b→g'.S b) :
  ∀{v:Value} {x:V},VR g w v x→(∀id,x.has id=true→g.agree g' id)→VR g' w' v x:=by
 intro v x h
 induction h with
 | rd h=>exact fun _=>.rd (h.mono hk hs)
 | any v=>exact fun _=>.any v
 | ptr id off =>
  intro ha
  have:=(ha id (by simp [V.has])).1
  rw [←this];exact .ptr id off
 | eptr b o off cur e fz x hS hg hb hr=>exact fun _=>.eptr b o off cur e fz x (hs _ hS) ((hk _ hS).trans hg) hb fun j c hc=>(hr j c hc).mono hk hs
 | oslnil id k lo h=>exact fun ha=>.oslnil id k lo ((ha id (by simp [V.has])).2.2.2.2 h)
 | osl id k lo len o c h ho hc hl hm =>
  intro ha
  obtain ⟨h1,h2,h3,h4⟩:=ha id (by simp [V.has])
  rw [←h1]
  exact .osl id k lo len o c (fun h'=>h (h4.1 h')) (by rw [h2];exact ho) (by rw [h3];exact hc) hl hm
 | optr id k i off =>
  intro ha
  obtain ⟨h1,h2,h3,h4⟩:=ha id (by simp [V.has])
  rw [←h1,←h2];exact .optr id k i off
 | omap id =>
  intro ha
  rw [←(ha id (by simp [V.has])).1];exact .omap id
 | bnil id=>exact fun _=>.bnil id
 | bself id =>
  intro ha
  rw [←(ha id (by simp [V.has])).1];exact .bself id
 | at_ id b v h=>exact fun ha=>.at_ id b v ((ha id (by simp [V.has])).1.trans h)
 | nsl z k xs v h =>
  intro ha
  have:=(ha z (by simp [V.has])).2.1
  exact .nsl z k xs v (by rw [this];exact h.mono hk hs)
 | nsmap b z k kd ents clock es hr hS hg hn =>
  intro ha
  have:=(ha z (by simp [V.has])).2.1
  refine .nsmap b z k kd ents clock es (hr.mono hk hs) (hs _ hS) ((hk _ hS).trans hg) fun i ent kv h1 h2=>?_
  obtain ⟨xs,h3,h4⟩:=hn i ent kv h1 h2
  exact ⟨xs,h3,by rw [this];exact h4.mono hk hs⟩
 | agg vs cs hl _ ih =>
  refine fun ha=>.agg vs cs hl fun i c hc=>ih i c hc fun id hid=>ha id ?_
  by_cases hx:V.has id (.agg cs)=true
  ·exact hx
  ·simp only [V.has,Bool.not_eq_true] at hx
   have:=V.hasL_mem (zZ hc) hx
   rw [this] at hid;cases hid
 | tup vs cs hl _ ih =>
  refine fun ha=>.tup vs cs hl fun i c hc=>ih i c hc fun id hid=>ha id ?_
  by_cases hx:V.has id (.tup cs)=true
  ·exact hx
  ·simp only [V.has,Bool.not_eq_true] at hx
   have:=V.hasL_mem (zZ hc) hx
   rw [this] at hid;cases hid
 | fn f vs cs hl _ ih =>
  refine fun ha=>.fn f vs cs hl fun i c hc=>ih i c hc fun id hid=>ha id ?_
  by_cases hx:V.has id (.fn (.func f) cs)=true
  ·exact hx
  ·simp only [V.has,Bool.not_eq_true] at hx
   have:=V.hasL_mem (zZ hc) hx
   rw [this] at hid;cases hid
 | bnd n vs cs hl _ ih =>
  refine fun ha=>.bnd n vs cs hl fun i c hc=>ih i c hc fun id hid=>ha id ?_
  by_cases hx:V.has id (.fn (.yield n) cs)=true
  ·exact hx
  ·simp only [V.has,Bool.not_eq_true] at hx
   have:=V.hasL_mem (zZ hc) hx
   rw [this] at hid;cases hid
structure b3s (S:Nat→Prop) (w:World) (kd:KD) (ents:List MapEntry) (es:List (V×V)):Prop where
 len:ents.length=es.length
 key:∀kv∈es,kd.is kv.1=true
 rd:∀(i:Nat) (ent:MapEntry) (kv:V×V),ents[i]?=some ent→es[i]?=some kv→Rd S w ent.key kv.1∧Rd S w ent.val kv.2
def b9u (S:Nat→Prop) (w:World) (b:Nat) (rem:List (V×V)) (cur:Option (V×V)):Prop :=
 (∃x y z,w.heap[b]?=some (.mapIter none x y z)∧rem=[]∧cur=none) ∨
 ∃m clock seen ents,w.heap[b]?=some (.mapIter (some m) clock seen clock)∧S m∧w.heap[m]?=some (.map ents clock)∧(∀ent∈ents.toList,ent.born<clock)∧(ents.toList.map (·.born)).Nodup ∧
  (ents.toList.filter fun e=>!seen.contains e.born).length=rem.length ∧
  (∀(i:Nat) (ent:MapEntry) (kv:V×V),(ents.toList.filter fun e=>!seen.contains e.born)[i]?=some ent→rem[i]?=some kv→Rd S w ent.key kv.1∧Rd S w ent.val kv.2) ∧
  ∀kv,cur=some kv→∃ent∈ents.toList,seen.back?=some ent.born∧Rd S w ent.key kv.1∧Rd S w ent.val kv.2
def a2w:List V→Bool
 | [.any]=>true
 | _=>false
def b2c (S:Nat→Prop) (w:World) (k:Nat) (s:Option (Nat×Nat)) (v:Value) (xs:List V):Prop:=match s with
 | none=>(v=.slice none 0 0∧xs=[])∨a2w xs=true
 | some (b,c)=>∃o base cap,v=.slice (some ⟨b,o,none⟩) xs.length c∧(c=0∨o=base*k)∧xs.length≤c∧c≤maxLen∧c≤cap∧b2j S w b base cap k xs none
structure c3d (S:Nat→Prop) (w:World) (b base cap k:Nat) (sub:Nat→Option (Nat×Nat)) (xss:List (List V)):Prop where
 row:∃(cur:Array Value) (e:TypeId) (fz:Nat×Nat),w.heap[b]?=some (.cells cur e fz)∧cur.size=base+cap∧a2l fz cur.size ∧
  ∀(j:Nat) (xs:List V),xss[j]?=some xs→b2c S w k (sub j) (cur.getD (base+j) undef) xs
 len:xss.length≤cap
 big:base+cap≤maxLen
def a4i (g:Gh) (id:Nat) (o:a03) (b:Nat):Prop:=∃k xss j c,o=.rws k xss∧j<xss.length∧g.sub (g.ρ id) j=some (b,c)
def OR (g:Gh) (w:World) (id:Nat):a03→Prop
 | .rws k xss=>(g.nil id∧xss=[])∨(¬g.nil id∧c3d g.S w (g.ρ id) (g.base id) (g.cap id) k (g.sub (g.ρ id)) xss)
 | .cells cs t=>¬g.nil id∧∃(cur:Array Value) (e:TypeId) (fz:Nat×Nat),w.heap[g.ρ id]?=some (.cells cur e fz)∧cur.size=cs.length∧(a2l fz cur.size∧b88 t e fz) ∧
   ∀(i:Nat) (c:V),cs[i]?=some c→VR g w (cur.getD i undef) c
 | .arr k xs t=>(g.nil id∧xs=[])∨(¬g.nil id∧b2j g.S w (g.ρ id) (g.base id) (g.cap id) k xs t)
 | .map kd es=>¬g.nil id∧∃(ents:Array MapEntry) (clock:Nat),w.heap[g.ρ id]?=some (.map ents clock)∧b3s g.S w kd ents.toList es∧(∀ent∈ents.toList,ent.born<clock)∧(ents.toList.map (·.born)).Nodup
 | .iter rem cur=>¬g.nil id∧b9u g.S w (g.ρ id) rem cur
 | .mark=>g.nil id∧∀b,(g.base id).testBit b=true→g.S b
 | .nmap z k kd es=>¬g.nil id∧∃(ents:Array MapEntry) (clock:Nat),w.heap[g.ρ id]?=some (.map ents clock)∧b3s g.S w kd ents.toList es∧(∀ent∈ents.toList,ent.born<clock)∧(ents.toList.map (·.born)).Nodup ∧
   (∀(i:Nat) (ent:MapEntry) (kv:V×V),ents[i]?=some ent→es[i]?=some kv→∃xs,kv.2=.sl xs∧a8z g.S (g.base z) k w ent.val xs)∧∀b,(g.base z).testBit b=true→g.S b
abbrev Heap:=List (Nat×a03)
def find {α:Type} (n:Nat):List (Nat×α)→Option α
 | []=>none
 | (m,x)::r=>bif Nat.beq n m then some x else find n r
def put {α:Type} (n:Nat) (x:α):List (Nat×α)→List (Nat×α)
 | []=>[(n,x)]
 | (m,y)::r=>bif Nat.beq n m then (m,x)::r else (m,y)::put n x r
def del {α:Type} (n:Nat):List (Nat×α)→List (Nat×α)
 | []=>[]
 | (m,y)::r=>bif Nat.beq n m then del n r else (m,y)::del n r
theorem a0i {α:Type} (n m:Nat) (x:α):∀l:List (Nat×α),find m (put n x l)=if m=n then some x else find m l
 | []=>by
  by_cases h:m=n
  ·subst h;simp [put,find,cond_eq_ite,vD]
  ·simp [put,find,cond_eq_ite,vD,h]
 | (q,y)::r=>by
  have ih:=a0i n m x r
  by_cases hq:n=q
  ·subst hq
   by_cases h:m=n
   ·subst h;simp [put,find,cond_eq_ite,vD]
   ·simp [put,find,cond_eq_ite,vD,h]
  ·by_cases h:m=q
   ·subst h
    have hne:m≠n:=fun e=>hq e.symm
    simp [put,find,cond_eq_ite,vD,hq,hne]
   ·simp [put,find,cond_eq_ite,vD,hq,h,ih]
theorem c2u {α:Type} (n m:Nat):∀l:List (Nat×α),find m (del n l)=if m=n then none else find m l
 | []=>by simp [del,find]
 | (q,y)::r=>by
  have ih:=c2u n m r
  by_cases hq:n=q
  ·subst hq
   by_cases h:m=n
   ·subst h;simp [del,cond_eq_ite,vD,ih]
   ·simp [del,find,cond_eq_ite,vD,h,ih]
  ·by_cases h:m=q
   ·subst h
    have hne:m≠n:=fun e=>hq e.symm
    simp [del,find,cond_eq_ite,vD,hq,hne]
   ·simp [del,find,cond_eq_ite,vD,hq,h,ih]
theorem mem_of_find {α:Type} {n:Nat} {x:α}:∀{l:List (Nat×α)},find n l=some x→(n,x)∈l
 | (m,y)::r,h=>by
  by_cases e:n=m
  ·subst e
   simp [find,cond_eq_ite,vD] at h
   subst h;simp
  ·simp only [find,cond_eq_ite,vD,e,if_false] at h
   exact z3 _ (mem_of_find h)
structure St where
 env:List (Nat×V)
 heap:Heap
def c06:List (String×IntKind×List Int):=[
 ("internal/strconv.uint64pow10",.u64,[1,10,100,1000,10000,100000,1000000,10000000,100000000,1000000000,10000000000,100000000000,1000000000000,10000000000000,100000000000000,1000000000000000,10000000000000000,100000000000000000,1000000000000000000,10000000000000000000]),
 ("leakresponse/severity.levels",.i64,[1,100,1000,10000]),
 ("leakresponse/notice.deadlines",.i64,[40,16,4,1])]
def b9h:List String:=["strconv.ErrSyntax", "strconv.ErrRange"]
def e9m (P:Program) (w:World):Prop:=(∀d∈c06,(P.globalNamed d.1).isSome=true→Lib.TabIs P w d.1 d.2.1 d.2.2)∧∀n∈b9h,(P.globalNamed n).isSome=true→∃tp p,World.var? P w n=some #[.iface tp p]
structure a2o (P:Program) (g:Gh) (w:World) (H:Heap):Prop where
 obj:∀id o,find id H=some o→OR g w id o
 inj:∀i j o o',find i H=some o→find j H=some o'→¬g.nil i→¬g.nil j→g.ρ i=g.ρ j→i=j
 sep:∀id o,find id H=some o→¬g.nil id→¬g.S (g.ρ id)
 lt:∀b,g.S b→b<w.heap.size
 tabs:∀w',a1l g.S w w'→e9m P w'
 sub1:∀z o b,find z H=some o→¬g.nil z→a4i g z o b→¬g.S b∧∀id o',find id H=some o'→¬g.nil id→g.ρ id≠b
 sub2:∀i k xss j c i' k' xss' j' c' b,find i H=some (.rws k xss)→find i' H=some (.rws k' xss')→¬g.nil i→¬g.nil i'→j<xss.length→j'<xss'.length →
  g.sub (g.ρ i) j=some (b,c)→g.sub (g.ρ i') j'=some (b,c')→i=i'∧j=j'
structure Ctx where
 w0:World
 g0:Gh
 H0:Heap
 nt:Nat
 dfr:List Deferred
 kp:List (Nat×Obj)
 hm:Heap
 gp:Gh
 wp:World
def Ctx.M (c:Ctx) (b:Nat):Prop:=∃id o,find id c.hm=some o∧¬c.g0.nil id∧(c.g0.ρ id=b∨a4i c.g0 id o b)
def Ctx.free (c:Ctx) (b:Nat):Prop:=∀o,(b,o)∉c.kp
def Dfr (c:Ctx) (w:World) (ds:List Deferred):Prop :=
 ds=c.dfr∧(∀b o,(b,o)∈c.kp→(c.w0.heap.size≤b∨c.M b)∧w.heap[b]?=some o)∧a1l c.gp.S c.wp w
structure Frm (c:Ctx) (g:Gh) (w:World) (H:Heap):Prop where
 os:w.os=c.w0.os
 tape:w.tape=c.w0.tape
 output:w.output=c.w0.output
 size:c.w0.heap.size≤w.heap.size
 old:∀b,b<c.w0.heap.size→¬c.M b→w.heap[b]?=c.w0.heap[b]?
 own:∀id o,find id H=some o→¬g.nil id→(c.w0.heap.size≤g.ρ id∨c.M (g.ρ id))∧c.free (g.ρ id)
 sup:∀b,c.g0.S b∨c.gp.S b→g.S b
 sub:∀b,g.S b→(c.g0.S b∨c.w0.heap.size≤b∨c.M b)∧c.free b
 par:∀id o,find id c.H0=some o→c.gp.agree g id
 own2:∀id o b,find id H=some o→¬g.nil id→a4i g id o b→(c.w0.heap.size≤b∨c.M b)∧c.free b
 sb:∀b,b<c.w0.heap.size→¬c.M b→g.sub b=c.gp.sub b
structure Rel (P:Program) (c:Ctx) (g:Gh) (σ:St) (a:Act) (w:World):Prop where
 size:a.tmps.size=c.nt
 dfr:Dfr c w a.defers
 env:∀s x,find s σ.env=some x→s<c.nt∧VR g w (a.tmps.getD s undef) x
 hp:a2o P g w σ.heap
 fr:Frm c g w σ.heap
structure Eff where
 val:V
 drop:List Nat
 new:List (Nat×a03)
def c84:List Nat→Heap→Heap
 | [],H=>H
 | n::r,H=>c84 r (del n H)
def puts:List (Nat×a03)→Heap→Heap
 | [],H=>H
 | (n,o)::r,H=>puts r (put n o H)
def Eff.heap (e:Eff) (H:Heap):Heap:=puts e.new (c84 e.drop H)
def c3o (d:Option Nat) (x:V) (env:List (Nat×V)):List (Nat×V) :=
 match d with
 | some d=>put d x env
 | none=>env
def St.app (σ:St) (d:Option Nat) (e:Eff):St:=⟨c3o d e.val σ.env,e.heap σ.heap⟩
theorem a6u (m:Nat):∀(l:List Nat) (H:Heap),find m (c84 l H)=if m∈l then none else find m H
 | [],H=>by simp [c84]
 | n::r,H=>by
  rw [c84,a6u m r,c2u]
  by_cases h1:m∈r<;>by_cases h2:m=n<;>simp [h1,h2]
theorem a1m {m:Nat}:∀{l:List (Nat×a03)} {H:Heap},(∀o,(m,o)∉l)→find m (puts l H)=find m H
 | [],H,_=>rfl
 | (n,o)::r,H,h=>by
  rw [puts,a1m (fun o ho=>h o (z3 _ ho)),a0i]
  have:m≠n:=fun e=>h o (by rw [e];exact xA)
  simp [this]
theorem b0c {m:Nat} {o:a03}:∀{l:List (Nat×a03)} {H:Heap},find m (puts l H)=some o→(∃o',(m,o')∈l)→(m,o)∈l
 | [],H,_,⟨_,h⟩=>by cases h
 | (n,o1)::r,H,h,⟨o',hm⟩=>by
  rw [puts] at h
  by_cases hr:∃o'',(m,o'')∈r
  ·exact z3 _ (b0c h hr)
  ·rw [a1m (fun o ho=>hr ⟨o,ho⟩),a0i] at h
   rcases wO.1 hm with hm|hm
   ·cases hm
    simp at h;subst h;exact xA
   ·exact absurd ⟨_,hm⟩ hr
def Eff.ids (e:Eff):List Nat:=e.drop++e.new.map (·.1)
theorem Eff.find_other {e:Eff} {H:Heap} {id:Nat} (h:id∉e.ids):find id (e.heap H)=find id H:=by
 simp only [Eff.ids,wC,not_or,wZ,not_exists,not_and] at h
 rw [Eff.heap,a1m (fun o ho=>h.2 _ ho rfl),a6u,if_neg h.1]
theorem Eff.find_cases {e:Eff} {H:Heap} {id:Nat} {o:a03} (h:find id (e.heap H)=some o):(id,o)∈e.new∨(id∉e.ids∧find id H=some o):=by
 by_cases hn:∃o',(id,o')∈e.new
 ·exact .inl (b0c h hn)
 ·rw [Eff.heap,a1m (fun o ho=>hn ⟨o,ho⟩),a6u] at h
  by_cases hd:id∈e.drop
  ·simp [hd] at h
  ·refine .inr ⟨?_,by simpa [hd] using h⟩
   simp only [Eff.ids,wC,not_or,wZ,not_exists,not_and]
   exact ⟨hd,fun p hp he=>hn ⟨p.2,by rw [←he];exact hp⟩⟩
def a7v (n:Nat):List (Nat×V)→Bool
 | []=>true
 | (_,x)::r=>!x.has n&&a7v n r
def a0w (n:Nat):Heap→Bool
 | []=>true
 | (_,x)::r=>!x.has n&&a0w n r
theorem a2v {n s:Nat} {x:V}:∀{l:List (Nat×V)},a7v n l=true→find s l=some x→x.has n=false:=by
 intro l h hf
 have hm:=mem_of_find hf
 clear hf
 induction l with
 | nil=>cases hm
 | cons p r ih =>
  obtain ⟨m,y⟩:=p
  simp only [a7v,xY,xO] at h
  rcases wO.1 hm with hm|hm
  ·cases hm;exact h.1
  ·exact ih h.2 hm
theorem a2r {n s:Nat} {x:a03}:∀{l:Heap},a0w n l=true→find s l=some x→x.has n=false:=by
 intro l h hf
 have hm:=mem_of_find hf
 clear hf
 induction l with
 | nil=>cases hm
 | cons p r ih =>
  obtain ⟨m,y⟩:=p
  simp only [a0w,xY,xO] at h
  rcases wO.1 hm with hm|hm
  ·cases hm;exact h.1
  ·exact ih h.2 hm
theorem b2j.mono {S S':Nat→Prop} {w w':World} {b base cap k:Nat} {xs:List V} {t:Option TypeId} (h:b2j S w b base cap k xs t) (hk:a1l S w w') (hs:∀b,S b→S' b) (hb:w'.heap[b]?=w.heap[b]?) :
  b2j S' w' b base cap k xs t:=by
 obtain ⟨hp,⟨cur,e,fz,h1,h2,h3,h4⟩,h5,h6,h7⟩:=h
 exact ⟨hp,⟨cur,e,fz,hb.trans h1,h2,h3,fun i j x c hx hc=>(h4 i j x c hx hc).mono hk hs⟩,h5,h6,h7⟩
theorem b2c.mono {S S':Nat→Prop} {w w':World} {k:Nat} {s:Option (Nat×Nat)} {v:Value} {xs:List V} (h:b2c S w k s v xs) (hk:a1l S w w') (hs:∀b,S b→S' b) (hb:∀b c,s=some (b,c)→w'.heap[b]?=w.heap[b]?):b2c S' w' k s v xs:=by
 cases s with
 | none=>exact h
 | some p =>
  obtain ⟨b,c⟩:=p
  obtain ⟨o,base,cap,h1,h2,h3,h4,h5,h6⟩:=h
  exact ⟨o,base,cap,h1,h2,h3,h4,h5,h6.mono hk hs (hb b c rfl)⟩
theorem c3d.mono {S S':Nat→Prop} {w w':World} {b base cap k:Nat} {sub sub':Nat→Option (Nat×Nat)} {xss:List (List V)} (h:c3d S w b base cap k sub xss) (hk:a1l S w w') (hs:∀b,S b→S' b) (hb:w'.heap[b]?=w.heap[b]?)
  (he:∀j,j<xss.length→sub' j=sub j) (hr:∀j c q,j<xss.length→sub j=some (q,c)→w'.heap[q]?=w.heap[q]?):c3d S' w' b base cap k sub' xss:=by
 obtain ⟨⟨cur,e,fz,h1,h2,h3,h4⟩,h5,h6⟩:=h
 refine ⟨⟨cur,e,fz,hb.trans h1,h2,h3,fun j xs hj=>?_⟩,h5,h6⟩
 have hlt:=(zG.1 hj).1
 rw [he j hlt]
 exact (h4 j xs hj).mono hk hs fun q c hq=>hr j c q hlt hq
theorem b3s.mono {S S':Nat→Prop} {w w':World} {kd:KD} {ents:List MapEntry} {es:List (V×V)} (h:b3s S w kd ents es) (hk:a1l S w w') (hs:∀b,S b→S' b):b3s S' w' kd ents es :=
 ⟨h.len,h.key,fun i ent kv hi hj=>⟨(h.rd i ent kv hi hj).1.mono hk hs,(h.rd i ent kv hi hj).2.mono hk hs⟩⟩
theorem b9u.mono {S S':Nat→Prop} {w w':World} {b:Nat} {rem:List (V×V)} {cur:Option (V×V)} (h:b9u S w b rem cur) (hk:a1l S w w') (hs:∀b,S b→S' b) (hb:w'.heap[b]?=w.heap[b]?):b9u S' w' b rem cur:=by
 rcases h with ⟨x,y,z,h1,h2⟩|⟨m,clock,seen,ents,h1,h2,h3,h4,h5,h6,h7,h8⟩
 ·exact .inl ⟨x,y,z,hb.trans h1,h2⟩
 ·refine .inr ⟨m,clock,seen,ents,hb.trans h1,hs _ h2,(hk _ h2).trans h3,h4,h5,h6,fun i ent kv hi hj=>⟨(h7 i ent kv hi hj).1.mono hk hs,(h7 i ent kv hi hj).2.mono hk hs⟩,fun kv hc=>?_⟩
  obtain ⟨ent,k1,k2,k3,k4⟩:=h8 kv hc
  exact ⟨ent,k1,k2,k3.mono hk hs,k4.mono hk hs⟩
theorem OR.mono {g g':Gh} {w w':World} {id:Nat} {o:a03} (h:OR g w id o) (hk:a1l g.S w w') (hs:∀b,g.S b→g'.S b)
  (hid:g.agree g' id) (hb:¬g.nil id→w'.heap[g.ρ id]?=w.heap[g.ρ id]?) (hr:∀n,o.has n=true→g.agree g' n) (hz:w.heap.size≤w'.heap.size)
  (hq:¬g.nil id→o.isRws=true→g'.sub (g.ρ id)=g.sub (g.ρ id)∧∀b,a4i g id o b→w'.heap[b]?=w.heap[b]?):OR g' w' id o:=by
 obtain ⟨e1,e2,e3,e4⟩:=hid
 cases o with
 | cells cs t =>
  obtain ⟨hn,cur,e,fz,h1,h2,h3,h4⟩:=h
  refine ⟨fun h=>hn (e4.1 h),cur,e,fz,by rw [e1,hb hn];exact h1,h2,h3,fun i c hc=>(h4 i c hc).mono hk hs fun n hn=>hr n ?_⟩
  by_cases hx:a03.has n (.cells cs t)=true
  ·exact hx
  ·simp only [a03.has,Bool.not_eq_true] at hx
   have:=V.hasL_mem (zZ hc) hx
   rw [this] at hn;cases hn
 | arr k xs t =>
  rcases h with ⟨hn,hx⟩|⟨hn,ha⟩
  ·exact .inl ⟨e4.2 hn,hx⟩
  ·refine .inr ⟨fun h=>hn (e4.1 h),?_⟩
   rw [e1,e2,e3];exact ha.mono hk hs (hb hn)
 | map kd es =>
  obtain ⟨hn,ents,clock,h1,h2,h3⟩:=h
  exact ⟨fun h=>hn (e4.1 h),ents,clock,by rw [e1,hb hn];exact h1,h2.mono hk hs,h3⟩
 | iter rem cur =>
  obtain ⟨hn,h1⟩:=h
  refine ⟨fun h=>hn (e4.1 h),?_⟩
  rw [e1];exact h1.mono hk hs (hb hn)
 | rws k xss =>
  rcases h with ⟨hn,hx⟩|⟨hn,ha⟩
  ·exact .inl ⟨e4.2 hn,hx⟩
  ·obtain ⟨q1,q2⟩:=hq hn rfl
   refine .inr ⟨fun h=>hn (e4.1 h),?_⟩
   rw [e1,e2,e3,q1]
   exact ha.mono hk hs (hb hn) (fun j hj=>rfl) fun j c q hj hq=>q2 q ⟨k,xss,j,c,rfl,hj,hq⟩
 | mark =>
  obtain ⟨h1,h2⟩:=h
  exact ⟨e4.2 h1,fun b hb=>hs b (h2 b (by rw [←e2];exact hb))⟩
 | nmap z k kd es =>
  obtain ⟨hn,ents,clock,h1,h2,h3,h4,h5,h6⟩:=h
  have ez:=(hr z (by simp [a03.has])).2.1
  refine ⟨fun h=>hn (e4.1 h),ents,clock,by rw [e1,hb hn];exact h1,h2.mono hk hs,h3,h4,fun i ent kv hi hj=>?_,fun b hb=>hs b (h6 b (by rw [←ez];exact hb))⟩
  obtain ⟨xs,k1,k2⟩:=h5 i ent kv hi hj
  exact ⟨xs,k1,by rw [ez];exact k2.mono hk hs⟩
theorem OR.block {g:Gh} {w:World} {id:Nat} {o:a03} (h:OR g w id o) (hn:¬g.nil id):g.ρ id<w.heap.size:=by
 have hlt:∀{o:Obj},w.heap[g.ρ id]?=some o→g.ρ id<w.heap.size:=fun h=>(zF.1 h).1
 cases o with
 | cells cs t=>obtain ⟨_,cur,e,fz,h1,_⟩:=h;exact hlt h1
 | arr k xs t =>
  rcases h with ⟨h,_⟩|⟨_,_,⟨cur,e,fz,h1,_⟩,_⟩
  ·exact absurd h hn
  ·exact hlt h1
 | map kd es=>obtain ⟨_,ents,clock,h1,_⟩:=h;exact hlt h1
 | iter rem cur =>
  obtain ⟨_,h1⟩:=h
  rcases h1 with ⟨x,y,z,h1,_⟩|⟨m,clock,seen,ents,h1,_⟩<;>exact hlt h1
 | rws k xss =>
  rcases h with ⟨h,_⟩|⟨_,⟨⟨cur,e,fz,h1,_⟩,_⟩⟩
  ·exact absurd h hn
  ·exact hlt h1
 | mark=>exact absurd h.1 hn
 | nmap z k kd es=>obtain ⟨_,ents,clock,h1,_⟩:=h;exact hlt h1
structure a2z (g:Gh) (H:Heap) (w:World) (e:Eff) (g':Gh):Prop where
 blk:∀id o b,(id,o)∈e.new→¬g'.nil id→a4i g' id o b→w.heap.size≤b∨∃id0 o0,id0∈e.ids∧find id0 H=some o0∧¬g.nil id0∧(g.ρ id0=b∨a4i g id0 o0 b)
 sep:∀id o b,(id,o)∈e.new→¬g'.nil id→a4i g' id o b→¬g'.S b
 ne:∀id o b id' o',(id,o)∈e.new→¬g'.nil id→a4i g' id o b→(id',o')∈e.new→¬g'.nil id'→g'.ρ id'≠b
 inj:∀i k xss j c i' k' xss' j' c' b,(i,.rws k xss)∈e.new→(i',.rws k' xss')∈e.new→¬g'.nil i→¬g'.nil i'→j<xss.length→j'<xss'.length →
  g'.sub (g'.ρ i) j=some (b,c)→g'.sub (g'.ρ i') j'=some (b,c')→i=i'∧j=j'
theorem a2z.no {g:Gh} {H:Heap} {w:World} {e:Eff} {g':Gh} (h:∀p∈e.new,p.2.isRws=false):a2z g H w e g':=by
 have no:∀id o b,(id,o)∈e.new→¬a4i g' id o b:=fun id o b hm hs=>by
  obtain ⟨k,xss,j,c,rfl,_⟩:=hs
  have:=h _ hm
  cases this
 exact ⟨fun id o b hm _ hs=>(no id o b hm hs).elim,fun id o b hm _ hs=>(no id o b hm hs).elim,fun id o b _ _ hm _ hs=>(no id o b hm hs).elim,fun i k xss j c i' k' xss' j' c' b hm=>by
  have:=h _ hm
  cases this⟩
structure q9 (g:Gh) (H:Heap) (w:World) (e:Eff) (g':Gh) (w':World):Prop where
 os:w'.os=w.os
 tape:w'.tape=w.tape
 output:w'.output=w.output
 size:w.heap.size≤w'.heap.size
 keep:∀b,b<w.heap.size→(∀id o,id∈e.ids→find id H=some o→¬g.nil id→g.ρ id≠b∧¬a4i g id o b)→w'.heap[b]?=w.heap[b]?
 sup:∀b,g.S b→g'.S b
 sub:∀b,g'.S b→g.S b∨w.heap.size≤b∨∃id o,id∈e.ids∧find id H=some o∧¬g.nil id∧(g.ρ id=b∨a4i g id o b)
 slt:∀b,g'.S b→b<w'.heap.size
 agree:∀id,(∀o,(id,o)∉e.new)→g.agree g' id
 obj:∀id o,(id,o)∈e.new→OR g' w' id o
 blk:∀id o,(id,o)∈e.new→¬g'.nil id→w.heap.size≤g'.ρ id∨∃id0 o0,id0∈e.ids∧find id0 H=some o0∧¬g.nil id0∧(g.ρ id0=g'.ρ id∨a4i g id0 o0 (g'.ρ id))
 inj:∀i j o o',(i,o)∈e.new→(j,o')∈e.new→¬g'.nil i→¬g'.nil j→g'.ρ i=g'.ρ j→i=j
 sep:∀id o,(id,o)∈e.new→¬g'.nil id→¬g'.S (g'.ρ id)
 sb:∀b,b<w.heap.size→(∀id o,id∈e.ids→find id H=some o→¬g.nil id→g.ρ id≠b∧¬a4i g id o b)→g'.sub b=g.sub b
 nw:a2z g H w e g'
def a0l (H0:Heap) (g g':Gh) (σ:St) (e:Eff):Prop :=
 ∀id o,(id,o)∈e.new→g.agree g' id∨(find id H0=none∧(∀s x,find s σ.env=some x→x.has id=false)∧∀n o',find n σ.heap=some o'→n∉e.ids→o'.has id=false)
theorem a4i.rws {g:Gh} {id b:Nat} {o:a03} (h:a4i g id o b):o.isRws=true:=by
 obtain ⟨k,xss,_,_,rfl,_⟩:=h;rfl
def Alk (o o':a03):Prop:=o'=o∨(o.isRws=false∧o'.isRws=false)
theorem Alk.sub {g:Gh} {o o':a03} {i b:Nat} (h:Alk o o') (hs:a4i g i o b):a4i g i o' b:=by
 rcases h with rfl|⟨h,_⟩
 ·exact hs
 ·obtain ⟨k,xss,j,c,rfl,_⟩:=hs;cases h
theorem Alk.symm {o o':a03} (h:Alk o o'):Alk o' o:=by
 rcases h with rfl|⟨h1,h2⟩
 ·exact .inl rfl
 ·exact .inr ⟨h2,h1⟩
theorem Alk.ow {g:Gh} {o o':a03} {i b:Nat} (h:Alk o o') (hs:g.ρ i=b∨a4i g i o b):g.ρ i=b∨a4i g i o' b:=hs.imp id h.sub
theorem Alk.rws {o:a03} {k:Nat} {xss:List (List V)} (h:Alk (.rws k xss) o):o=.rws k xss:=by
 rcases h with h|⟨h,_⟩
 ·exact h
 ·cases h
structure Cnv (g g':Gh) (H H':Heap):Prop where
 src:∀m o,find m H'=some o→¬g'.nil m→∃m' o',find m' H=some o'∧¬g.nil m'∧g'.ρ m=g.ρ m'∧Alk o o'
 uni:∀i j o o',find i H'=some o→find j H'=some o'→¬g'.nil i→¬g'.nil j→g'.ρ i=g'.ρ j→i=j
 sub:g'.sub=g.sub
theorem Cnv.to {g g':Gh} {H H':Heap} (v:Cnv g g' H H') {z b:Nat} {o:a03} (hz:find z H'=some o) (hn:¬g'.nil z) (hs:a4i g' z o b):∃z' o',find z' H=some o'∧¬g.nil z'∧g'.ρ z=g.ρ z'∧a4i g z' o' b:=by
 obtain ⟨z',o',h1,h2,h3,h4⟩:=v.src z o hz hn
 obtain ⟨k,xss,j,c,rfl,hj,e⟩:=hs
 exact ⟨z',o',h1,h2,h3,k,xss,j,c,h4.rws,hj,by rw [←v.sub,←h3];exact e⟩
theorem Cnv.sub1 {P:Program} {g g':Gh} {w:World} {H H':Heap} (v:Cnv g g' H H') (h:a2o P g w H) (hS:∀b,g'.S b→g.S b∨∃n on,find n H=some on∧¬g.nil n∧b=g.ρ n) :
  ∀z o b,find z H'=some o→¬g'.nil z→a4i g' z o b→¬g'.S b∧∀id o',find id H'=some o'→¬g'.nil id→g'.ρ id≠b:=by
 intro z o b hz hn hs
 obtain ⟨z',o',h1,h2,h3,h4⟩:=v.to hz hn hs
 obtain ⟨k1,k2⟩:=h.sub1 z' o' b h1 h2 h4
 refine ⟨fun hb=>?_,fun id o2 hi hn2 he=>?_⟩
 ·rcases hS b hb with hb|⟨n,on,q1,q2,q3⟩
  ·exact k1 hb
  ·exact k2 n on q1 q2 q3.symm
 ·obtain ⟨i',o3,q1,q2,q3,_⟩:=v.src id o2 hi hn2
  exact k2 i' o3 q1 q2 (q3.symm.trans he)
theorem Cnv.sub2 {P:Program} {g g':Gh} {w:World} {H H':Heap} (v:Cnv g g' H H') (h:a2o P g w H) :
  ∀i k xss j c i' k' xss' j' c' b,find i H'=some (.rws k xss)→find i' H'=some (.rws k' xss')→¬g'.nil i→¬g'.nil i'→j<xss.length→j'<xss'.length →
  g'.sub (g'.ρ i) j=some (b,c)→g'.sub (g'.ρ i') j'=some (b,c')→i=i'∧j=j':=by
 intro i k xss j c i' k' xss' j' c' b hi hi' hn hn' hj hj' he he'
 obtain ⟨m,o,h1,h2,h3,h4⟩:=v.src i _ hi hn
 obtain ⟨m',o',h1',h2',h3',h4'⟩:=v.src i' _ hi' hn'
 have:=h4.rws;subst this
 have:=h4'.rws;subst this
 rw [h3,v.sub] at he
 rw [h3',v.sub] at he'
 obtain ⟨e1,e2⟩:=h.sub2 m k xss j c m' k' xss' j' c' b h1 h1' h2 h2' hj hj' he he'
 subst e1
 exact ⟨v.uni i i' _ _ hi hi' hn hn' (h3.trans h3'.symm),e2⟩
theorem Cnv.own2 {c:Ctx} {g g':Gh} {w:World} {H H':Heap} (v:Cnv g g' H H') (h:Frm c g w H):∀id o b,find id H'=some o→¬g'.nil id→a4i g' id o b→(c.w0.heap.size≤b∨c.M b)∧c.free b:=by
 intro id o b hi hn hs
 obtain ⟨m,o',h1,h2,_,h4⟩:=v.to hi hn hs
 exact h.own2 m o' b h1 h2 h4
abbrev Owb (g:Gh) (id:Nat) (o:a03) (b:Nat):Prop:=g.ρ id=b∨a4i g id o b
theorem a2o.ow {P:Program} {g:Gh} {w:World} {H:Heap} (h:a2o P g w H) {i j b:Nat} {o o':a03} (hi:find i H=some o) (hj:find j H=some o') (hn:¬g.nil i) (hn':¬g.nil j) (h1:Owb g i o b) (h2:Owb g j o' b):i=j:=by
 rcases h1 with h1|h1<;>rcases h2 with h2|h2
 ·exact h.inj i j o o' hi hj hn hn' (h1.trans h2.symm)
 ·exact absurd h1 ((h.sub1 j o' b hj hn' h2).2 i o hi hn)
 ·exact absurd h2 ((h.sub1 i o b hi hn h1).2 j o' hj hn')
 ·obtain ⟨k,xss,q,c,rfl,hq,e⟩:=h1
  obtain ⟨k',xss',q',c',rfl,hq',e'⟩:=h2
  exact (h.sub2 i k xss q c j k' xss' q' c' b hi hj hn hn' hq hq' e e').1
theorem a2o.owS {P:Program} {g:Gh} {w:World} {H:Heap} (h:a2o P g w H) {i b:Nat} {o:a03} (hi:find i H=some o) (hn:¬g.nil i) (h1:Owb g i o b):¬g.S b:=by
 rcases h1 with h1|h1
 ·rw [←h1];exact h.sep i o hi hn
 ·exact (h.sub1 i o b hi hn h1).1
theorem OR.subBlock {g:Gh} {w:World} {id b:Nat} {o:a03} (h:OR g w id o) (hn:¬g.nil id) (hs:a4i g id o b):b<w.heap.size:=by
 obtain ⟨k,xss,j,c,rfl,hj,e⟩:=hs
 rcases h with ⟨h,_⟩|⟨_,⟨⟨cur,et,fz,_,_,_,h4⟩,_⟩⟩
 ·exact absurd h hn
 ·have:=h4 j xss[j] (zJ hj)
  rw [e] at this
  obtain ⟨_,_,_,_,_,_,_,_,_,⟨cur',e',fz',h1,_⟩,_⟩:=this
  exact (zF.1 h1).1
theorem OR.owb {g:Gh} {w:World} {id b:Nat} {o:a03} (h:OR g w id o) (hn:¬g.nil id) (hs:Owb g id o b):b<w.heap.size:=by
 rcases hs with rfl|hs
 ·exact h.block hn
 ·exact h.subBlock hn hs
theorem Frm.owb {c:Ctx} {g:Gh} {w:World} {H:Heap} (h:Frm c g w H) {id b:Nat} {o:a03} (hi:find id H=some o) (hn:¬g.nil id) (hs:Owb g id o b):(c.w0.heap.size≤b∨c.M b)∧c.free b:=by
 rcases hs with rfl|hs
 ·exact h.own id o hi hn
 ·exact h.own2 id o b hi hn hs
theorem a2o.step {P:Program} {H0:Heap} {g g':Gh} {σ:St} {w w':World} {e:Eff} (h:a2o P g w σ.heap) (hs:q9 g σ.heap w e g' w') (hf:a0l H0 g g' σ e) :
  a1l g.S w w'∧a2o P g' w' (e.heap σ.heap)∧(∀v x,VR g w v x→(∃s,find s σ.env=some x)→VR g' w' v x):=by
 have hkeep:a1l g.S w w':=fun b hb=>hs.keep b (h.lt b hb) fun id o _ ho hn=>not_or.1 fun he=>h.owS ho hn he hb
 have hag:∀id,(∀o,(id,o)∉e.new)∨g.agree g' id∨((∀s x,find s σ.env=some x→x.has id=false)∧∀n o',find n σ.heap=some o'→n∉e.ids→o'.has id=false):=by
  intro id
  by_cases hn:∃o,(id,o)∈e.new
  ·obtain ⟨o,ho⟩:=hn
   rcases hf id o ho with h1|h1
   ·exact .inr (.inl h1)
   ·exact .inr (.inr h1.2)
  ·exact .inl fun o ho=>hn ⟨o,ho⟩
 have hnid:∀{id},id∉e.ids→∀o',(id,o')∉e.new:=fun hid o' ho'=>hid (by
  simp only [Eff.ids,wC,wZ]
  exact .inr ⟨_,ho',rfl⟩)
 have hold:∀{id o b},id∉e.ids→find id σ.heap=some o→¬g.nil id→Owb g id o b→∀id0 o0,id0∈e.ids→find id0 σ.heap=some o0→¬g.nil id0→g.ρ id0≠b∧¬a4i g id0 o0 b:=by
  intro id o b hid ho hn hb id0 o0 hid0 ho0 hn0
  exact not_or.1 fun he=>hid (h.ow ho0 ho hn0 hn he hb▸hid0)
 have hsb:∀{id o},id∉e.ids→find id σ.heap=some o→¬g.nil id→g'.sub (g.ρ id)=g.sub (g.ρ id):=fun hid ho hn =>
  hs.sb _ ((h.obj _ _ ho).block hn) (hold hid ho hn (.inl rfl))
 have hSub:∀{id o b},id∉e.ids→find id σ.heap=some o→¬g'.nil id→a4i g' id o b→¬g.nil id∧a4i g id o b:=by
  intro id o b hid ho hn hb
  obtain ⟨a1,_,_,a4⟩:=hs.agree id (hnid hid)
  have hn':¬g.nil id:=fun h=>hn (a4.2 h)
  obtain ⟨k,xss,j,c,rfl,hj,e1⟩:=hb
  rw [a1,hsb hid ho hn'] at e1
  exact ⟨hn',k,xss,j,c,rfl,hj,e1⟩
 have hnew:∀{b id o},(w.heap.size≤b∨∃id0 o0,id0∈e.ids∧find id0 σ.heap=some o0∧¬g.nil id0∧(g.ρ id0=b∨a4i g id0 o0 b))→id∉e.ids→find id σ.heap=some o→¬g.nil id→Owb g id o b→False:=by
  intro b id o hb hid ho hn how
  rcases hb with h1|⟨id0,o0,hid0,ho0,hn0,he0⟩
  ·have:=(h.obj id o ho).owb hn how;omega
  ·exact hid (h.ow ho0 ho hn0 hn he0 how▸hid0)
 refine ⟨hkeep,⟨?_,?_,?_,hs.slt,fun w2 hw2=>h.tabs w2 fun b hb=>(hw2 b (hs.sup b hb)).trans (hkeep b hb),?_,?_⟩,?_⟩
 ·intro id o ho
  rcases Eff.find_cases ho with hn|⟨hid,ho⟩
  ·exact hs.obj id o hn
  ·refine (h.obj id o ho).mono hkeep hs.sup (hs.agree id (hnid hid)) (fun hn=>hs.keep _ ((h.obj id o ho).block hn) (hold hid ho hn (.inl rfl))) (fun n hn=>?_) hs.size (fun hn _=>⟨hsb hid ho hn,fun b hb=>hs.keep b ((h.obj id o ho).subBlock hn hb) (hold hid ho hn (.inr hb))⟩)
   rcases hag n with h1|h1|h1
   ·exact hs.agree n h1
   ·exact h1
   ·rw [h1.2 id o ho hid] at hn;cases hn
 ·intro i j o o' hi hj hni hnj he
  rcases Eff.find_cases hi with hi|⟨hii,hi⟩<;>rcases Eff.find_cases hj with hj|⟨hjj,hj⟩
  ·exact hs.inj i j o o' hi hj hni hnj he
  ·obtain ⟨a1,_,_,a4⟩:=hs.agree j (hnid hjj)
   have hnj':¬g.nil j:=fun h=>hnj (a4.2 h)
   exact (hnew (hs.blk i o hi hni) hjj hj hnj' (.inl (by rw [he,a1]))).elim
  ·obtain ⟨a1,_,_,a4⟩:=hs.agree i (hnid hii)
   have hni':¬g.nil i:=fun h=>hni (a4.2 h)
   exact (hnew (hs.blk j o' hj hnj) hii hi hni' (.inl (by rw [←he,a1]))).elim
  ·obtain ⟨a1,_,_,a4⟩:=hs.agree i (hnid hii)
   obtain ⟨b1,_,_,b4⟩:=hs.agree j (hnid hjj)
   exact h.inj i j o o' hi hj (fun h=>hni (a4.2 h)) (fun h=>hnj (b4.2 h)) (by rw [←a1,←b1];exact he)
 ·intro id o ho hn hS
  rcases Eff.find_cases ho with hnew'|⟨hid,ho⟩
  ·exact hs.sep id o hnew' hn hS
  ·obtain ⟨a1,_,_,a4⟩:=hs.agree id (hnid hid)
   have hn':¬g.nil id:=fun h=>hn (a4.2 h)
   rw [a1] at hS
   rcases hs.sub _ hS with h1|h1
   ·exact h.sep id o ho hn' h1
   ·exact hnew h1 hid ho hn' (.inl rfl)
 ·intro z o b hz hn hb
  rcases Eff.find_cases hz with hz|⟨hid,hz⟩
  ·refine ⟨hs.nw.sep z o b hz hn hb,fun id o' ho' hn' he=>?_⟩
   rcases Eff.find_cases ho' with ho'|⟨hid',ho'⟩
   ·exact hs.nw.ne z o b id o' hz hn hb ho' hn' he
   ·obtain ⟨a1,_,_,a4⟩:=hs.agree id (hnid hid')
    exact hnew (hs.nw.blk z o b hz hn hb) hid' ho' (fun h=>hn' (a4.2 h)) (.inl (by rw [←a1];exact he))
  ·obtain ⟨hn0,hb0⟩:=hSub hid hz hn hb
   refine ⟨fun hS=>?_,fun id o' ho' hn' he=>?_⟩
   ·rcases hs.sub _ hS with h1|h1
    ·exact (h.sub1 z o b hz hn0 hb0).1 h1
    ·exact hnew h1 hid hz hn0 (.inr hb0)
   ·rcases Eff.find_cases ho' with ho'|⟨hid',ho'⟩
    ·exact hnew (hs.blk id o' ho' hn') hid hz hn0 (.inr (by rw [he];exact hb0))
    ·obtain ⟨a1,_,_,a4⟩:=hs.agree id (hnid hid')
     exact (h.sub1 z o b hz hn0 hb0).2 id o' ho' (fun h=>hn' (a4.2 h)) (by rw [←a1];exact he)
 ·intro i k xss j c i' k' xss' j' c' b hi hi' hn hn' hj hj' e1 e2
  rcases Eff.find_cases hi with hi|⟨hii,hi⟩<;>rcases Eff.find_cases hi' with hi'|⟨hii',hi'⟩
  ·exact hs.nw.inj i k xss j c i' k' xss' j' c' b hi hi' hn hn' hj hj' e1 e2
  ·obtain ⟨hn0,hb0⟩:=hSub hii' hi' hn' ⟨k',xss',j',c',rfl,hj',e2⟩
   exact (hnew (hs.nw.blk i _ b hi hn ⟨k,xss,j,c,rfl,hj,e1⟩) hii' hi' hn0 (.inr hb0)).elim
  ·obtain ⟨hn0,hb0⟩:=hSub hii hi hn ⟨k,xss,j,c,rfl,hj,e1⟩
   exact (hnew (hs.nw.blk i' _ b hi' hn' ⟨k',xss',j',c',rfl,hj',e2⟩) hii hi hn0 (.inr hb0)).elim
  ·obtain ⟨a1,_,_,a4⟩:=hs.agree i (hnid hii)
   obtain ⟨b1,_,_,b4⟩:=hs.agree i' (hnid hii')
   have n1:¬g.nil i:=fun h=>hn (a4.2 h)
   have n2:¬g.nil i':=fun h=>hn' (b4.2 h)
   rw [a1,hsb hii hi n1] at e1
   rw [b1,hsb hii' hi' n2] at e2
   exact h.sub2 i k xss j c i' k' xss' j' c' b hi hi' n1 n2 hj hj' e1 e2
 ·intro v x hv ⟨s,hx⟩
  refine hv.mono hkeep hs.sup fun id hid=>?_
  rcases hag id with h1|h1|h1
  ·exact hs.agree id h1
  ·exact h1
  ·rw [h1.1 s x hx] at hid;cases hid
theorem Dfr.step {c:Ctx} {g g':Gh} {σ:St} {w w':World} {e:Eff} {ds:List Deferred} (h:Dfr c w ds) (hf:Frm c g w σ.heap) (hk:a1l g.S w w') (hs:q9 g σ.heap w e g' w'):Dfr c w' ds :=
 ⟨h.1,fun b o hb=>⟨(h.2.1 b o hb).1,(hs.keep b (zF.1 (h.2.1 b o hb).2).1 fun id o' _ ho hn=>not_or.1 fun e=>(hf.owb ho hn e).2 o hb).trans (h.2.1 b o hb).2⟩,
  fun b hb=>(hk b (hf.sup b (.inr hb))).trans (h.2.2 b hb)⟩
theorem Frm.step {P:Program} {c:Ctx} {g g':Gh} {σ:St} {w w':World} {e:Eff} {ds:List Deferred} (hH:a2o P g w σ.heap) (hd:Dfr c w ds) (hf:Frm c g w σ.heap) (hs:q9 g σ.heap w e g' w') (hfr:a0l c.H0 g g' σ e):Frm c g' w' (e.heap σ.heap):=by
 have new:∀b,w.heap.size≤b→c.free b:=fun b hb o hm=>by
  have:=(zF.1 (hd.2.1 b o hm).2).1
  omega
 have hnid:∀{id},id∉e.ids→∀o',(id,o')∉e.new:=fun hid o' ho'=>hid (by
  simp only [Eff.ids,wC,wZ]
  exact .inr ⟨_,ho',rfl⟩)
 have hb:∀{b},(w.heap.size≤b∨∃id0 o0,id0∈e.ids∧find id0 σ.heap=some o0∧¬g.nil id0∧(g.ρ id0=b∨a4i g id0 o0 b))→(c.w0.heap.size≤b∨c.M b)∧c.free b:=by
  intro b h
  rcases h with h1|⟨id0,o0,hid0,ho0,hn0,he0⟩
  ·exact ⟨.inl (wV hf.size h1),new _ h1⟩
  ·exact hf.owb ho0 hn0 he0
 refine ⟨hs.os.trans hf.os,hs.tape.trans hf.tape,hs.output.trans hf.output,wV hf.size hs.size,?_,?_,fun b hb=>hs.sup b (hf.sup b hb),?_,?_,?_,fun b hb hM=>(hs.sb b (z7 hb hf.size) fun id o _ ho hn=>not_or.1 fun he=>?_).trans (hf.sb b hb hM)⟩
 rotate_right
 ·rcases (hf.owb ho hn he).1 with h1|h1
  ·omega
  ·exact hM h1
 ·intro b hb hM
  refine (hs.keep b (z7 hb hf.size) fun id o _ ho hn=>not_or.1 fun he=>?_).trans (hf.old b hb hM)
  rcases (hf.owb ho hn he).1 with h1|h1
  ·omega
  ·exact hM h1
 ·intro id o ho hn
  rcases Eff.find_cases ho with hnew|⟨hid,ho⟩
  ·exact hb (hs.blk id o hnew hn)
  ·obtain ⟨a1,_,_,a4⟩:=hs.agree id (hnid hid)
   rw [a1];exact hf.own id o ho fun h=>hn (a4.2 h)
 ·intro b hb'
  rcases hs.sub b hb' with h1|h1
  ·exact hf.sub b h1
  ·exact ⟨.inr (hb h1).1,(hb h1).2⟩
 ·intro id o1 hid
  refine (hf.par id o1 hid).trans ?_
  by_cases hn:∃o,(id,o)∈e.new
  ·obtain ⟨o,ho⟩:=hn
   rcases hfr id o ho with h1|h1
   ·exact h1
   ·rw [hid] at h1;cases h1.1
  ·exact hs.agree id fun o ho=>hn ⟨o,ho⟩
 ·intro id o b ho hn hsb
  rcases Eff.find_cases ho with hnew|⟨hid,ho⟩
  ·exact hb (hs.nw.blk id o b hnew hn hsb)
  ·obtain ⟨a1,_,_,a4⟩:=hs.agree id (hnid hid)
   have hn':¬g.nil id:=fun h=>hn (a4.2 h)
   obtain ⟨k,xss,j,q,rfl,hj,e1⟩:=hsb
   rw [a1,hs.sb _ ((hH.obj _ _ ho).block hn') fun id0 o0 hid0 ho0 hn0=>not_or.1 fun he=>hid (hH.ow ho0 ho hn0 hn' he (.inl rfl)▸hid0)] at e1
   exact hf.own2 id _ b ho hn' ⟨k,xss,j,q,rfl,hj,e1⟩
theorem Rel.step {P:Program} {c:Ctx} {g g':Gh} {σ:St} {a:Act} {w w':World} {d:Option Nat} {v:Value} {e:Eff} (h:Rel P c g σ a w) (hd:∀n,d=some n→n<c.nt)
  (hs:q9 g σ.heap w e g' w') (hf:a0l c.H0 g g' σ e) (hv:VR g' w' v e.val):Rel P c g' (σ.app d e) (a.put d v) w':=by
 obtain ⟨hk,hH,hV⟩:=h.hp.step hs hf
 refine ⟨?_,?_,?_,hH,h.fr.step h.hp h.dfr hs hf⟩
 ·cases d<;>simp [Act.put,h.size]
 ·have:=h.dfr.step h.fr hk hs
  cases d<;>exact this
 ·intro s x hx
  cases d with
  | none =>
   obtain ⟨h1,h2⟩:=h.env s x hx
   exact ⟨h1,hV _ _ h2 ⟨s,hx⟩⟩
  | some d =>
   simp only [St.app,c3o,a0i] at hx
   have hdn:=hd d rfl
   by_cases e1:s=d
   ·subst e1
    simp at hx;subst hx
    refine ⟨hdn,?_⟩
    have hlt:s<a.tmps.size:=by rw [h.size];exact hdn
    simpa [Act.put,zC,hlt] using hv
   ·simp only [e1,if_false] at hx
    obtain ⟨h1,h2⟩:=h.env s x hx
    have hne:¬d=s:=fun e=>e1 e.symm
    refine ⟨h1,?_⟩
    have:=hV _ _ h2 ⟨s,hx⟩
    simpa [Act.put,zC,zA hne] using this
theorem q9.val {g:Gh} {H:Heap} {w w':World} (x:V) (hlt:∀b,g.S b→b<w.heap.size) (h1:w'.os=w.os) (h2:w'.tape=w.tape) (h3:w'.output=w.output) (h4:w'.heap=w.heap) :
  q9 g H w ⟨x,[],[]⟩ g w' :=
 ⟨h1,h2,h3,by rw [h4];exact w8 _,fun b _ _=>by rw [h4],fun _ h=>h,fun b hb=>.inl hb,fun b hb=>by rw [h4];exact hlt b hb,
  fun id _=>Gh.agree.refl _ _,fun _ _ h=>by simp at h,fun _ _ h=>by simp at h,fun _ _ _ _ h=>by simp at h,fun _ _ h=>by simp at h,fun _ _ _=>rfl,a2z.no (by simp)⟩
theorem a0l.val {H0:Heap} {g:Gh} {σ:St} (x:V):a0l H0 g g σ ⟨x,[],[]⟩:=fun _ _ h=>by simp at h
theorem Rel.put {P:Program} {c:Ctx} {g:Gh} {σ:St} {a:Act} {w:World} {d:Option Nat} {v:Value} {x:V} (h:Rel P c g σ a w) (hd:∀n,d=some n→n<c.nt) (hv:VR g w v x) :
  Rel P c g (σ.app d ⟨x,[],[]⟩) (a.put d v) w :=
 h.step hd (q9.val x h.hp.lt rfl rfl rfl rfl) (a0l.val x) hv
def Gh.set (g:Gh) (n b base cap:Nat):Gh :=
 { g with ρ:=fun i=>if i=n then b else g.ρ i,base:=fun i=>if i=n then base else g.base i,cap:=fun i=>if i=n then cap else g.cap i,nil:=fun i=>i≠n∧g.nil i }
theorem Gh.set_agree {g:Gh} {n b base cap i:Nat} (h:i≠n):g.agree (g.set n b base cap) i:=by
 simp [Gh.agree,Gh.set,h]
theorem q9.alloc {g:Gh} {H:Heap} {w w':World} (x:V) (n base cap:Nat) (o:a03) (B:Obj) (hlt:∀b,g.S b→b<w.heap.size) (h1:w'.os=w.os) (h2:w'.tape=w.tape) (h3:w'.output=w.output) (h4:w'.heap=w.heap.push B)
  (ho:OR (g.set n w.heap.size base cap) w' n o) (hr:o.isRws=false:=by rfl):q9 g H w ⟨x,[],[(n,o)]⟩ (g.set n w.heap.size base cap) w':=by
 have hsz:w'.heap.size=w.heap.size+1:=by rw [h4];simp
 refine ⟨h1,h2,h3,by omega,fun b hb _=>?_,fun _ h=>h,fun b hb=>.inl hb,fun b hb=>by have:=hlt b hb;omega,fun id hid=>Gh.set_agree fun e=>hid o (by simp [e]),?_,?_,?_,?_,fun _ _ _=>rfl,a2z.no (by simp [hr])⟩
 ·rw [h4,Array.getElem?_push,if_neg (by omega)]
 ·intro id o' h;simp at h;obtain ⟨rfl,rfl⟩:=h;exact ho
 ·intro id o' h _;simp at h;obtain ⟨rfl,rfl⟩:=h;exact .inl (by simp [Gh.set])
 ·intro i j o1 o2 hi hj;simp at hi hj;intro _ _ _;rw [hi.1,hj.1]
 ·intro id o' h _ hS
  simp at h;obtain ⟨rfl,rfl⟩:=h
  have:(g.set id w.heap.size base cap).ρ id=w.heap.size:=by simp [Gh.set]
  rw [this] at hS
  have:=hlt _ hS
  omega
theorem a0l.one {H0:Heap} {g g':Gh} {σ:St} {x:V} {n:Nat} {o:a03} {dr:List Nat} (hn:find n H0=none) (he:a7v n σ.env=true) (hh:∀m o',find m σ.heap=some o'→m∉(Eff.mk x dr [(n,o)]).ids→o'.has n=false):a0l H0 g g' σ ⟨x,dr,[(n,o)]⟩:=by
 intro id o' h
 simp at h;obtain ⟨rfl,rfl⟩:=h
 exact .inr ⟨hn,fun s x hx=>a2v he hx,hh⟩
theorem q9.upd {P:Program} {g:Gh} {H:Heap} {w w':World} (x:V) (n:Nat) (o o':a03) (hH:a2o P g w H) (hf:find n H=some o) (hn:¬g.nil n) (h1:w'.os=w.os) (h2:w'.tape=w.tape) (h3:w'.output=w.output) (h4:w'.heap.size=w.heap.size)
  (h5:∀b,b≠g.ρ n→w'.heap[b]?=w.heap[b]?) (ho:OR g w' n o') (hr:o'.isRws=false:=by rfl):q9 g H w ⟨x,[],[(n,o')]⟩ g w':=by
 refine ⟨h1,h2,h3,by omega,fun b hb hb'=>h5 b fun e=>(hb' n o (by simp [Eff.ids]) hf hn).1 e.symm,fun _ h=>h,fun b hb=>.inl hb,fun b hb=>by have:=hH.lt b hb;omega,fun id _=>Gh.agree.refl _ _,?_,?_,?_,?_,fun _ _ _=>rfl,a2z.no (by simp [hr])⟩
 ·intro id o1 h;simp at h;obtain ⟨rfl,rfl⟩:=h;exact ho
 ·intro id o1 h _;simp at h;obtain ⟨rfl,rfl⟩:=h;exact .inr ⟨id,o,by simp [Eff.ids],hf,hn,.inl rfl⟩
 ·intro i j o1 o2 hi hj;simp at hi hj;intro _ _ _;rw [hi.1,hj.1]
 ·intro id o1 h hn';simp at h;obtain ⟨rfl,rfl⟩:=h;exact hH.sep _ o hf hn'
theorem a0l.upd {H0:Heap} {g:Gh} {σ:St} (e:Eff):a0l H0 g g σ e:=fun _ _ _=>.inl (Gh.agree.refl _ _)
def callable (P:Program) (f:FuncId):Bool :=
 match P.funcs[f]? with
 | some fn=>!(fn.name == "runtime.NumGoroutine")&&fn.body.isSome
 | none=>false
def l9 (P:Program) (f:FuncId) (args:List V) (H:Heap) (Q:V→Heap→Prop):Prop :=
 callable P f=true∧∀(g:Gh) (w:World) (vals:Array Value),a2o P g w H→vals.size=args.length→(∀(i:Nat) (x:V),args[i]?=some x→VR g w (vals.getD i undef) x) →
  Calls P f vals w fun e w'=>∃v r H' g',e=.returned v∧Q r H'∧a2o P g' w' H'∧VR g' w' v r∧Frm ⟨w,g,H,0,[],[],H,g,w⟩ g' w' H' ∧
   (∀id,find id H'=none→g.agree g' id)
inductive Opd where
 | t (n:Nat)
 | c (v:V)
 | f (n:Nat)
def get (n:Nat):List (Nat×V)→V
 | []=>.any
 | (m,x)::r=>bif Nat.beq n m then x else get n r
theorem a1d (n:Nat):∀l:List (Nat×V),get n l=(find n l).getD .any
 | []=>rfl
 | (m,x)::r=>by
  have:=a1d n r
  simp only [get,find,cond_eq_ite]
  split<;>simp [this]
def Opd.ev (env:List (Nat×V)):Opd→V
 | .t n=>get n env
 | .c v=>v
 | .f n=>.fn (.func n) []
def kEq:IntKind→IntKind→Bool
 | .i8,.i8|.i16,.i16|.i32,.i32|.i64,.i64|.u8,.u8|.u16,.u16|.u32,.u32|.u64,.u64=>true
 | _,_=>false
theorem a7x {a b:IntKind} (h:kEq a b=true):a=b:=by cases a<;>cases b<;>first|rfl|(simp [kEq] at h)
def rng:IntKind→Int→Prop
 | .i8,n=>-128≤n∧n≤127
 | .i16,n=>-32768≤n∧n≤32767
 | .i32,n=>-2147483648≤n∧n≤2147483647
 | .i64,n=>-9223372036854775808≤n∧n≤9223372036854775807
 | .u8,n=>0≤n∧n≤255
 | .u16,n=>0≤n∧n≤65535
 | .u32,n=>0≤n∧n≤4294967295
 | .u64,n=>0≤n∧n≤18446744073709551615
theorem a13 {k:IntKind} {n:Int}:inR k n↔rng k n:=by
 cases k<;>simp [inR,rng,IntKind.min,IntKind.max,IntKind.signed,IntKind.bits]
mutual
def cOK:V→Value→Bool
 | .bool b,.bool b'=>b==b'
 | .int k n,.int k' n'=>kEq k k'&&(n==n')&&decide (k.min≤n)&&decide (n≤k.max)
 | .str s,.string s'=>(s==s'.data.toList)&&decide (s.length≤4611686018427387904)
 | .nils,.slice none 0 0=>true
 | .sl [],.slice none 0 0=>true
 | .nilp,.pointer none=>true
 | .nilm,.map none=>true
 | .nilf,.nilFunc=>true
 | .nili,.nilIface=>true
 | .ifc true,.nilIface=>true
 | .agg cs,.agg vs=>c8j cs vs.toList
 | _,_=>false
def c8j:List V→List Value→Bool
 | [],[]=>true
 | c::cs,v::vs=>cOK c v&&c8j cs vs
 | _,_=>false
end
def Opd.ok:Opd→Operand→Bool
 | .t n,.tmp m=>Nat.beq n m
 | .c v,.const u=>cOK v u
 | .f n,.func m=>Nat.beq n m
 | _,_=>false
def a7u:List Opd→List Operand→Bool
 | [],[]=>true
 | a::r,b::s=>a.ok b&&a7u r s
 | _,_=>false
def b1n:Option Opd→Option Operand→Bool
 | none,none=>true
 | some a,some b=>a.ok b
 | _,_=>false
inductive b9t where
 | mk (kd:KD)
 | lku (kd:KD) (ok:Bool) (z:V)
 | up (kd:KD)
 | del (kd:KD)
 | len
 | rng
 | nxt
 | ent
 | isn (ng:Bool)
 | tab (i:Nat)
 | ups (kd:KD)
 | uss
 | lss
 | mx3
 | ifz (ng:Bool)
 | fnz (ng:Bool)
 | r2s
 | cpy (k:Nat)
 | bnd (f:Nat)
 | apc (k bytes:Nat)
 | mvo
 | mvi
 | apr (k bytes:Nat)
inductive y7 where
 | mv (x:Opd)
 | pick (c a b:Opd)
 | alloc (zs:List V) (t:Option TypeId:=none)
 | box (x:Opd)
 | build (zs:List V) (parts:List (Nat×Nat×Opd))
 | bslice (k:Nat) (xs:List Opd) (uv:Bool:=false)
 | ld (n:Option Nat) (a:Opd)
 | st (n:Nat) (a v:Opd)
 | nck (a:Opd)
 | bin (chk:Bool) (op:BinOp) (x y:Opd)
 | mask (m:Nat) (x:Opd) (k:IntKind)
 | beq (neg:Bool) (x y:Opd)
 | eqs (neg:Bool) (ks:List Nat) (x y:Opd)
 | not (x:Opd)
 | neg (chk:Bool) (x:Opd)
 | i2i (chk:Bool) (k:IntKind) (x:Opd)
 | idc (x:Opd)
 | s2b (x:Opd)
 | mks (x:Opd)
 | b2s (x:Opd)
 | mkfn (f:Nat) (cap:List Opd)
 | mksl (k bytes:Nat) (z:V) (l c:Opd)
 | sls (x:Opd) (lo hi:Option Opd)
 | slc (k:Nat) (x:Opd) (lo hi:Option Opd)
 | fad (off:Nat) (x:Opd)
 | fld (n:Option Nat) (off:Nat) (x:Opd)
 | iad (k:Nat) (x i:Opd)
 | idx (x i:Opd)
 | aix (n:Option Nat) (k cnt:Nat) (x i:Opd)
 | aad (k cnt:Nat) (x i:Opd)
 | barr (k:Nat) (zs:List V) (xs:List Opd)
 | lsl (k:Nat) (xs:List Opd)
 | ls2b (x:Opd)
 | ext (i:Nat) (x:Opd)
 | len (s:Bool) (x:Opd)
 | app (k bytes:Nat) (x y:Opd) (ty:Option TypeId:=none)
 | mm (mx:Bool) (x y:Opd)
 | mp (m:b9t) (xs:List Opd)
 | call (f:Opd) (args:List Opd) (ids news:List Nat)
def a5a:Option Opd→List Opd
 | some x=>[x]
 | none=>[]
def y7.opds:y7→List Opd
 | .mv x|.box x|.ld _ x|.nck x|.mask _ x _|.not x|.neg _ x|.i2i _ _ x|.idc x|.s2b x|.mks x|.b2s x|.ls2b x|.fad _ x|.fld _ _ x|.ext _ x|.len _ x=>[x]
 | .pick c a b=>[c,a,b]
 | .alloc ..=>[]
 | .build _ ps=>ps.map fun p=>p.2.2
 | .bslice _ xs _=>xs
 | .barr _ _ xs=>xs
 | .lsl _ xs=>xs
 | .st _ a v|.bin _ _ a v|.eqs _ _ a v|.beq _ a v|.mksl _ _ _ a v|.iad _ a v|.idx a v|.aix _ _ _ a v|.aad _ _ a v|.app _ _ a v _|.mm _ a v=>[a,v]
 | .mkfn _ cap=>cap
 | .mp _ xs=>xs
 | .sls x lo hi|.slc _ x lo hi=>x::(a5a lo++a5a hi)
 | .call f args _ _=>f::args
def vid:V→List Nat
 | .ptr id _|.osl id _ _ _|.optr id _ _ _|.omap id|.bptr id=>[id]
 | _=>[]
def y7.touch:y7→List V→List Nat
 | .ld ..,a::_=>vid a
 | .st ..,a::_=>vid a
 | .b2s _,a::_=>vid a
 | .mks _,a::_=>vid a
 | .app ..,a::b::_=>vid a++vid b
 | .mp (.ups _) _,a::_::v::_=>vid a++vid v
 | .mp .uss _,a::v::_=>vid a++vid v
 | .mp .lss _,vs=>vs.flatMap vid
 | .mp (.apc _ _) _,a::v::_=>vid a++vid v
 | .mp (.apr _ _) _,a::v::_=>vid a++vid v
 | .mp .mvi _,a::v::_=>vid a++vid v
 | .mp ..,a::_=>vid a
 | .call _ _ ids _,_=>ids
 | _,_=>[]
def y7.creates:y7→Nat→List Nat
 | .alloc ..,d|.box _,d|.bslice ..,d|.s2b _,d|.mksl ..,d|.app ..,d=>[d]
 | .mp (.mk _) _,d|.mp .rng _,d|.mp (.apc _ _) _,d|.mp .mvo _,d|.mp (.apr _ _) _,d=>[d]
 | .call _ _ _ news,_=>news
 | _,_=>[]
def a1o (n:Nat):Bool:=decide (n≤9223372036854775807)
theorem a9r {n:Nat}:a1o n=true↔n≤9223372036854775807:=by simp [a1o]
attribute [irreducible] a1o
def u8 (n:Int):UInt8:=UInt8.ofNat (n % 256).toNat
def asc (n:Int):Bool:=decide (0≤n)&&decide (n<128)
theorem e0t {n:Int}:asc n=true↔0≤n∧n<128:=by simp [asc]
def eqn (a b:Nat):Bool:=Nat.beq a b
theorem c1c {a b:Nat}:eqn a b=true↔a=b:=by simp [eqn]
attribute [irreducible] asc eqn
def d40 (chk:Bool) (op:BinOp) (x y:V) (K:V→Prop):Prop :=
 match x,y with
 | .int k a,.int k' b =>
  match op with
  | .add=>bif kEq k k' then (bif chk then rng k (a+b)∧K (.int k (a+b)) else K (.int k (k.wrap (a+b)))) else False
  | .sub=>bif kEq k k' then (bif chk then rng k (a - b)∧K (.int k (a - b)) else K (.int k (k.wrap (a - b)))) else False
  | .mul=>bif kEq k k' then (bif chk then rng k (a*b)∧K (.int k (a*b)) else K (.int k (k.wrap (a*b)))) else False
  | .quo=>bif kEq k k' then (bif chk then (0≤a∧0<b)∧K (.int k (a / b)) else b≠0∧K (.int k (k.wrap (a.tdiv b)))) else False
  | .rem=>bif kEq k k' then (bif chk then (0≤a∧0<b)∧K (.int k (a % b)) else b≠0∧K (.int k (a.tmod b))) else False
  | .and=>bif kEq k k' then K (.int k (bits .and k a b)) else False
  | .or=>bif kEq k k' then K (.int k (bits .or k a b)) else False
  | .xor=>bif kEq k k' then K (.int k (bits .xor k a b)) else False
  | .andNot=>bif kEq k k' then K (.int k (bits .andNot k a b)) else False
  | .eql=>bif kEq k k' then K (.bool (decide (a=b))) else False
  | .neq=>bif kEq k k' then K (.bool (!decide (a=b))) else False
  | .lss=>bif kEq k k' then K (.bool (decide (a<b))) else False
  | .leq=>bif kEq k k' then K (.bool (decide (a≤b))) else False
  | .gtr=>bif kEq k k' then K (.bool (decide (b<a))) else False
  | .geq=>bif kEq k k' then K (.bool (decide (b≤a))) else False
  | .shl=>(0≤b∧b≤k.bits)∧K (.int k (k.wrap (a*2^b.toNat)))
  | .shr=>(0≤b∧b≤k.bits)∧K (.int k (a / 2^b.toNat))
 | .str a,.str b =>
  match op with
  | .add=>a1o (a.length+b.length)=true∧K (.str (a++b))
  | .eql=>K (.bool (decide (a=b)))
  | .neq=>K (.bool (!decide (a=b)))
  | .lss=>K (.bool (Op.bytesLess a b))
  | .leq=>K (.bool (Op.bytesLess a b||decide (a=b)))
  | .gtr=>K (.bool (!(Op.bytesLess a b||decide (a=b))))
  | .geq=>K (.bool (!Op.bytesLess a b))
  | _=>False
 | _,_=>False
def a0o:List Nat→List V→List V→Option Bool
 | [],[],[]=>some true
 | 0::q,.int k a::r,.int k' b::s=>bif kEq k k' then (a0o q r s).map fun t=>decide (a=b)&&t else none
 | 1::q,.str a::r,.str b::s=>(a0o q r s).map fun t=>decide (a=b)&&t
 | 2::q,.bool a::r,.bool b::s=>(a0o q r s).map fun t=>(a==b)&&t
 | _,_,_=>none
def setCells (cs:List V) (off:Nat) (ys:List V):List V:=cs.take off++ys++cs.drop (off+ys.length)
def V.nany:V→Bool
 | .any|.at_ _ _=>false
 | _=>true
def b0g:List V→List (Nat×Nat×V)→Option (List V)
 | cs,[]=>some cs
 | cs,(off,n,x)::r=>bif x.nany&&Nat.beq x.cells.length n&&Nat.ble (off+n) cs.length then b0g (setCells cs off x.cells) r else none
def part (n:Option Nat) (off:Nat) (cs:List V) (K:V→Prop):Prop :=
 match n with
 | none=>match cs.drop off with
  | c::_=>K c
  | []=>False
 | some n=>bif Nat.ble (off+n) cs.length then K (.agg ((cs.drop off).take n)) else False
def a3f (k:Nat) (x:V):Bool:=Nat.beq x.cells.length k&&x.cells.all V.one&&x.sealed
def V.elems:V→Option (List V)
 | .nils=>some []
 | .sl xs=>some xs
 | _=>none
def bounds (lo hi:Bool) (len:Nat) (r:List V):Option (Int×Int) :=
 match lo,hi,r with
 | true,true,[.int _ a,.int _ b]=>some (a,b)
 | true,false,[.int _ a]=>some (a,(len:Int))
 | false,true,[.int _ b]=>some (0,b)
 | false,false,[]=>some (0,(len:Int))
 | _,_,_=>none
def b8c:List Nat→(Nat→Option a03)→Option Heap
 | [],_=>some []
 | n::r,ob=>match ob n with
  | some o=>(b8c r ob).map fun H=>(n,o)::H
  | none=>none
def mem (n:Nat):List Nat→Bool
 | []=>false
 | m::r=>Nat.beq n m||mem n r
def b1t:Heap→List Nat→List Nat→Bool
 | [],_,_=>true
 | (n,_)::r,ids,news=>(mem n ids||mem n news)&&(match find n r with|none=>true|some _=>false)&&b1t r ids news
def c08 (c a b:V) (K:V→Prop):Prop :=
 match c with
 | .bool t=>match a,b with
  | .bool x,.bool y=>K (.bool (bif t then x else y))
  | _,_=>bif t then K a else K b
 | _=>False
def sLd (n:Option Nat) (a:V) (ob:Nat→Option a03) (K L:V→Prop):Prop :=
 match a with
 | .ptr id off=>match ob id with
  | some (.cells cs _)=>part n off cs K
  | _=>False
 | .eptr x off=>part n off x.cells K
 | .optr id k i off=>match ob id with
  | some (.arr k' xs _)=>bif Nat.beq k k' then ∃x,xs[i]?=some x∧part n off x.cells L else False
  | _=>False
 | _=>False
def sSt (n:Nat) (a v:V) (ob:Nat→Option a03) (K L:Nat→a03→Prop):Prop :=
 bif Nat.beq v.cells.length n&&v.cells.all V.one then
  match a with
  | .ptr id off=>match ob id with
   | some (.cells cs t)=>bif Nat.ble (off+n) cs.length then K id (.cells (setCells cs off v.cells) t) else False
   | _=>False
  | .optr id k i off=>match ob id with
   | some (.arr k' xs t)=>bif Nat.beq k k'&&v.sealed then
     (bif Nat.beq off 0&&Nat.beq n k then i<xs.length∧K id (.arr k (xs.set i v) t)
      else ∃cs,xs[i]?=some (.agg cs)∧off+n≤k∧L id (.arr k (xs.set i (.agg (setCells cs off v.cells))) t)) else False
   | _=>False
  | _=>False
 else False
def e1s (a:V) (K:V→Prop):Prop :=
 match a with
 | .ptr ..|.eptr ..|.optr ..=>K a
 | _=>False
def c0c (m:Nat) (k:IntKind) (x:V) (K:V→Prop):Prop :=
 match x with
 | .int k' a=>bif kEq k k' then K (.int k (a % 2^m)) else False
 | _=>False
def e1y (ng:Bool) (x y:V) (K:V→Prop):Prop :=
 match x,y with
 | .bool a,.bool b=>K (.bool (bif ng then !(a==b) else a==b))
 | _,_=>False
def d5u (ng:Bool) (ks:List Nat) (x y:V) (K:V→Prop):Prop :=
 match x,y with
 | .agg cs,.agg ds=>match a0o ks cs ds with
  | some t=>K (.bool (bif ng then !t else t))
  | none=>False
 | _,_=>False
def e1q (x:V) (K:V→Prop):Prop :=
 match x with
 | .bool t=>K (.bool (!t))
 | _=>False
def e1r (chk:Bool) (x:V) (K:V→Prop):Prop :=
 match x with
 | .int k a=>bif chk then rng k (-a)∧K (.int k (-a)) else K (.int k (k.wrap (0 - a)))
 | _=>False
def e1v (chk:Bool) (k:IntKind) (x:V) (K:V→Prop):Prop :=
 match x with
 | .int _ a=>bif chk then rng k a∧K (.int k a) else K (.int k (k.wrap a))
 | _=>False
def e1u (x:V) (K:V→Prop):Prop :=
 match x with
 | .str _=>K x
 | _=>False
def a0a (c:UInt8):V:=.int .u8 c.toNat
def d5d (d:Nat) (x:V) (K:Eff→Prop):Prop :=
 match x with
 | .str s=>K ⟨.osl d 1 0 s.length,[],[(d,.arr 1 (s.map a0a))]⟩
 | _=>False
def c65 (x:V) (ob:Nat→Option a03) (K L:V→Prop):Prop :=
 match x with
 | .nils=>K (.str [])
 | .sl xs=>∃s:List UInt8,xs=s.map a0a∧L (.str s)
 | .osl id k lo n=>match ob id with
  | some (.arr k' xs _)=>bif Nat.beq k k'&&Nat.beq k 1 then ∃s:List UInt8,(xs.drop lo).take n=s.map a0a∧s.length=n∧L (.str s) else False
  | _=>False
 | _=>False
def uvT:Bool→Option TypeId
 | true=>some d3u
 | false=>none
def c9j (x:V) (ob:Nat→Option a03) (K:Eff→Prop):Prop :=
 match x with
 | .osl id k lo n=>match ob id with
  | some (.arr k' xs t)=>bif Nat.beq k k'&&Nat.beq k 1&&Nat.blt 0 n then K ⟨.osl id k lo n,[],[(id,.arr k' xs (tyF t))]⟩ else False
  | _=>False
 | _=>False
def c09 (k bytes d:Nat) (z l c:V) (K:Eff→Prop):Prop :=
 match l,c with
 | .int .i64 a,.int .i64 b=>(0≤a∧a≤b∧b*bytes≤140737488355328)∧K ⟨.osl d k 0 a.toNat,[],[(d,.arr k (List.replicate a.toNat z))]⟩
 | _,_=>False
def d5a (lo hi:Bool) (x:V) (r:List V) (K:V→Prop):Prop :=
 match x with
 | .str s=>match bounds lo hi s.length r with
  | some (a,b)=>(0≤a∧a≤b∧b≤s.length)∧K (.str ((s.take b.toNat).drop a.toNat))
  | none=>False
 | _=>False
def d3y (k:Nat) (lo hi:Bool) (x:V) (r:List V) (K:V→Prop):Prop :=
 match x with
 | .sl xs=>match bounds lo hi xs.length r with
  | some (a,b)=>(0≤a∧a≤b∧b≤xs.length)∧(∀x∈xs,x.cells.length=k)∧K (.sl ((xs.take b.toNat).drop a.toNat))
  | none=>False
 | .osl id k' l n=>match bounds lo hi n r with
  | some (a,b)=>bif Nat.beq k k' then (0≤a∧a≤b∧b≤n)∧K (.osl id k (l+a.toNat) (b.toNat - a.toNat)) else False
  | none=>False
 | _=>False
def e1x (off:Nat) (x:V) (K:V→Prop):Prop :=
 match x with
 | .ptr id o=>K (.ptr id (o+off))
 | .eptr y o=>K (.eptr y (o+off))
 | .optr id k i o=>K (.optr id k i (o+off))
 | _=>False
def e1w (n:Option Nat) (off:Nat) (x:V) (K:V→Prop):Prop :=
 match x with
 | .agg cs=>part n off cs K
 | _=>False
def c9k (k:Nat) (x i:V) (K L:V→Prop):Prop :=
 match i with
 | .int _ n=>match x with
  | .sl xs=>0≤n∧∃y,xs[n.toNat]?=some y∧y.cells.length=k∧L (.eptr y 0)
  | .osl id k' lo m=>bif Nat.beq k k' then (0≤n∧n<m)∧K (.optr id k (lo+n.toNat) 0) else False
  | _=>False
 | _=>False
def e1t (x i:V) (K:V→Prop):Prop :=
 match x,i with
 | .str s,.int _ n=>(0≤n∧n<s.length)∧K (.int .u8 (s.getD n.toNat 0).toNat)
 | _,_=>False
def e1z (n:Option Nat) (k cnt:Nat) (x i:V) (K:V→Prop):Prop :=
 match x,i with
 | .agg cs,.int _ m=>(0≤m∧m<cnt)∧part n (m.toNat*k) cs K
 | _,_=>False
def e2a (k cnt:Nat) (x i:V) (K:V→Prop):Prop :=
 match x,i with
 | .ptr id o,.int _ m=>(0≤m∧m<cnt)∧K (.ptr id (o+m.toNat*k))
 | .eptr y o,.int _ m=>(0≤m∧m<cnt)∧K (.eptr y (o+m.toNat*k))
 | .optr id q i o,.int _ m=>(0≤m∧m<cnt)∧K (.optr id q i (o+m.toNat*k))
 | _,_=>False
def a2m (k:Nat):Nat→List V→List (Nat×Nat×V)
 | _,[]=>[]
 | n,x::r=>(n*k,k,x)::a2m k (n+1) r
def c3q (x:V) (K:V→Prop):Prop :=
 match x with
 | .str s=>K (.sl (s.map a0a))
 | _=>False
def d5s (i:Nat) (x:V) (K:V→Prop):Prop :=
 match x with
 | .tup cs=>match cs.drop i with
  | c::_=>K c
  | []=>False
 | _=>False
def sLen (s:Bool) (x:V) (K:V→Prop):Prop :=
 match x with
 | .str t=>bif s then K (.int .i64 t.length) else False
 | .nils=>bif s then False else K (.int .i64 0)
 | .sl xs=>bif s then False else K (.int .i64 xs.length)
 | .osl _ _ _ n=>bif s then False else K (.int .i64 n)
 | _=>False
def a5c (k:Nat) (y:V) (ob:Nat→Option a03):Option (List V) :=
 match y with
 | .nils=>some []
 | .sl ys=>some ys
 | .osl id k' lo n=>match ob id with
  | some (.arr k'' ys _)=>bif Nat.beq k k'&&Nat.beq k k'' then some ((ys.drop lo).take n) else none
  | _=>none
 | .str s=>bif Nat.beq k 1 then some (s.map a0a) else none
 | _=>none
def d3t:V→Nat
 | .osl _ _ _ n=>n
 | _=>0
def tyJ:Option TypeId→Option TypeId→Option TypeId
 | some a,some b=>bif Nat.beq a b then some a else none
 | _,_=>none
def c1u (k bytes d:Nat) (ty:Option TypeId) (x y:V) (ob:Nat→Option a03) (K:Eff→Prop):Prop :=
 match a5c k y ob with
 | some ys=>d3t y≤ys.length∧match x with
  | .nils=>(ys.length*bytes≤140737488355328∧∀y∈ys,y.cells.length=k)∧K ⟨.osl d k 0 ys.length,[],[(d,.arr k ys ty)]⟩
  | .osl id k' lo n=>match ob id with
   | some (.arr k'' xs t0)=>bif Nat.beq k k'&&Nat.beq k k'' then (lo+n=xs.length∧(n+ys.length)*bytes≤140737488355328∧∀y∈ys,y.cells.length=k)∧K ⟨.osl d k 0 (n+ys.length),[id],[(d,.arr k (xs.drop lo++ys) (tyJ t0 ty))]⟩ else False
   | _=>False
  | _=>False
 | none=>False
def sMm (mx:Bool) (x y:V) (K:V→Prop):Prop :=
 match x,y with
 | .int k a,.int k' b=>bif kEq k k' then K (.int k (bif mx then max a b else min a b)) else False
 | _,_=>False
def b3n (P:Program) (f:V) (args:List V) (ids news:List Nat) (ob:Nat→Option a03) (L:Eff→Prop):Prop :=
 match f with
 | .fn (.func n) cap=>match b8c ids ob with
  | some H=>l9 P n (args++cap) H fun r H'=>(bif b1t H' ids news then L ⟨r,ids,H'⟩ else False)
  | none=>False
 | .fn (.yield n) fs=>match b8c ids ob with
  | some H=>l9 P n (fs++args) H fun r H'=>(bif b1t H' ids news then L ⟨r,ids,H'⟩ else False)
  | none=>False
 | _=>False
def d5w (d:Nat) (x:V) (K:Eff→Prop):Prop :=
 match x with
 | .any=>False
 | .at_ _ _=>False
 | .agg cs=>K ⟨.ptr d 0,[],[(d,.cells cs)]⟩
 | x=>K ⟨.ptr d 0,[],[(d,.cells [x])]⟩
def evl (x:V):Eff:=⟨x,[],[]⟩
def eup (id:Nat) (o:a03):Eff:=⟨.any,[],[(id,o)]⟩
def c7a:List V→List V→Bool
 | [],[]=>true
 | .int _ a::r,.int _ b::s=>decide (a=b)&&c7a r s
 | _,_=>false
def keq:V→V→Bool
 | .agg r,.agg s=>c7a r s
 | .int _ a,.int _ b=>decide (a=b)
 | .str a,.str b=>decide (a=b)
 | .bool a,.bool b=>a==b
 | _,_=>false
def b5w (k:V):List (V×V)→Option V
 | []=>none
 | (a,b)::r=>bif keq k a then some b else b5w k r
def b2v (k v:V):List (V×V)→List (V×V)
 | []=>[(k,v)]
 | (a,b)::r=>bif keq k a then (a,v)::r else (a,b)::b2v k v r
def b6l (k:V):List (V×V)→List (V×V)
 | []=>[]
 | (a,b)::r=>bif keq k a then r else (a,b)::b6l k r
def b1s (x:V) (ob:Nat→Option a03) (K:KD→List (V×V)→Prop):Prop :=
 match x with
 | .smap kd es=>K kd es
 | .omap id=>match ob id with
  | some (.map kd es)=>K kd es
  | some (.nmap _ _ kd es)=>K kd es
  | _=>False
 | _=>False
def a5z (ok:Bool) (z:V):Option V→V
 | none=>bif ok then .tup [z,.bool false] else z
 | some v=>bif ok then .tup [v,.bool true] else v
def f4z (m p:Nat):Option V→V
 | some (.sl xs)=>.nsl m p xs
 | _=>.nsl m p []
def b6m (ok:Bool) (m p:Nat) (o:Option V):V:=bif ok then .tup [f4z m p o,.bool o.isSome] else f4z m p o
def V.isNilS:V→Bool
 | .nils|.sl []=>true
 | _=>false
def a9s (ob:Nat→Option a03):List V→Option (List V×List Nat)
 | []=>some ([],[])
 | .osl j q 0 n::r=>match ob j with
  | some (.arr q' ys _)=>bif Nat.beq q q'&&Nat.beq n ys.length then (match a9s ob r with|some p=>some (.sl ys::p.1,j::p.2)|none=>none) else none
  | _=>none
 | x::r=>bif a3f 1 x then (match a9s ob r with|some p=>some (x::p.1,p.2)|none=>none) else none
def e2h (ng:Bool) (x:V) (K:Eff→Prop):Prop:=match x with
 | .nilf=>K (evl (.bool (!ng)))
 | .fn (.func _) _=>K (evl (.bool ng))
 | _=>False
def d0j (lo n len m bytes:Nat):Bool:=decide (lo+n≤len)&&decide ((n+m)*bytes≤140737488355328)
theorem c6b {lo n len m bytes:Nat}:d0j lo n len m bytes=true↔lo+n≤len∧(n+m)*bytes≤140737488355328:=by simp [d0j]
attribute [irreducible] d0j
def e2c (i:Nat) (xss:List (List V)):Bool:=Nat.blt i xss.length&&!a2w (xss.getD i [])
def e2d (i:Nat) (xss:List (List V)):Bool:=Nat.blt i xss.length&&a2w (xss.getD i [])
def a9v (n bytes:Nat):Bool:=Nat.ble ((n+1)*bytes) 140737488355328
theorem c1v {i:Nat} {xss:List (List V)}:e2c i xss=true↔i<xss.length∧a2w (xss.getD i [])=false:=by
 simp [e2c]
theorem c1w {i:Nat} {xss:List (List V)}:e2d i xss=true↔i<xss.length∧a2w (xss.getD i [])=true:=by
 simp [e2d]
theorem b6c {n bytes:Nat}:a9v n bytes=true↔(n+1)*bytes≤140737488355328:=by
 simp [a9v]
attribute [irreducible] e2c e2d a9v
def b8u:List V→Bool
 | [.nils]=>true
 | _=>false
def a0v (op:b9t) (d:Nat) (vs:List V) (ob:Nat→Option a03) (K L:Eff→Prop):Prop :=
 match op,vs with
 | .mk kd,[]=>K ⟨.omap d,[],[(d,.map kd [])]⟩
 | .lku kd ok z,[x,k]=>match x with
  | .nilm=>bif kd.is k then K (evl (a5z ok z none)) else False
  | .nsmap m p kd' es=>bif kd.is k&&kd'.is k&&z.isNilS then K (evl (b6m ok m p (b5w k es))) else False
  | x=>b1s x ob fun kd' es=>bif kd.is k&&kd'.is k then K (evl (a5z ok z (b5w k es))) else False
 | .up kd',[.omap id,k,v]=>match ob id with
  | some (.map kd es)=>bif kd'.is k&&kd.is k&&v.sealed then K (eup id (.map kd (b2v k v es))) else False
  | _=>False
 | .del kd',[.omap id,k]=>match ob id with
  | some (.map kd es)=>bif kd'.is k&&kd.is k then K ⟨.tup [],[],[(id,.map kd (b6l k es))]⟩ else False
  | _=>False
 | .len,[x]=>match x with
  | .nilm=>K (evl (.int .i64 0))
  | x=>b1s x ob fun _ es=>(es.length:Int)≤9223372036854775807∧K (evl (.int .i64 es.length))
 | .rng,[x]=>match x with
  | .nilm=>K ⟨.ptr d 0,[],[(d,.iter [] none)]⟩
  | .smap _ es=>K ⟨.ptr d 0,[],[(d,.iter es none)]⟩
  | _=>False
 | .nxt,[.ptr id 0]=>match ob id with
  | some (.iter rem _)=>(rem=[]→L ⟨.tup [.bool false],[],[(id,.iter [] none)]⟩)∧∀(i:Nat) (e:V×V),rem[i]?=some e→L ⟨.tup [.bool true,e.1,e.2],[],[(id,.iter (rem.eraseIdx i) (some e))]⟩
  | _=>False
 | .ent,[.ptr id 0]=>match ob id with
  | some (.iter _ (some e))=>K (evl (.tup [e.1,e.2]))
  | _=>False
 | .isn ng,[x]=>match x with
  | .nils=>L (evl (.bool (!ng)))
  | .sl xs=>(xs=[]→L (evl (.bool (!ng))))∧L (evl (.bool ng))
  | .osl _ _ _ n=>(n=0→L (evl (.bool (!ng))))∧L (evl (.bool ng))
  | _=>False
 | .tab i,[]=>match c06[i]? with
  | some d=>K (evl (.agg (d.2.2.map (V.int d.2.1))))
  | none=>False
 | .ups kd',[.omap id,k,.osl j q 0 n]=>match ob id,ob j with
  | some (.map kd es),some (.arr q' xs _)=>bif kd'.is k&&kd.is k&&(Nat.beq q q'&&Nat.beq n xs.length&&!Nat.beq id j) then K ⟨.any,[j],[(id,.map kd (b2v k (.sl xs) es))]⟩ else False
  | some (.nmap z p kd es),some (.arr q' xs _)=>bif kd'.is k&&kd.is k&&(Nat.beq q q'&&Nat.beq n xs.length&&!Nat.beq id j)&&Nat.beq q p then K ⟨.any,[j],[(id,.nmap z p kd (b2v k (.sl xs) es))]⟩ else False
  | _,_=>False
 | .uss,[.optr id k i 0,.osl j q 0 n]=>match ob id,ob j with
  | some (.arr k' xs t),some (.arr q' ys _)=>bif Nat.beq k 1&&Nat.beq k' 1&&(Nat.beq q q'&&Nat.beq n ys.length&&!Nat.beq id j) then i<xs.length∧K ⟨.any,[j],[(id,.arr 1 (xs.set i (.sl ys)) t)]⟩ else False
  | _,_=>False
 | .lss,vs=>match a9s ob vs with
  | some p=>K ⟨.sl p.1,p.2,[]⟩
  | none=>False
 | .ifz ng,[.ifc b]=>K (evl (.bool (bif ng then !b else b)))
 | .r2s,[.int _ a]=>asc a=true∧K (evl (.str [u8 a]))
 | .cpy q,[.osl id k 0 n,.sl ys]=>match ob id with
  | some (.arr k' xs t)=>bif Nat.beq k q&&Nat.beq k k'&&Nat.beq n xs.length then (eqn ys.length n=true∧∀y∈ys,y.cells.length=k)∧K ⟨.int .i64 n,[],[(id,.arr k ys t)]⟩ else False
  | _=>False
 | .bnd f,vs=>K (evl (.fn (.yield f) vs))
 | .fnz ng,[x]=>e2h ng x K
 | .mx3,[.int k a,.int k' b,.int k'' e]=>bif kEq k k'&&kEq k k'' then K (evl (.int k (max (max a b) e))) else False
 | .apc k bytes,[.osl id k' lo n,y]=>match a5c k y ob with
  | some ys=>d3t y≤ys.length∧match ob id with
   | some (.arr k'' xs _)=>bif Nat.beq k k'&&Nat.beq k k''&&!y.has id then (d0j lo n xs.length ys.length bytes=true∧∀y∈ys,y.cells.length=k)∧K ⟨.osl d k 0 ((xs.drop lo).take n++ys).length,[id],[(d,.arr k ((xs.drop lo).take n++ys))]⟩ else False
   | _=>False
  | none=>False
 | .mvo,[.optr z q i 0]=>match ob z with
  | some (.rws k xss)=>bif Nat.beq q 1&&!Nat.beq z d then e2c i xss=true∧K ⟨.osl d k 0 (xss.getD i []).length,[],[(d,.arr k (xss.getD i [])),(z,.rws k (xss.set i [.any]))]⟩ else False
  | _=>False
 | .mvi,[.optr z q i 0,.osl e k 0 n]=>match ob z,ob e with
  | some (.rws k' xss),some (.arr k'' ys _)=>bif Nat.beq q 1&&Nat.beq k k'&&(Nat.beq k k''&&Nat.beq n ys.length) then e2d i xss=true∧K ⟨.any,[e],[(z,.rws k (xss.set i ys))]⟩ else False
  | _,_=>False
 | .apr k bytes,[x,y]=>match a5c 1 y ob with
  | some ys=>d3t y≤ys.length∧bif b8u ys then (match x with
   | .nils=>a9v 0 bytes=true∧K ⟨.osl d 1 0 1,[],[(d,.rws k [[]])]⟩
   | .osl z q 0 n=>match ob z with
    | some (.rws k' xss)=>bif Nat.beq q 1&&Nat.beq k k'&&Nat.beq n xss.length then a9v n bytes=true∧K ⟨.osl d 1 0 (n+1),[z],[(d,.rws k (xss++[[]]))]⟩ else False
    | _=>False
   | _=>False) else False
  | none=>False
 | _,_=>False
def o6 (P:Program) (i:y7) (d:Nat) (vs:List V) (ob:Nat→Option a03) (K L:Eff→Prop):Prop :=
 match i,vs with
 | .mv _,[x]=>K (evl x)
 | .pick ..,[c,a,b]=>c08 c a b fun x=>K (evl x)
 | .alloc zs t,_=>K ⟨.ptr d 0,[],[(d,.cells zs t)]⟩
 | .box _,[x]=>d5w d x K
 | .build zs ps,vs=>match b0g zs ((ps.zip vs).map fun p=>(p.1.1,p.1.2.1,p.2)) with
  | some cs=>K (evl (.agg cs))
  | none=>False
 | .bslice k _ uv,vs=>bif vs.all (a3f k) then K ⟨.osl d k 0 vs.length,[],[(d,.arr k vs (uvT uv))]⟩ else False
 | .ld n _,[a]=>sLd n a ob (fun x=>K (evl x)) (fun x=>L (evl x))
 | .st n _ _,[a,v]=>sSt n a v ob (fun id o=>K (eup id o)) (fun id o=>L (eup id o))
 | .nck _,[a]=>e1s a fun x=>K (evl x)
 | .bin chk op _ _,[x,y]=>d40 chk op x y fun r=>K (evl r)
 | .mask m _ k,[x]=>c0c m k x fun r=>K (evl r)
 | .beq ng _ _,[x,y]=>e1y ng x y fun r=>K (evl r)
 | .eqs ng ks _ _,[x,y]=>d5u ng ks x y fun r=>K (evl r)
 | .not _,[x]=>e1q x fun r=>K (evl r)
 | .neg chk _,[x]=>e1r chk x fun r=>K (evl r)
 | .i2i chk k _,[x]=>e1v chk k x fun r=>K (evl r)
 | .idc _,[x]=>e1u x fun r=>K (evl r)
 | .s2b _,[x]=>d5d d x K
 | .mks _,[x]=>c9j x ob K
 | .b2s _,[x]=>c65 x ob (fun r=>K (evl r)) (fun r=>L (evl r))
 | .mkfn f _,vs=>K (evl (.fn (.func f) vs))
 | .mksl k bytes z _ _,[l,c]=>c09 k bytes d z l c K
 | .sls _ lo hi,x::r=>d5a lo.isSome hi.isSome x r fun r=>K (evl r)
 | .slc k _ lo hi,x::r=>d3y k lo.isSome hi.isSome x r fun r=>K (evl r)
 | .fad off _,[x]=>e1x off x fun r=>K (evl r)
 | .fld n off _,[x]=>e1w n off x fun r=>K (evl r)
 | .iad k _ _,[x,i]=>c9k k x i (fun r=>K (evl r)) (fun r=>L (evl r))
 | .idx _ _,[x,i]=>e1t x i fun r=>K (evl r)
 | .aix n k cnt _ _,[x,i]=>e1z n k cnt x i fun r=>K (evl r)
 | .aad k cnt _ _,[x,i]=>e2a k cnt x i fun r=>K (evl r)
 | .lsl k _,vs=>bif vs.all (a3f k) then K (evl (.sl vs)) else False
 | .ls2b _,[x]=>c3q x fun r=>K (evl r)
 | .barr k zs _,vs=>match b0g zs (a2m k 0 vs) with
  | some cs=>K (evl (.agg cs))
  | none=>False
 | .ext i _,[x]=>d5s i x fun r=>K (evl r)
 | .len s _,[x]=>sLen s x fun r=>K (evl r)
 | .app k bytes _ _ ty,[x,y]=>c1u k bytes d ty x y ob K
 | .mm mx _ _,[x,y]=>sMm mx x y fun r=>K (evl r)
 | .mp op _,vs=>a0v op d vs ob K L
 | .call _ _ ids news,f::args=>b3n P f args ids news ob L
 | _,_=>False
def b89 (P:Program) (t:TypeId):Option (Option Nat) :=
 match P.underlying t,P.info? t with
 | some (.struct _),some i=>some (some i.size)
 | some (.array _ _),some i=>some (some i.size)
 | some _,some _=>some none
 | _,_=>none
def a1x (P:Program) (t:TypeId) (n:Nat):Bool :=
 match P.info? t with
 | some i=>Nat.beq i.size n
 | none=>false
def isSlice (P:Program) (t:TypeId) (k:Nat):Bool :=
 match P.underlying t with
 | some (.slice e)=>a1x P e k
 | _=>false
def a7q (P:Program) (t:TypeId):Bool :=
 match P.underlying t with
 | some .string=>true
 | _=>false
def c7f (P:Program) (t:TypeId):Bool :=
 match P.underlying t with
 | some .bool=>true
 | _=>false
def a2s (P:Program) (t:TypeId):Bool :=
 match P.underlying t with
 | some (.slice e)=>(match P.underlying e with|some (.int .u8)=>true|_=>false)&&a1x P e 1
 | _=>false
def a99 (P:Program) (fs:Array Field):List (Nat×Nat×Opd)→List (Nat×Operand)→Bool
 | [],[]=>true
 | (off,n,x)::r,(i,y)::s=>(match fs[i]? with|some f=>Nat.beq f.offset off&&a1x P f.type n|none=>false)&&x.ok y&&a99 P fs r s
 | _,_=>false
def b5b:Nat→List Opd→List (Nat×Operand)→Bool
 | _,[],[]=>true
 | n,x::r,(i,y)::s=>Nat.beq i n&&x.ok y&&b5b (n+1) r s
 | _,_,_=>false
def a8v (P:Program) (t:TypeId) (zs:List V):Bool :=
 match P.info? t with
 | some i=>match i.zero with
  | some z=>c8j zs z.cells.toList
  | none=>false
 | none=>false
def e7a (rec:List Nat→List Field→Bool) (go:Nat→List Nat→Bool) (P:Program) (n:Nat) (t:TypeId) (ks:List Nat):Bool:=match P.underlying t,ks with
  | some (.int _),0::qs=>go (n+1) qs
  | some .string,1::qs=>go (n+1) qs
  | some .bool,2::qs=>go (n+1) qs
  | some (.struct fs'),qs=>match P.info? t with
   | some i=>Nat.ble i.size qs.length&&rec (qs.take i.size) fs'.toList&&!P.stoodInHeld t&&go (n+i.size) (qs.drop i.size)
   | none=>false
  | _,_=>false
def c0v (rec:List Nat→List Field→Bool) (P:Program):Nat→List Nat→List Field→Bool
 | _,ks,[]=>ks.isEmpty
 | n,ks,f::r=>Nat.beq f.offset n&&!(f.name == "_")&&e7a rec (fun n ks=>c0v rec P n ks r) P n f.type ks
def d2k (P:Program):Nat→List Nat→List Field→Bool
 | 0=>c0v (fun _ _=>false) P 0
 | d+1=>c0v (d2k P d) P 0
def c2z (P:Program) (ks:List Nat) (t:TypeId):Bool :=
 match P.underlying t with
 | some (.struct fs)=>d2k P 3 ks fs.toList&&!P.stoodInHeld t&&!P.eqGuardType P.depth t
 | _=>false
def a3c (P:Program) (t:TypeId) (k bytes:Nat):Bool :=
 match P.underlying t with
 | some (.slice e)=>match P.info? e with
  | some i=>Nat.beq i.size k&&Nat.beq i.bytes bytes&&Nat.blt 0 k&&Nat.blt 0 bytes&&(match i.zero with|some z=>Nat.beq z.cells.size k|none=>false)
  | none=>false
 | _=>false
def b4d (P:Program) (t:TypeId) (z:V):Bool :=
 match P.underlying t with
 | some (.slice e)=>a8v P e z.cells
 | _=>false
def c7z (P:Program) (t:TypeId) (f off:Nat):Bool :=
 match P.underlying t with
 | some (.struct fs)=>match fs[f]? with
  | some fl=>Nat.beq fl.offset off&&(match P.info? fl.type with|some i=>!Nat.beq i.size 0|none=>false)
  | none=>false
 | _=>false
def c2w (P:Program) (t:TypeId) (f off:Nat) (n:Option Nat):Bool :=
 match P.underlying t with
 | some (.struct fs)=>match fs[f]? with
  | some fl=>Nat.beq fl.offset off&&decide (b89 P fl.type=some n)
  | none=>false
 | _=>false
def a9k (P:Program) (t:TypeId):Bool :=
 match P.underlying t with
 | some (.slice _)|some .string=>true
 | _=>false
def d39 (P:Program) (t:TypeId):Option TypeId→Bool
 | none=>true
 | some u=>match P.underlying t with
  | some (.slice e)=>Nat.beq e u&&!Nat.beq u d3u
  | _=>false
def c5b (P:Program) (t:TypeId) (cnt k:Nat):Bool :=
 match P.underlying t with
 | some (.array n e)=>Nat.beq n cnt&&a1x P e k
 | _=>false
def isMap (P:Program) (t:TypeId) (kd:Option KD) (z:Option V):Bool :=
 match P.underlying t with
 | some (.map k e) =>
  (match kd with
   | none=>true
   | some kd=>match P.underlying k,kd with
    | some (.int i),.int j=>kEq i j
    | some .string,.str=>true
    | some .bool,.bool=>true
    | some (.array n e),.arr m j=>Nat.beq n m&&(match P.underlying e with|some (.int i)=>kEq i j|_=>false)&&Nat.beq (P.cellsOf k) n&&Nat.beq (P.cellsOf e) 1&&P.keyTypeAt 3 k
    | _,_=>false) &&
  (match P.underlying k with|some (.int _)|some .string|some .bool|some (.array _ _)=>true|_=>false) &&
  (match z with
   | none=>true
   | some z=>match P.info? e with
    | some i=>match i.zero with
     | some u=>cOK z u
     | none=>false
    | none=>false)
 | _=>false
def Opd.isT:Opd→Bool
 | .t _=>true
 | _=>false
def a09 (P:Program) (m:b9t) (xs:List Opd) (op:Op):Bool :=
 match m,op with
 | .mk kd,.makeMap t none=>isMap P t (some kd) none&&(match xs with|[]=>true|_=>false)
 | .lku kd ok z,.lookup t x k c=>(match xs with|[a,b]=>a.ok x&&b.ok k|_=>false)&&(ok==c)&&isMap P t (some kd) (some z)
 | .isn ng,.binOp b t x y _=>(match xs with|[a]=>a.ok x|_=>false)&&(match b with|.eql=>!ng|.neq=>ng|_=>false)&&(match y with|.const (.slice none _ _)=>true|_=>false)&&(match P.underlying t with|some (.slice _)=>true|_=>false)
 | .tab i,.load t (.global q)=>(match xs with|[]=>true|_=>false)&&(match c06[i]? with|some d=>decide (P.globalNamed d.1=some q)&&decide (b89 P t=some (some d.2.2.length))|none=>false)
 | .ups kd,.mapUpdate t x k v=>(match xs with|[a,b,c]=>a.ok x&&b.ok k&&c.ok v|_=>false)&&isMap P t (some kd) none
 | .ups kd,.insert t x k v=>(match xs with|[a,b,c]=>a.ok x&&b.ok k&&c.ok v|_=>false)&&isMap P t (some kd) none
 | .uss,.store t x v=>(match xs with|[a,b]=>a.ok x&&b.ok v|_=>false)&&a1x P t 1
 | .lss,.buildSlice t n parts=>((match P.underlying t with
   | some (.slice e)=>a1x P e 1&&(match P.info? e with|some i=>i.zero.isSome|none=>false)
   | _=>false)&&Nat.blt 0 1&&Nat.beq n xs.length&&decide (n*1≤16777216)&&b5b 0 xs parts.toList)&&xs.all Opd.isT
 | .ifz ng,.binOp b t x y _=>(match xs with|[a]=>a.ok x|_=>false)&&(match b with|.eql=>!ng|.neq=>ng|_=>false)&&(match y with|.const .nilIface=>true|_=>false)&&(match P.underlying t with|some (.interface _)=>true|_=>false)
 | .fnz ng,.binOp b t x y _=>(match xs with|[a]=>a.ok x|_=>false)&&(match b with|.eql=>!ng|.neq=>ng|_=>false)&&(match y with|.const .nilFunc=>true|_=>false)&&(match P.underlying t with|some (.func _ _ _)=>true|_=>false)
 | .bnd f,.makeFunc (.func f') first cap=>Nat.beq f f'&&Nat.beq cap.size 0&&a7u xs first.toList
 | .r2s,.convert s t x=>(match xs with|[a]=>a.ok x|_=>false)&&(match P.underlying s with|some (.int _)=>true|_=>false)&&a7q P t
 | .cpy k,.call { callee:=.builtin .copy,args,argTypes }=>(match xs,args.toList,argTypes.toList with
   | [a,b],[x,y],[t,_]=>a.ok x&&b.ok y&&isSlice P t k
   | _,_,_=>false)
 | .apc k bytes,.call { callee:=.builtin .append,args,argTypes }=>(match xs,args.toList,argTypes.toList with
   | [a,b],[x,y],[t,t']=>a.ok x&&b.ok y&&a3c P t k bytes&&a9k P t'&&d39 P t none
   | _,_,_=>false)
 | .mvo,.load t x=>(match xs with|[a]=>a.ok x|_=>false)&&a1x P t 1&&decide (b89 P t=some none)
 | .mvi,.store t x v=>(match xs with|[a,b]=>a.ok x&&b.ok v|_=>false)&&a1x P t 1
 | .apr _ bytes,.call { callee:=.builtin .append,args,argTypes }=>(match xs,args.toList,argTypes.toList with
   | [a,b],[x,y],[t,t']=>a.ok x&&b.ok y&&a3c P t 1 bytes&&a9k P t'
   | _,_,_=>false)
 | .mx3,.call { callee:=.builtin .max,args,.. }=>(match xs,args.toList with
   | [a,b,e],[x,y,z]=>a.ok x&&b.ok y&&e.ok z
   | _,_=>false)
 | .up kd,.insert t x k v=>(match xs with|[a,b,c]=>a.ok x&&b.ok k&&c.ok v|_=>false)&&isMap P t (some kd) none
 | .up kd,.mapUpdate t x k v=>(match xs with|[a,b,c]=>a.ok x&&b.ok k&&c.ok v|_=>false)&&isMap P t (some kd) none
 | .del kd,.call { callee:=.builtin .delete,args,argTypes }=>(match xs,args.toList,argTypes.toList with
   | [a,b],[x,k],[t,_]=>a.ok x&&b.ok k&&isMap P t (some kd) none
   | _,_,_=>false)
 | .len,.call { callee:=.builtin .len,args,argTypes }=>(match xs,args.toList,argTypes.toList with
   | [a],[x],[t]=>a.ok x&&isMap P t none none
   | _,_,_=>false)
 | .rng,.range t x=>(match xs with|[a]=>a.ok x|_=>false)&&isMap P t none none
 | .nxt,.next x s=>(match xs with|[a]=>a.ok x|_=>false)&&!s
 | .ent,.entry x=>(match xs with|[a]=>a.ok x|_=>false)
 | _,_=>false
def y7.ok (P:Program) (i:y7) (op:Op):Bool :=
 match i,op with
 | .mv x,.move y|.mv x,.assign y=>x.ok y
 | .pick c a b,.pick c' a' b'=>c.ok c'&&a.ok a'&&b.ok b'
 | .alloc zs t,.alloc e=>a8v P e zs&&(match t with|none=>true|some u=>Nat.beq e u&&!Nat.beq u d3u)
 | .box x,.box _ y=>x.ok y
 | .build zs ps,.build t parts=>a8v P t zs&&(match P.underlying t with|some (.struct fs)=>fs.all (fun f=>(P.info? f.type).isSome)&&a99 P fs ps parts.toList|_=>false)
 | .bslice k xs _,.buildSlice t n parts=>(match P.underlying t with
   | some (.slice e)=>a1x P e k&&(match P.info? e with|some i=>i.zero.isSome|none=>false)
   | _=>false)&&Nat.blt 0 k&&Nat.beq n xs.length&&decide (n*k≤16777216)&&b5b 0 xs parts.toList
 | .lsl k xs,.buildSlice t n parts=>(match P.underlying t with
   | some (.slice e)=>a1x P e k&&(match P.info? e with|some i=>i.zero.isSome|none=>false)
   | _=>false)&&Nat.blt 0 k&&Nat.beq n xs.length&&decide (n*k≤16777216)&&b5b 0 xs parts.toList
 | .ld n a,.load t b=>a.ok b&&decide (b89 P t=some n)
 | .st n a v,.store t b u=>a.ok b&&v.ok u&&a1x P t n
 | .nck a,.nilCheck b=>a.ok b
 | .bin _ op x y,.binOp op' _ a b _=>decide (op=op')&&x.ok a&&y.ok b
 | .mask m x k,.binOp .and _ a (.const (.int k' n)) _=>x.ok a&&kEq k k'&&decide (n=2^m - 1)&&Nat.blt m k.bits
 | .beq ng x y,.binOp op t a b _=>decide (op=if ng then .neq else .eql)&&x.ok a&&y.ok b&&c7f P t
 | .eqs ng ks x y,.binOp op t a b _=>decide (op=if ng then .neq else .eql)&&x.ok a&&y.ok b&&c2z P ks t
 | .not x,.unOp .not _ a=>x.ok a
 | .neg _ x,.unOp .neg _ a=>x.ok a
 | .i2i _ k x,.convert s d a=>x.ok a&&(P.underlying s).isSome&&(match P.underlying d with|some (.int k')=>kEq k k'|_=>false)
 | .idc x,.convert s d a=>x.ok a&&(P.underlying s).isSome&&a7q P d
 | .s2b x,.convert s d a=>x.ok a&&a7q P s&&a2s P d
 | .ls2b x,.convert s d a=>x.ok a&&a7q P s&&a2s P d
 | .mks x,.convert s d a=>x.ok a&&Nat.beq s d&&a2s P s
 | .b2s x,.convert s d a=>x.ok a&&a2s P s&&a7q P d
 | .mkfn f cap,.makeFunc (.func f') first cap'=>Nat.beq f f'&&Nat.beq first.size 0&&a7u cap cap'.toList
 | .mksl k bytes z l c,.makeSlice t l' c'=>l.ok l'&&c.ok c'&&a3c P t k bytes&&b4d P t z&&a3f k z
 | .sls x lo hi,.slice t a lo' hi' none=>x.ok a&&b1n lo lo'&&b1n hi hi'&&a7q P t
 | .slc k x lo hi,.slice t a lo' hi' none=>x.ok a&&b1n lo lo'&&b1n hi hi'&&isSlice P t k
 | .fad off x,.fieldAddr t a f=>x.ok a&&c7z P t f off
 | .fld n off x,.field t a f=>x.ok a&&c2w P t f off n
 | .iad k x i,.indexAddr t a b=>x.ok a&&i.ok b&&isSlice P t k
 | .idx x i,.index t a b=>x.ok a&&i.ok b&&a7q P t
 | .aix n k cnt x i,.index t a b=>x.ok a&&i.ok b&&c5b P t cnt k&&(match P.underlying t with|some (.array _ e)=>decide (b89 P e=some n)|_=>false)
 | .aad k cnt x i,.indexAddr t a b=>x.ok a&&i.ok b&&c5b P t cnt k&&Nat.blt 1 cnt
 | .barr k zs xs,.build t parts=>a8v P t zs&&(match P.underlying t with|some (.array _ e)=>a1x P e k|_=>false)&&b5b 0 xs parts.toList
 | .ext i x,.extract a j=>x.ok a&&Nat.beq i j
 | .len s x,.call { callee:=.builtin .len,args,argTypes }=>(match args.toList,argTypes.toList with
   | [a],[t]=>x.ok a&&(match P.underlying t with|some .string=>s|some (.slice _)=>!s|_=>false)
   | _,_=>false)
 | .app k bytes x y ty,.call { callee:=.builtin .append,args,argTypes }=>(match args.toList,argTypes.toList with
   | [a,b],[t,t']=>x.ok a&&y.ok b&&a3c P t k bytes&&a9k P t'&&d39 P t ty
   | _,_=>false)
 | .mm mx x y,.call { callee:=.builtin b,args,.. }=>(match args.toList with
   | [u,v]=>x.ok u&&y.ok v&&decide (b=if mx then .max else .min)
   | _=>false)
 | .mp m xs,op=>a09 P m xs op
 | .call f args _ _,.call { callee:=.value f',args:=args',.. }=>f.ok f'&&a7u args args'.toList
 | _,_=>false
theorem b6t {S:Nat→Prop} {w:World}:∀{x:V} {v:Value},cOK x v=true→Rd S w v x
 | .bool b,v,h=>by
  cases v<;>simp [cOK] at h
  subst h;exact .bool _
 | .int k n,v,h=>by
  cases v<;>simp [cOK] at h
  rename_i k' n'
  obtain ⟨⟨⟨h1,h2⟩,h3⟩,h4⟩:=h
  have:=a7x h1;subst this;subst h2
  exact .int _ _ ⟨h3,h4⟩
 | .str s,v,h=>by
  cases v<;>simp [cOK] at h
  rename_i s'
  obtain ⟨h1,h2⟩:=h
  subst h1
  refine .str s' ?_
  have e1:s'.size=s'.data.toList.length:=by rw [z6];rfl
  rw [e1,maxLen]
  exact wV h2 (by decide)
 | .nils,v,h=>by
  unfold cOK at h
  split at h<;>simp_all
  exact .nils
 | .ifc b,v,h=>by
  unfold cOK at h
  split at h<;>simp_all
  exact .ifcn
 | .nilp,v,h=>by
  unfold cOK at h
  split at h<;>simp_all
  exact .nilp
 | .nilm,v,h=>by
  unfold cOK at h
  split at h<;>simp_all
  exact .nilm
 | .nilf,v,h=>by
  unfold cOK at h
  split at h<;>simp_all
  exact .nilf
 | .nili,v,h=>by
  unfold cOK at h
  split at h<;>simp_all
  exact .nili
 | .agg cs,v,h=>by
  cases v<;>simp [cOK] at h
  rename_i vs
  have key:∀(cs:List V) (vs:List Value),c8j cs vs=true→vs.length=cs.length∧∀(i:Nat) (c:V),cs[i]?=some c→∃u,vs[i]?=some u∧cOK c u=true:=by
   intro cs
   induction cs with
   | nil=>intro vs h;cases vs<;>simp [c8j] at h ⊢
   | cons c cs ih =>
    intro vs h
    cases vs with
    | nil=>simp [c8j] at h
    | cons u vs =>
     simp only [c8j,xY] at h
     obtain ⟨h1,h2⟩:=ih vs h.2
     refine ⟨by simp [h1],fun i c' hc=>?_⟩
     cases i with
     | zero=>simp at hc;subst hc;exact ⟨u,rfl,h.1⟩
     | succ i=>simp at hc ⊢;exact h2 i c' hc
  obtain ⟨h1,h2⟩:=key cs vs.toList h
  refine .agg vs cs (by simpa using h1) fun i c hc=>?_
  obtain ⟨u,hu,hok⟩:=h2 i c hc
  have hm:c∈cs:=zZ hc
  have:vs.getD i undef=u:=by
   simp only [zU] at hu
   simp [zC,hu]
  rw [this]
  exact b6t hok
 | .tup _,v,h=>by simp [cOK] at h
 | .sl [],v,h=>by
  unfold cOK at h
  split at h<;>simp_all
  exact .nilsl
 | .sl (_::_),v,h=>by simp [cOK] at h
 | .ptr _ _,v,h=>by simp [cOK] at h
 | .eptr _ _,v,h=>by simp [cOK] at h
 | .osl _ _ _ _,v,h=>by simp [cOK] at h
 | .optr _ _ _ _,v,h=>by simp [cOK] at h
 | .omap _,v,h=>by simp [cOK] at h
 | .bptr _,v,h=>by simp [cOK] at h
 | .fn _ _,v,h=>by simp [cOK] at h
 | .any,v,h=>by simp [cOK] at h
termination_by x=>(SizeOf.sizeOf x:Nat)
decreasing_by
 have:=List.sizeOf_lt_of_mem hm
 simp_all
 omega
def Fin (o:Oper) (c:Ctx) (g:Gh) (σ:St) (a:Act) (w:World) (K L:Eff→Prop) (K':Act→World→Prop):Prop :=
 ∀eff,(K eff∨L eff)→∀(g':Gh) (v:Value) (w':World),q9 g σ.heap w eff g' w'→a0l c.H0 g g' σ eff→VR g' w' v eff.val→K' (a.put o.dst v) w'
section
variable {P:Program} {o:Oper} {c:Ctx} {g:Gh} {σ:St} {a:Act} {w:World} {ob:Nat→Option a03} {K L:Eff→Prop} {K':Act→World→Prop} {Q':Exit→Act→World→Prop}
theorem Opd.vr (hR:Rel P c g σ a w) {x:Opd} {y:Operand} (h:x.ok y=true):VR g w (a.eval y) (x.ev σ.env):=by
 cases x with
 | t n =>
  cases y<;>simp [Opd.ok] at h
  rename_i m
  subst h
  simp only [Opd.ev,a1d,Act.eval]
  cases hf:find n σ.env with
  | none=>exact .any _
  | some x=>exact (hR.env n x hf).2
 | c v =>
  cases y<;>simp [Opd.ok] at h
  exact .rd (b6t h)
 | f n =>
  cases y<;>simp [Opd.ok] at h
  subst h
  exact .fn _ #[] [] rfl (fun i c h=>by simp at h)
theorem z8 (hR:Rel P c g σ a w) (hF:Fin o c g σ a w K L K') {x:V} {v:Value} (hrun:(execOp a.eval o).run P w=.ok (.value v) w) (hk:K ⟨x,[],[]⟩∨L ⟨x,[],[]⟩) (hv:VR g w v x):o.wp P a w K' Q':=by
 unfold Oper.wp
 rw [hrun]
 exact hF _ hk g v w (q9.val x hR.hp.lt rfl rfl rfl rfl) (a0l.val x) hv
theorem a6b {s:Sem Value} {v:Value} {w w':World} (h:s.run P w=.ok v w'):(do pure (Next.value (←s)):Sem Next).run P w=.ok (.value v) w':=by
 simp [h]
theorem VR.int_inv {v:Value} {k:IntKind} {n:Int} (h:VR g w v (.int k n)):v=.int k n∧inR k n:=by
 cases h with|rd h=>cases h with|int _ _ h=>exact ⟨rfl,h⟩
theorem VR.bool_inv {v:Value} {b:Bool} (h:VR g w v (.bool b)):v=.bool b:=by
 cases h with|rd h=>cases h;rfl
theorem VR.str_inv {v:Value} {s:List UInt8} (h:VR g w v (.str s)):∃t:ByteArray,v=.string t∧t.data.toList=s∧t.size≤maxLen:=by
 cases h with|rd h=>cases h with|str t ht=>exact ⟨t,rfl,rfl,ht⟩
theorem VR.ptr_inv {v:Value} {id off:Nat} (h:VR g w v (.ptr id off)):v=.pointer (some ⟨g.ρ id,off,none⟩):=by
 cases h with
 | rd h=>cases h
 | ptr=>rfl
theorem VR.optr_inv {v:Value} {id k i off:Nat} (h:VR g w v (.optr id k i off)):v=.pointer (some ⟨g.ρ id,(g.base id+i)*k+off,none⟩):=by
 cases h with
 | rd h=>cases h
 | optr=>rfl
theorem VR.bptr_inv {v:Value} {id:Nat} (h:VR g w v (.bptr id)):v=.pointer none∨v=.pointer (some ⟨g.ρ id,0,none⟩):=by
 cases h with
 | rd h=>cases h
 | bnil=>exact .inl rfl
 | bself=>exact .inr rfl
theorem VR.omap_inv {v:Value} {id:Nat} (h:VR g w v (.omap id)):v=.map (some (g.ρ id)):=by
 cases h with
 | rd h=>cases h
 | omap=>rfl
theorem VR.nils_inv {v:Value} (h:VR g w v .nils):v=.slice none 0 0:=by
 cases h with|rd h=>cases h;rfl
theorem VR.eptr_inv {v:Value} {x:V} {off:Nat} (h:VR g w v (.eptr x off)):∃(b o:Nat) (cur:Array Value) (e:TypeId) (fz:Nat×Nat),v=.pointer (some ⟨b,o+off,none⟩)∧g.S b∧w.heap[b]?=some (.cells cur e fz) ∧
  o+x.cells.length≤cur.size∧∀(j:Nat) (c:V),x.cells[j]?=some c→Rd g.S w (cur.getD (o+j) undef) c:=by
 cases h with
 | rd h=>cases h
 | eptr b o off cur e fz x hS hg hb hr=>exact ⟨b,o,cur,e,fz,rfl,hS,hg,hb,hr⟩
theorem VR.osl_inv {v:Value} {id k lo len:Nat} (h:VR g w v (.osl id k lo len)):(g.nil id∧v=.slice none 0 0∧len=0) ∨
  (¬g.nil id∧∃o c,v=.slice (some ⟨g.ρ id,o,none⟩) len c∧(c=0∨o=(g.base id+lo)*k)∧lo+c≤g.cap id∧len≤c∧c≤maxLen):=by
 cases h with
 | rd h=>cases h
 | oslnil _ _ _ h=>exact .inl ⟨h,rfl,rfl⟩
 | osl _ _ _ _ o c h ho hc hl hm=>exact .inr ⟨h,o,c,rfl,ho,hc,hl,hm⟩
theorem VR.sl_inv {v:Value} {xs:List V} (h:VR g w v (.sl xs)):Rd g.S w v (.sl xs):=by
 cases h with|rd h=>exact h
theorem VR.agg_inv {v:Value} {cs:List V} (h:VR g w v (.agg cs)):∃vs:Array Value,v=.agg vs∧vs.size=cs.length∧∀(i:Nat) (c:V),cs[i]?=some c→VR g w (vs.getD i undef) c:=by
 cases h with
 | rd h =>
  obtain ⟨vs,rfl,hl,hr⟩:=h.agg_inv
  exact ⟨vs,rfl,hl,fun i c hc=>.rd (hr i c hc)⟩
 | agg vs _ hl hr=>exact ⟨vs,rfl,hl,hr⟩
theorem VR.tup_inv {v:Value} {cs:List V} (h:VR g w v (.tup cs)):∃vs:Array Value,v=.tuple vs∧vs.size=cs.length∧∀(i:Nat) (c:V),cs[i]?=some c→VR g w (vs.getD i undef) c:=by
 cases h with
 | rd h=>cases h
 | tup vs _ hl hr=>exact ⟨vs,rfl,hl,hr⟩
theorem VR.fn_inv {v:Value} {n:Nat} {cs:List V} (h:VR g w v (.fn (.func n) cs)):∃vs:Array Value,v=.func (.func n) #[] vs∧vs.size=cs.length∧∀(i:Nat) (c:V),cs[i]?=some c→VR g w (vs.getD i undef) c:=by
 cases h with
 | rd h=>cases h;exact ⟨#[],rfl,rfl,fun i c hc=>by simp at hc⟩
 | fn _ vs _ hl hr=>exact ⟨vs,rfl,hl,hr⟩
theorem VR.sc_rd {v:Value} {x:V} (h:VR g w v x) (hs:x.sc=true):Rd g.S w v x:=by
 cases h with
 | fn n vs cs hl hr=>cases cs with
  | nil=>rw [Array.eq_empty_of_size_eq_zero hl];exact .fnc n
  | cons=>simp [V.sc] at hs
 | _=>first|assumption|(simp [V.sc] at hs)
theorem VR.sealed_rd {v:Value} {x:V} (h:VR g w v x) (hs:x.sealed=true):Rd g.S w v x:=by
 cases x with
 | agg cs =>
  obtain ⟨vs,rfl,hl,hr⟩:=h.agg_inv
  refine .agg vs cs hl fun i c hc=>(hr i c hc).sc_rd ?_
  simp only [V.sealed,xX] at hs
  exact hs c (zZ hc)
 | _=>exact h.sc_rd hs
theorem VR.nsl_val {z k:Nat} {xs:List V} {v:Value} (h:VR g w v (.nsl z k xs)):∃p l c,v=.slice p l c:=by
 cases h with
 | rd h=>cases h
 | nsl _ _ _ _ h =>
  rcases h with ⟨rfl,_⟩|⟨b,o,base,cap,c,rfl,_⟩
  ·exact ⟨_,_,_,rfl⟩
  ·exact ⟨_,_,_,rfl⟩
theorem VR.nsmap_val {z k:Nat} {kd:KD} {es:List (V×V)} {v:Value} (h:VR g w v (.nsmap z k kd es)):∃b,v=.map (some b):=by
 cases h with
 | rd h=>cases h
 | nsmap b=>exact ⟨b,rfl⟩
theorem VR.one_cell {v:Value} {x:V} (h:VR g w v x) (hs:x.one=true):v.oneCell'=true:=by
 cases h with
 | rd h=>cases h<;>first|rfl|(simp [V.one] at hs)
 | any=>simp [V.one] at hs
 | at_=>simp [V.one] at hs
 | agg=>simp [V.one] at hs
 | tup=>simp [V.one] at hs
 | nsl z k xs v hn=>obtain ⟨p,l,c,rfl⟩:=VR.nsl_val (.nsl z k xs v hn);rfl
 | _=>rfl
theorem VR.cells_of {v:Value} {x:V} (h:VR g w v x) (hx:x.nany=true):v.cells.size=x.cells.length∧∀(i:Nat) (c:V),x.cells[i]?=some c→VR g w (v.cells.getD i undef) c:=by
 have one:∀{v:Value} {x:V},VR g w v x→v.cells=#[v]→x.cells=[x]→v.cells.size=x.cells.length∧∀(i:Nat) (c:V),x.cells[i]?=some c→VR g w (v.cells.getD i undef) c:=by
  intro v x h h1 h2
  rw [h1,h2]
  refine ⟨rfl,fun i c hc=>?_⟩
  cases i with
  | zero=>simp at hc;subst hc;simpa using h
  | succ i=>simp at hc
 cases x with
 | agg cs =>
  obtain ⟨vs,rfl,hl,hr⟩:=h.agg_inv
  exact ⟨hl,hr⟩
 | any=>cases hx
 | at_=>cases hx
 | adr b off=>cases h with|rd h=>cases h;exact one (.rd (.adr b off)) rfl rfl
 | bool b=>exact one h (by rw [h.bool_inv];rfl) rfl
 | int k n=>exact one h (by rw [h.int_inv.1];rfl) rfl
 | str s=>obtain ⟨t,rfl,_⟩:=h.str_inv;exact one h rfl rfl
 | nils=>exact one h (by rw [h.nils_inv];rfl) rfl
 | nilp=>cases h with|rd h=>cases h;exact one (.rd .nilp) rfl rfl
 | ifc b=>cases h with|rd h=>cases h with
  | ifcn=>exact one (.rd .ifcn) rfl rfl
  | ifcs t p=>exact one (.rd (.ifcs t p)) rfl rfl
 | nilm=>cases h with|rd h=>cases h;exact one (.rd .nilm) rfl rfl
 | nilf=>cases h with|rd h=>cases h;exact one (.rd .nilf) rfl rfl
 | nili=>cases h with|rd h=>cases h;exact one (.rd .nili) rfl rfl
 | tup cs=>obtain ⟨vs,rfl,_⟩:=h.tup_inv;exact one h rfl rfl
 | sl xs =>
  have h':=h.sl_inv
  cases h' with
  | nilsl=>exact one h rfl rfl
  | slz=>exact one h rfl rfl
  | sl=>exact one h rfl rfl
 | ptr id off=>exact one h (by rw [h.ptr_inv];rfl) rfl
 | eptr x off=>obtain ⟨b,o,cur,e,fz,rfl,_⟩:=h.eptr_inv;exact one h rfl rfl
 | osl id k lo len=>rcases h.osl_inv with ⟨_,rfl,_⟩|⟨_,o,c,rfl,_⟩<;>exact one h rfl rfl
 | optr id k i off=>exact one h (by rw [h.optr_inv];rfl) rfl
 | omap id=>exact one h (by rw [h.omap_inv];rfl) rfl
 | bptr id=>exact one h (by rcases h.bptr_inv with e|e<;>rw [e]<;>rfl) rfl
 | smap kd es=>cases h with|rd h=>cases h with|smap b kd ents clock es hS hg hl hk hb hn hr1 hr2=>exact one (.rd (.smap b kd ents clock es hS hg hl hk hb hn hr1 hr2)) rfl rfl
 | fn f cs=>cases h with
  | rd h=>cases h with|fnc n=>exact one (.rd (.fnc n)) rfl rfl
  | fn _ vs _ hl hr=>exact one (.fn _ vs _ hl hr) rfl rfl
  | bnd n vs _ hl hr=>exact one (.bnd n vs _ hl hr) rfl rfl
 | nsl z k xs=>obtain ⟨p,l,c,rfl⟩:=h.nsl_val;exact one h rfl rfl
 | nsmap z k kd es=>obtain ⟨b,rfl⟩:=h.nsmap_val;exact one h rfl rfl
theorem g1n {x:Opd} (hok:(y7.mv x).ok P o.op=true) (hR:Rel P c g σ a w) {d:Nat} (h:o6 P (.mv x) d [x.ev σ.env] ob K L) (hF:Fin o c g σ a w K L K'):o.wp P a w K' Q':=by
 have:∃y,(o.op=.move y∨o.op=.assign y)∧x.ok y=true:=by
  cases ho:o.op<;>simp [y7.ok,ho] at hok
  ·exact ⟨_,.inl rfl,hok⟩
  ·exact ⟨_,.inr rfl,hok⟩
 obtain ⟨y,ho,hx⟩:=this
 refine z8 hR hF (v:=a.eval y) ?_ (.inl h) (Opd.vr hR hx)
 rcases ho with ho|ho<;>simp [execOp,ho]
theorem e3v {x y z:Opd} (hok:(y7.pick x y z).ok P o.op=true) (hR:Rel P c g σ a w) {d:Nat} (h:o6 P (.pick x y z) d [x.ev σ.env,y.ev σ.env,z.ev σ.env] ob K L) (hF:Fin o c g σ a w K L K'):o.wp P a w K' Q':=by
 cases ho:o.op<;>simp [y7.ok,ho] at hok
 rename_i x' y' z'
 obtain ⟨⟨hx,hy⟩,hz⟩:=hok
 have vx:=Opd.vr hR hx
 have vy:=Opd.vr hR hy
 have vz:=Opd.vr hR hz
 simp only [o6,c08,evl] at h
 cases hc:x.ev σ.env<;>simp only [hc] at h<;>try exact h.elim
 rename_i t
 rw [hc] at vx
 have hrun:(execOp a.eval o).run P w=.ok (.value (if t then a.eval y' else a.eval z')) w:=by
  simp [execOp,ho,vx.bool_inv,asBool]
 have gen:∀r,K ⟨r,[],[]⟩→VR g w (if t then a.eval y' else a.eval z') r→o.wp P a w K' Q':=fun r hk hv=>z8 hR hF hrun (.inl hk) hv
 split at h
 ·rename_i p q hp hq
  rw [hp] at vy;rw [hq] at vz
  refine gen _ h ?_
  cases t<;>simp [vy.bool_inv,vz.bool_inv]<;>exact .rd (.bool _)
 ·cases t
  ·exact gen _ h (by simpa using vz)
  ·exact gen _ h (by simpa using vy)
theorem f3m {x:Opd} (hok:(y7.nck x).ok P o.op=true) (hR:Rel P c g σ a w) {d:Nat} (h:o6 P (.nck x) d [x.ev σ.env] ob K L) (hF:Fin o c g σ a w K L K'):o.wp P a w K' Q':=by
 cases ho:o.op<;>simp [y7.ok,ho] at hok
 rename_i y
 have vx:=Opd.vr hR hok
 simp only [o6,e1s,evl] at h
 have hrun:(∃ad,a.eval y=.pointer (some ad))→(execOp a.eval o).run P w=.ok (.value (a.eval y)) w:=by
  rintro ⟨ad,e⟩
  simp [execOp,ho,e]
 cases hc:x.ev σ.env<;>simp only [hc] at h<;>try exact h.elim
 ·rw [hc] at vx;exact z8 hR hF (hrun ⟨_,vx.ptr_inv⟩) (.inl h) vx
 ·rw [hc] at vx
  obtain ⟨b,o',cur,e,fz,hv,_⟩:=vx.eptr_inv
  exact z8 hR hF (hrun ⟨_,hv⟩) (.inl h) vx
 ·rw [hc] at vx;exact z8 hR hF (hrun ⟨_,vx.optr_inv⟩) (.inl h) vx
theorem f4e {i:Nat} {x:Opd} (hok:(y7.ext i x).ok P o.op=true) (hR:Rel P c g σ a w) {d:Nat} (h:o6 P (.ext i x) d [x.ev σ.env] ob K L) (hF:Fin o c g σ a w K L K'):o.wp P a w K' Q':=by
 cases ho:o.op<;>simp [y7.ok,ho] at hok
 rename_i y j
 obtain ⟨hx,rfl⟩:=hok
 have vx:=Opd.vr hR hx
 simp only [o6,d5s,evl] at h
 cases hc:x.ev σ.env<;>simp only [hc] at h<;>try exact h.elim
 rename_i cs
 rw [hc] at vx
 obtain ⟨vs,hv,hl,hr⟩:=vx.tup_inv
 split at h
 ·rename_i q r hd
  have hi:cs[i]?=some q:=by
   have:=congrArg (·[0]?) hd
   simpa using this
  have hlt:i<vs.size:=by rw [hl];exact (zG.1 hi).1
  refine z8 hR hF (v:=vs.getD i undef) ?_ (.inl h) (hr i q hi)
  simp [execOp,ho,hv,Instr.extract,zC,hlt]
 ·exact h.elim
theorem f3y {x:Opd} (hok:(y7.idc x).ok P o.op=true) (hR:Rel P c g σ a w) {d:Nat} (h:o6 P (.idc x) d [x.ev σ.env] ob K L) (hF:Fin o c g σ a w K L K'):o.wp P a w K' Q':=by
 cases ho:o.op<;>simp [y7.ok,ho] at hok
 rename_i s dd y
 obtain ⟨⟨hx,hs⟩,hd⟩:=hok
 have vx:=Opd.vr hR hx
 simp only [o6,e1u,evl] at h
 cases hc:x.ev σ.env<;>simp only [hc] at h<;>try exact h.elim
 rw [hc] at vx
 obtain ⟨t,hv,ht,hm⟩:=vx.str_inv
 obtain ⟨ds,hds⟩:=Option.isSome_iff_exists.1 hs
 have hdd:P.underlying dd=some .string:=by
  unfold a7q at hd;split at hd<;>simp_all
 refine z8 hR hF (v:=.string t) ?_ (.inl h) (hv▸vx)
 simp [execOp,ho,hv,convert,run_underlying hds,run_underlying hdd]
theorem f3k {x:Opd} (hok:(y7.not x).ok P o.op=true) (hR:Rel P c g σ a w) {d:Nat} (h:o6 P (.not x) d [x.ev σ.env] ob K L) (hF:Fin o c g σ a w K L K'):o.wp P a w K' Q':=by
 have:∃t y,o.op=.unOp .not t y∧x.ok y=true:=by
  cases ho:o.op<;>simp [y7.ok,ho] at hok
  rename_i op t y
  cases op<;>simp [y7.ok] at hok
  exact ⟨t,y,rfl,hok⟩
 obtain ⟨t,y,ho,hx⟩:=this
 have vx:=Opd.vr hR hx
 simp only [o6,e1q,evl] at h
 cases hc:x.ev σ.env<;>simp only [hc] at h<;>try exact h.elim
 rw [hc] at vx
 refine z8 hR hF ?_ (.inl h) (.rd (.bool _))
 simp [execOp,ho,vx.bool_inv,Op.unary]
theorem a4o (k:IntKind) (n:Int):inR k (k.wrap n):=by
 rw [a13]
 cases k<;>simp [rng,IntKind.wrap,IntKind.signed,IntKind.bits]<;>(try split)<;>omega
theorem a2q {k:IntKind} {n:Int} (h:rng k n):k.wrap n=n:=by
 cases k<;>simp [rng,IntKind.wrap,IntKind.signed,IntKind.bits] at*<;> (try split)<;>omega
theorem f3l {ch:Bool} {x:Opd} (hok:(y7.neg ch x).ok P o.op=true) (hR:Rel P c g σ a w) {d:Nat} (h:o6 P (.neg ch x) d [x.ev σ.env] ob K L) (hF:Fin o c g σ a w K L K'):o.wp P a w K' Q':=by
 have:∃t y,o.op=.unOp .neg t y∧x.ok y=true:=by
  cases ho:o.op<;>simp [y7.ok,ho] at hok
  rename_i op t y
  cases op<;>simp [y7.ok] at hok
  exact ⟨t,y,rfl,hok⟩
 obtain ⟨t,y,ho,hx⟩:=this
 have vx:=Opd.vr hR hx
 simp only [o6,e1r,evl] at h
 cases hc:x.ev σ.env<;>simp only [hc] at h<;>try exact h.elim
 rename_i k n
 rw [hc] at vx
 have hrun:(execOp a.eval o).run P w=.ok (.value (.int k (k.wrap (0 - n)))) w:=by
  simp [execOp,ho,vx.int_inv.1,Op.unary,Op.intArith]
 cases ch
 ·exact z8 hR hF hrun (.inl h) (.rd (.int _ _ (a4o _ _)))
 ·obtain ⟨h1,h2⟩:=h
  have e:k.wrap (0 - n)=-n:=by rw [Int.zero_sub];exact a2q h1
  rw [e] at hrun
  exact z8 hR hF hrun (.inl h2) (.rd (.int _ _ (a13.2 h1)))
theorem f4a {ch:Bool} {k:IntKind} {x:Opd} (hok:(y7.i2i ch k x).ok P o.op=true) (hR:Rel P c g σ a w) {d:Nat} (h:o6 P (.i2i ch k x) d [x.ev σ.env] ob K L) (hF:Fin o c g σ a w K L K'):o.wp P a w K' Q':=by
 cases ho:o.op<;>simp [y7.ok,ho] at hok
 rename_i s dd y
 obtain ⟨⟨hx,hs⟩,hd⟩:=hok
 have vx:=Opd.vr hR hx
 simp only [o6,e1v,evl] at h
 cases hc:x.ev σ.env<;>simp only [hc] at h<;>try exact h.elim
 rename_i k' n
 rw [hc] at vx
 obtain ⟨ds,hds⟩:=Option.isSome_iff_exists.1 hs
 have hdd:P.underlying dd=some (.int k):=by
  split at hd
  ·rename_i k2 he
   rw [he,a7x hd]
  ·cases hd
 have hrun:(execOp a.eval o).run P w=.ok (.value (.int k (k.wrap n))) w:=by
  simp [execOp,ho,vx.int_inv.1,convert,run_underlying hds,run_underlying hdd,Conv.intToInt]
 cases ch
 ·exact z8 hR hF hrun (.inl h) (.rd (.int _ _ (a4o _ _)))
 ·obtain ⟨h1,h2⟩:=h
  rw [a2q h1] at hrun
  exact z8 hR hF hrun (.inl h2) (.rd (.int _ _ (a13.2 h1)))
theorem b0m (op:BinOp) (k:IntKind) (x y:Int):inR k (bits op k x y):=a4o _ _
end
end Go.Ab
namespace Go.Ab
open Go.RowKit
section
variable {P:Program} {o:Oper} {c:Ctx} {g:Gh} {σ:St} {a:Act} {w:World} {ob:Nat→Option a03} {K L:Eff→Prop} {K':Act→World→Prop} {Q':Exit→Act→World→Prop}
theorem b7z (op:BinOp) (t:TypeId) (x y:ByteArray):binOp op t (.string x) (.string y)=Op.stringOp op x y:=by cases op<;>rfl
theorem c7j {k:IntKind} {x:Int} (h:inR k x) (n:Nat):inR k (x / 2^n):=by
 rw [a13] at *
 have hp:(0:Int)<2^n:=Int.pow_pos (by decide)
 have h1:0≤x→0≤x / 2^n∧x / 2^n≤x:=fun hx=>⟨Int.ediv_nonneg hx (w5 hp),Int.ediv_le_self _ hx⟩
 have h2:x<0→x≤x / 2^n∧x / 2^n<0:=by
  intro hx
  refine ⟨?_,Int.ediv_neg_of_neg_of_pos hx hp⟩
  have:=Int.le_ediv_of_mul_le hp (a:=x) (b:=x) (by
   have h1:(1:Int)≤2^n:=hp
   have:=Int.mul_le_mul_of_nonpos_left (w5 hx) h1
   simpa using this)
  exact this
 by_cases hx:0≤x
 ·have:=h1 hx
  cases k<;>simp [rng] at*<;> omega
 ·have:=h2 (by omega)
  cases k<;>simp [rng] at*<;> omega
theorem c2j {k:IntKind} {x y:Int} (h:inR k x):inR k (x.tmod y):=by
 rw [a13] at *
 have h1:0≤x→0≤x.tmod y∧x.tmod y≤x:=by
  intro hx
  refine ⟨Int.tmod_nonneg _ hx,?_⟩
  rw [Int.tmod_eq_emod_of_nonneg hx]
  by_cases hy:y=0
  ·subst hy;simp
  ·have:=Int.emod_emod_of_dvd x (Int.dvd_refl y)
   have h2:=Int.mul_ediv_add_emod x y
   have h3:0≤y*(x / y):=by
    rcases Int.lt_or_gt_of_ne hy with hy|hy
    ·have:x / y≤0:=Int.ediv_nonpos_of_nonneg_of_nonpos hx (w5 hy)
     exact Int.mul_nonneg_of_nonpos_of_nonpos (w5 hy) this
    ·exact Int.mul_nonneg (w5 hy) (Int.ediv_nonneg hx (w5 hy))
   omega
 by_cases hx:0≤x
 ·have:=h1 hx
  cases k<;>simp [rng] at*<;> omega
 ·have h2:x≤x.tmod y∧x.tmod y≤0:=by
   have hn:0≤-x:=by omega
   have e:x.tmod y=-((-x).tmod y):=by rw [Int.neg_tmod];omega
   have q1:=Int.tmod_nonneg y hn
   have q2:(-x).tmod y≤-x:=by
    rw [Int.tmod_eq_emod_of_nonneg hn]
    by_cases hy:y=0
    ·subst hy;simp
    ·have h2:=Int.mul_ediv_add_emod (-x) y
     have h3:0≤y*((-x) / y):=by
      rcases Int.lt_or_gt_of_ne hy with hy|hy
      ·have:(-x) / y≤0:=Int.ediv_nonpos_of_nonneg_of_nonpos hn (w5 hy)
       exact Int.mul_nonneg_of_nonpos_of_nonpos (w5 hy) this
      ·exact Int.mul_nonneg (w5 hy) (Int.ediv_nonneg hn (w5 hy))
     omega
   omega
  cases k<;>simp [rng] at*<;> omega
theorem f4l {ch:Bool} {op:BinOp} {x y:Opd} (hok:(y7.bin ch op x y).ok P o.op=true) (hR:Rel P c g σ a w) {d:Nat} (h:o6 P (.bin ch op x y) d [x.ev σ.env,y.ev σ.env] ob K L) (hF:Fin o c g σ a w K L K'):o.wp P a w K' Q':=by
 have:∃t x' y' t',o.op=.binOp op t x' y' t'∧x.ok x'=true∧y.ok y'=true:=by
  cases ho:o.op<;>simp [y7.ok,ho] at hok
  obtain ⟨⟨h1,h2⟩,h3⟩:=hok
  subst h1
  exact ⟨_,_,_,_,rfl,h2,h3⟩
 obtain ⟨t,x',y',t',ho,hx,hy⟩:=this
 have vx:=Opd.vr hR hx
 have vy:=Opd.vr hR hy
 simp only [o6,d40,evl] at h
 split at h
 ·rename_i k p k' q hp hq
  rw [hp] at vx;rw [hq] at vy
  obtain ⟨ex,rx⟩:=vx.int_inv
  obtain ⟨ey,ry⟩:=vy.int_inv
  have gen:∀v r,(binOp op t (.int k p) (.int k' q)).run P w=.ok v w→K ⟨r,[],[]⟩→VR g w v r→o.wp P a w K' Q':=fun v r hrun hk hv =>
   z8 hR hF (v:=v) (by simp [execOp,ho,ex,ey,eqGuard_at_int,hrun]) (.inl hk) hv
  have b2:∀{p:Prop} [Decidable p] {b:Bool},(b=decide p)→VR g w (.bool b) (.bool (decide p)):=by
   rintro p _ b rfl;exact .rd (.bool _)
  by_cases hkk:kEq k k'=true
  case neg =>
   cases op<;>simp [hkk] at h
   ·exact gen _ _ (by simp [binOp_shl,shift_shl _ _ _ _ h.1.1 h.1.2]) h.2 (.rd (.int _ _ (a4o _ _)))
   ·exact gen _ _ (by simp [binOp_shr,shift_shr _ _ _ _ h.1.1 h.1.2]) h.2 (.rd (.int _ _ (c7j rx _)))
  have hkk':=a7x hkk
  subst hkk'
  cases op<;>simp only [hkk,vE] at h
  ·cases ch
   ·exact gen _ _ (by simp [binOp_add,Op.intArith]) h (.rd (.int _ _ (a4o _ _)))
   ·exact gen (.int k (p+q)) _ (by simp [binOp_add,Op.intArith,a2q h.1]) h.2 (.rd (.int _ _ (a13.2 h.1)))
  ·cases ch
   ·exact gen _ _ (by simp [binOp_sub,Op.intArith]) h (.rd (.int _ _ (a4o _ _)))
   ·exact gen (.int k (p - q)) _ (by simp [binOp_sub,Op.intArith,a2q h.1]) h.2 (.rd (.int _ _ (a13.2 h.1)))
  ·cases ch
   ·exact gen _ _ (by simp [binOp_mul,Op.intArith]) h (.rd (.int _ _ (a4o _ _)))
   ·exact gen (.int k (p*q)) _ (by simp [binOp_mul,Op.intArith,a2q h.1]) h.2 (.rd (.int _ _ (a13.2 h.1)))
  ·cases ch
   ·simp only [vC] at h
    exact gen (.int k (k.wrap (p.tdiv q))) _ (by simp [binOp_quo,Op.intDiv,h.1]) h.2 (.rd (.int _ _ (a4o _ _)))
   ·simp only [vE] at h
    obtain ⟨⟨h1,h2⟩,h3⟩:=h
    have hq0:q≠0:=by omega
    have e:p.tdiv q=p / q:=Int.tdiv_eq_ediv_of_nonneg h1
    have hr:inR k (p / q):=by
     have a1:0≤p / q:=Int.ediv_nonneg h1 (w5 h2)
     have a2:p / q≤p:=Int.ediv_le_self _ h1
     rw [a13] at *
     cases k<;>simp [rng] at*<;> omega
    exact gen (.int k (p / q)) _ (by simp [binOp_quo,Op.intDiv,hq0,e,a2q (a13.1 hr)]) h3 (.rd (.int _ _ hr))
  ·cases ch
   ·simp only [vC] at h
    exact gen (.int k (p.tmod q)) _ (by simp [binOp_rem,Op.intDiv,h.1]) h.2 (.rd (.int _ _ (c2j rx)))
   ·simp only [vE] at h
    obtain ⟨⟨h1,h2⟩,h3⟩:=h
    have hq0:q≠0:=by omega
    have e:p.tmod q=p % q:=Int.tmod_eq_emod_of_nonneg h1
    have hr:inR k (p % q):=by rw [←e];exact c2j rx
    exact gen (.int k (p % q)) _ (by simp [binOp_rem,Op.intDiv,hq0,e]) h3 (.rd (.int _ _ hr))
  ·exact gen _ _ (by simp [binOp_and,intBits_and]) h (.rd (.int _ _ (b0m _ _ _ _)))
  ·exact gen _ _ (by simp [binOp_or,intBits_or]) h (.rd (.int _ _ (b0m _ _ _ _)))
  ·exact gen _ _ (by simp [binOp_xor,intBits_xor]) h (.rd (.int _ _ (b0m _ _ _ _)))
  ·exact gen _ _ (by simp [binOp_shl,shift_shl _ _ _ _ h.1.1 h.1.2]) h.2 (.rd (.int _ _ (a4o _ _)))
  ·exact gen _ _ (by simp [binOp_shr,shift_shr _ _ _ _ h.1.1 h.1.2]) h.2 (.rd (.int _ _ (c7j rx _)))
  ·exact gen _ _ (by simp [binOp_andNot,intBits_andNot]) h (.rd (.int _ _ (b0m _ _ _ _)))
  ·exact gen (.bool (decide (p=q))) _ (by simp [binOp_eql];rw [wJ];simp) h (.rd (.bool _))
  ·exact gen (.bool (!decide (p=q))) _ (by simp [binOp_neq,bne];rw [wJ];simp) h (.rd (.bool _))
  ·exact gen _ _ (by simp [binOp_lss]) h (b2 rfl)
  ·exact gen _ _ (by simp [binOp_leq]) h (b2 rfl)
  ·exact gen _ _ (by simp [binOp_gtr]) h (b2 rfl)
  ·exact gen _ _ (by simp [binOp_geq]) h (b2 rfl)
 ·rename_i p q hp hq
  rw [hp] at vx;rw [hq] at vy
  obtain ⟨tx,ex,hx1,hx2⟩:=vx.str_inv
  obtain ⟨ty,ey,hy1,hy2⟩:=vy.str_inv
  have gen:∀v r,(Op.stringOp op tx ty).run P w=.ok v w→K ⟨r,[],[]⟩→VR g w v r→o.wp P a w K' Q':=fun v r hrun hk hv =>
   z8 hR hF (v:=v) (by simp [execOp,ho,ex,ey,eqGuard_at_string,b7z,hrun]) (.inl hk) hv
  have lx:tx.toList=p:=by rw [ByteArray.toList_eq,hx1]
  have ly:ty.toList=q:=by rw [ByteArray.toList_eq,hy1]
  have sx:tx.size=p.length:=by rw [←hx1,z6];rfl
  have sy:ty.size=q.length:=by rw [←hy1,z6];rfl
  have eqb:(p==q)=decide (p=q):=by rw [wJ];simp
  cases op<;>simp only at h<;>try exact h.elim
  ·obtain ⟨h1,h2⟩:=h;replace h1:=a9r.1 h1
   have hn:¬((tx.size+ty.size:Nat):Int) > IntKind.i64.max:=by rw [IntKind.max_i64];omega
   refine gen (.string (tx++ty)) _ (by simp only [Op.stringOp];rw [if_neg hn];rfl) h2 (.rd ?_)
   have e:(tx++ty).data.toList=p++q:=by rw [←hx1,←hy1];simp
   rw [←e]
   refine .str _ ?_
   have:(tx++ty).size=(tx++ty).data.toList.length:=by rw [z6];rfl
   rw [this,e,xB,maxLen]
   omega
  ·exact gen (.bool (decide (p=q))) _ (by simp [Op.stringOp,lx,ly,eqb]) h (.rd (.bool _))
  ·exact gen (.bool (!decide (p=q))) _ (by simp [Op.stringOp,lx,ly,eqb]) h (.rd (.bool _))
  ·exact gen (.bool (Op.bytesLess p q)) _ (by simp [Op.stringOp,lx,ly]) h (.rd (.bool _))
  ·exact gen (.bool (Op.bytesLess p q||decide (p=q))) _ (by simp [Op.stringOp,lx,ly,eqb]) h (.rd (.bool _))
  ·exact gen (.bool (!(Op.bytesLess p q||decide (p=q)))) _ (by simp [Op.stringOp,lx,ly,eqb]) h (.rd (.bool _))
  ·exact gen (.bool (!Op.bytesLess p q)) _ (by simp [Op.stringOp,lx,ly]) h (.rd (.bool _))
 ·exact h.elim
theorem d96 (k:IntKind) (x:Int) (m:Nat) (hm:m<k.bits):bits .and k x (2^m - 1)=x % 2^m:=by
 have hp:(0:Nat)<2^m:=Nat.pow_pos (by decide)
 have hlt:2^m<2^k.bits:=Nat.pow_lt_pow_right (by decide) hm
 have e1:(BitVec.ofInt k.bits (2^m - 1:Int)).toNat=2^m - 1:=by
  have:(2^m - 1:Int)=((2^m - 1:Nat):Int):=by
   rw [Int.ofNat_sub hp];simp
  rw [this,BitVec.ofInt_natCast,BitVec.toNat_ofNat,Nat.mod_eq_of_lt (by omega)]
 have e2:((BitVec.ofInt k.bits x &&& BitVec.ofInt k.bits (2^m - 1:Int)).toNat:Int)=x % 2^m:=by
  rw [BitVec.toNat_and,e1,Nat.and_two_pow_sub_one_eq_mod,BitVec.toNat_ofInt]
  have hb:(0:Int)<2^k.bits:=Int.pow_pos (by decide)
  have h0:=Int.emod_nonneg x (Int.ne_of_gt hb)
  rw [Int.natCast_emod]
  have:(((x % ((2^k.bits:Nat):Int)).toNat:Nat):Int)=x % 2^k.bits:=by
   rw [Int.toNat_of_nonneg (by simpa using h0)];simp
  rw [this]
  have hd:(2^m:Int) ∣ 2^k.bits:=by
   have:=Int.natCast_dvd_natCast.2 (Nat.pow_dvd_pow 2 (Nat.le_of_lt hm))
   simpa using this
  have:=Int.emod_emod_of_dvd x hd
  simpa using this
 unfold bits
 simp only [e2]
 refine a2q ?_
 have h0:=Int.emod_nonneg x (Int.ne_of_gt (Int.pow_pos (n:=2) (m:=m) (by decide)))
 have h1:=Int.emod_lt_of_pos x (Int.pow_pos (n:=2) (m:=m) (by decide))
 have h2:(2^m:Int)≤2^(k.bits - 1):=by
  have:(2:Nat)^m≤2^(k.bits - 1):=Nat.pow_le_pow_right (by decide) (by omega)
  exact_mod_cast this
 have h3:x % 2^m<2^(k.bits - 1):=Int.lt_of_lt_of_le h1 h2
 clear h1 h2 e2 e1 hlt hp hm
 obtain ⟨r,hr⟩:∃r,r=x % 2^m:=⟨_,rfl⟩
 rw [←hr] at h0 h3 ⊢
 clear hr
 cases k<;>simp only [rng,IntKind.bits] at h3 ⊢<;>omega
theorem e3z {m:Nat} {x:Opd} {k:IntKind} (hok:(y7.mask m x k).ok P o.op=true) (hR:Rel P c g σ a w) {d:Nat} (h:o6 P (.mask m x k) d [x.ev σ.env] ob K L) (hF:Fin o c g σ a w K L K'):o.wp P a w K' Q':=by
 have:∃t x' n t',o.op=.binOp .and t x' (.const (.int k n)) t'∧x.ok x'=true∧n=2^m - 1∧m<k.bits:=by
  cases ho:o.op<;>rw [ho] at hok<;>try (simp [y7.ok] at hok;done)
  rename_i op t x' y t'
  cases op<;>try (simp [y7.ok] at hok;done)
  cases y<;>try (simp [y7.ok] at hok;done)
  rename_i v
  cases v<;>try (simp [y7.ok] at hok;done)
  rename_i k' n
  simp [y7.ok] at hok
  obtain ⟨⟨⟨h1,h2⟩,h3⟩,h4⟩:=hok
  have:=a7x h2;subst this
  exact ⟨t,x',n,t',rfl,h1,h3,by simpa [Nat.blt_eq] using h4⟩
 obtain ⟨t,x',n,t',ho,hx,rfl,hm⟩:=this
 have vx:=Opd.vr hR hx
 simp only [o6,c0c,evl] at h
 cases hc:x.ev σ.env<;>simp only [hc] at h<;>try exact h.elim
 rename_i k' p
 rw [hc] at vx
 by_cases hk:kEq k k'=true
 case neg=>simp [hk] at h
 simp only [hk,vE] at h
 have:=a7x hk;subst this
 obtain ⟨ex,rx⟩:=vx.int_inv
 refine z8 hR hF (v:=.int k (bits .and k p (2^m - 1))) ?_ (.inl h) ?_
 ·have:a.eval (.const (.int k (2^m - 1)))=.int k (2^m - 1):=rfl
  simp [execOp,ho,ex,this,eqGuard_and,binOp_and,intBits_and]
 ·rw [←d96 k p m hm]
  exact .rd (.int _ _ (b0m _ _ _ _))
theorem f4m {ng:Bool} {x y:Opd} (hok:(y7.beq ng x y).ok P o.op=true) (hR:Rel P c g σ a w) {d:Nat} (h:o6 P (.beq ng x y) d [x.ev σ.env,y.ev σ.env] ob K L) (hF:Fin o c g σ a w K L K'):o.wp P a w K' Q':=by
 cases ho:o.op<;>simp [y7.ok,ho] at hok
 rename_i op t x' y' t'
 obtain ⟨⟨⟨h1,hx⟩,hy⟩,ht⟩:=hok
 have ht':P.underlying t=some .bool:=by unfold c7f at ht;split at ht<;>simp_all
 have vx:=Opd.vr hR hx
 have vy:=Opd.vr hR hy
 simp only [o6,e1y,evl] at h
 split at h
 ·rename_i p q hp hq
  rw [hp] at vx;rw [hq] at vy
  refine z8 hR hF (v:=.bool (bif ng then !(p==q) else p==q)) ?_ (.inl h) (.rd (.bool _))
  cases ng<;>simp at h1<;>subst h1<;>simp [execOp,ho,vx.bool_inv,vy.bool_inv,eqGuard_at_bool,run_eql_bool _ t p q ht',run_neq_bool _ t p q ht']
 ·exact h.elim
theorem a4r:∀(m:Nat) {ks:List Nat} {cs ds:List V} {t:Bool},m≤ks.length→a0o ks cs ds=some t→∃t1 t2,a0o (ks.take m) (cs.take m) (ds.take m)=some t1∧a0o (ks.drop m) (cs.drop m) (ds.drop m)=some t2∧t=(t1&&t2)∧m≤cs.length∧m≤ds.length
 | 0,ks,cs,ds,t,_,h=>⟨true,t,by simp [a0o],by simpa using h,by simp,w6 _,w6 _⟩
 | m+1,ks,cs,ds,t,hm,h=>by
  unfold a0o at h
  split at h
  ·simp at hm
  ·rename_i q k a r k' b s' 
   cases hk:kEq k k' with
   | false=>rw [hk] at h;cases h
   | true =>
    rw [hk] at h
    simp only [vE,zO] at h
    obtain ⟨t',h1,rfl⟩:=h
    obtain ⟨t1,t2,e1,e2,e3,e4,e5⟩:=a4r m (by simpa using hm) h1
    exact ⟨decide (a=b)&&t1,t2,by simp [a0o,hk,e1],by simpa using e2,by rw [e3,Bool.and_assoc],by simpa using e4,by simpa using e5⟩
  ·rename_i q a r b s'
   simp only [zO] at h
   obtain ⟨t',h1,rfl⟩:=h
   obtain ⟨t1,t2,e1,e2,e3,e4,e5⟩:=a4r m (by simpa using hm) h1
   exact ⟨decide (a=b)&&t1,t2,by simp [a0o,e1],by simpa using e2,by rw [e3,Bool.and_assoc],by simpa using e4,by simpa using e5⟩
  ·rename_i q a r b s'
   simp only [zO] at h
   obtain ⟨t',h1,rfl⟩:=h
   obtain ⟨t1,t2,e1,e2,e3,e4,e5⟩:=a4r m (by simpa using hm) h1
   exact ⟨(a==b)&&t1,t2,by simp [a0o,e1],by simpa using e2,by rw [e3,Bool.and_assoc],by simpa using e4,by simpa using e5⟩
  ·cases h
theorem g2a {qs:List Nat} {cs ds:List V} {t:Bool} (h:a0o (0::qs) cs ds=some t):∃k a b cs' ds' t',cs=.int k a::cs'∧ds=.int k b::ds'∧a0o qs cs' ds'=some t'∧t=(decide (a=b)&&t'):=by
 cases cs with
 | nil=>simp [a0o] at h
 | cons c cs=>cases ds with
  | nil=>cases c<;>simp [a0o] at h
  | cons d ds =>
   cases c<;>cases d<;>simp only [a0o,reduceCtorEq] at h
   rename_i k a k' b
   cases hk:kEq k k' with
   | false=>rw [hk] at h;cases h
   | true =>
    rw [hk] at h
    simp only [vE,zO] at h
    obtain ⟨t',h1,rfl⟩:=h
    have:=a7x hk;subst this
    exact ⟨k,a,b,cs,ds,t',rfl,rfl,h1,rfl⟩
theorem g29 {qs:List Nat} {cs ds:List V} {t:Bool} (h:a0o (1::qs) cs ds=some t):∃a b cs' ds' t',cs=.str a::cs'∧ds=.str b::ds'∧a0o qs cs' ds'=some t'∧t=(decide (a=b)&&t'):=by
 cases cs with
 | nil=>simp [a0o] at h
 | cons c cs=>cases ds with
  | nil=>cases c<;>simp [a0o] at h
  | cons d ds =>
   cases c<;>cases d<;>simp only [a0o,reduceCtorEq] at h
   simp only [zO] at h
   obtain ⟨t',h1,rfl⟩:=h
   exact ⟨_,_,cs,ds,t',rfl,rfl,h1,rfl⟩
theorem g28 {qs:List Nat} {cs ds:List V} {t:Bool} (h:a0o (2::qs) cs ds=some t):∃a b cs' ds' t',cs=.bool a::cs'∧ds=.bool b::ds'∧a0o qs cs' ds'=some t'∧t=((a==b)&&t'):=by
 cases cs with
 | nil=>simp [a0o] at h
 | cons c cs=>cases ds with
  | nil=>cases c<;>simp [a0o] at h
  | cons d ds =>
   cases c<;>cases d<;>simp only [a0o,reduceCtorEq] at h
   simp only [zO] at h
   obtain ⟨t',h1,rfl⟩:=h
   exact ⟨_,_,cs,ds,t',rfl,rfl,h1,rfl⟩
def EqF (P:Program) (g:Gh) (w:World) (d:Nat) (n:Nat) (ks:List Nat) (fs:List Field):Prop:=∀(dp:Nat) (vs us:Array Value) (cs ds:List V) (t:Bool),a0o ks cs ds=some t →
  (∀i c,cs[i]?=some c→VR g w (vs.getD (n+i) undef) c)→(∀i c,ds[i]?=some c→VR g w (us.getD (n+i) undef) c)→n+cs.length≤vs.size→n+ds.length≤us.size →
  (Op.eqFields (dp+d+1) vs us fs).run P w=.ok t w
theorem c68 {rec:List Nat→List Field→Bool} {d:Nat} (hrec:∀ks fs,rec ks fs=true→∃d',d=d'+1∧EqF P g w d' 0 ks fs):∀(fs:List Field) (n:Nat) (ks:List Nat),c0v rec P n ks fs=true→EqF P g w d n ks fs:=by
 intro fs
 induction fs with
 | nil =>
  intro n ks hf dp vs us cs ds t he _ _ _ _
  cases ks with
  | cons q qs=>simp [c0v] at hf
  | nil =>
   cases cs<;>cases ds<;>simp [a0o] at he
   subst he
   rfl
 | cons f fs ih =>
  intro n ks hf dp vs us cs ds t he hc hd hs1 hs2
  simp only [c0v,xY] at hf
  obtain ⟨h12,h3⟩:=hf
  obtain ⟨h1,h2⟩:=h12
  have hoff:f.offset=n:=by simpa using h1
  have hnm:f.name ≠ "_":=by simpa using h2
  have rest:∀(qs:List Nat) (c0 d0:V) (cs' ds':List V) (b t':Bool),c0v rec P (n+1) qs fs=true→cs=c0::cs'→ds=d0::ds'→a0o qs cs' ds'=some t'→t=(b&&t') →
    (∀w':World,(isAgg f.type).run P w'=.ok false w')→(∀v0 u0,VR g w v0 c0→VR g w u0 d0→(Op.equalIn (dp+d+1) f.type v0 u0).run P w=.ok b w) →
    (Op.eqFields (dp+d+1) vs us (f::fs)).run P w=.ok t w:=by
   intro qs c0 d0 cs' ds' b t' h4 e1 e2 ht' ht hagg hb
   subst e1;subst e2
   have v0:=hc 0 c0 rfl
   have u0:=hd 0 d0 rfl
   simp only [wY] at v0 u0
   have hv:vs[n]?=some (vs.getD n undef):=by
    have:n<vs.size:=by simp at hs1;omega
    simp [zC,this]
   have hu:us[n]?=some (us.getD n undef):=by
    have:n<us.size:=by simp at hs2;omega
    simp [zC,this]
   have hpv:(Go.part f.type vs f.offset).run P w=.ok (vs.getD n undef) w:=by
    unfold Go.part
    simp only [wT,hagg w,xH,xF,if_false,hoff,hv,wS]
   have hpu:(Go.part f.type us f.offset).run P w=.ok (us.getD n undef) w:=by
    unfold Go.part
    simp only [wT,hagg w,xH,xF,if_false,hoff,hu,wS]
   have hrest:=ih (n+1) qs h4 dp vs us cs' ds' t' ht' (fun i c hi=>by have:=hc (i+1) c (by simpa using hi);rwa [show n+(i+1)=n+1+i by omega] at this)
     (fun i c hi=>by have:=hd (i+1) c (by simpa using hi);rwa [show n+(i+1)=n+1+i by omega] at this) (by simp at hs1;omega) (by simp at hs2;omega)
   unfold Op.eqFields
   simp only [hnm,ne_eq,not_false_iff,if_true,wT,hpv,hpu,hb _ _ v0 u0,xH]
   cases b
   ·simp [ht]
   ·simp [hrest,ht]
  have agg:∀dsc,P.underlying f.type=some dsc→(match dsc with|.struct _|.array _ _=>true|_=>false)=false→∀w':World,(isAgg f.type).run P w'=.ok false w':=by
   intro dsc hu hd w'
   cases dsc<;>simp [isAgg,run_underlying hu] at hd ⊢
  unfold e7a at h3
  split at h3
  ·rename_i qs hu
   obtain ⟨k,a,b,cs',ds',t',rfl,rfl,he',ht'⟩:=g2a he
   refine rest qs _ _ cs' ds' (decide (a=b)) t' h3 rfl rfl he' ht' (agg _ hu rfl) fun v0 u0 hv0 hu0=>?_
   rw [hv0.int_inv.1,hu0.int_inv.1,run_equalIn_int w (dp+d) f.type _ _ _ _ hu]
   exact congrArg (fun b=>Result.ok b w) (by rw [wJ];simp)
  ·rename_i qs hu
   obtain ⟨a,b,cs',ds',t',rfl,rfl,he',ht'⟩:=g29 he
   refine rest qs _ _ cs' ds' (decide (a=b)) t' h3 rfl rfl he' ht' (agg _ hu rfl) fun v0 u0 hv0 hu0=>?_
   obtain ⟨t0,e0,hx0,_⟩:=hv0.str_inv
   obtain ⟨t1,e1,hx1,_⟩:=hu0.str_inv
   rw [e0,e1,run_equalIn_string w (dp+d) f.type _ _ hu,ByteArray.toList_eq,ByteArray.toList_eq,hx0,hx1]
   exact congrArg (fun b=>Result.ok b w) (by rw [wJ];simp)
  ·rename_i qs hu
   obtain ⟨a,b,cs',ds',t',rfl,rfl,he',ht'⟩:=g28 he
   refine rest qs _ _ cs' ds' (a==b) t' h3 rfl rfl he' ht' (agg _ hu rfl) fun v0 u0 hv0 hu0=>?_
   rw [hv0.bool_inv,hu0.bool_inv,run_equalIn_bool' w (dp+d) f.type _ _ hu]
  ·rename_i fs' hu
   split at h3
   ·rename_i inf hi
    simp only [xY,xO] at h3
    obtain ⟨⟨⟨a1,a2⟩,a3⟩,a4⟩:=h3
    have a1:=zQ a1
    obtain ⟨t1,t2,e1,e2,rfl,e4,e5⟩:=a4r inf.size a1 he
    obtain ⟨d',rfl,hr⟩:=hrec _ _ a2
    have hsz:∀w':World,(Go.sizeOf f.type).run P w'=.ok inf.size w':=fun w'=>by simp [Go.sizeOf,typeInfo,hi]
    have hag:∀w':World,(isAgg f.type).run P w'=.ok true w':=fun w'=>by simp [isAgg,run_underlying hu]
    have pt:∀(xs:Array Value),(Go.part f.type xs f.offset).run P w=.ok (.agg (xs.extract n (n+inf.size))) w:=fun xs=>by
     unfold Go.part
     simp only [wT,hag w,xH,if_true,hsz w,wS,hoff]
    have hfo:P.fieldsOf f.type=fs':=by simp [Program.fieldsOf,hu]
    have gd:∀(xs:Array Value) (i:Nat),i<inf.size→n+inf.size≤xs.size→(xs.extract n (n+inf.size)).getD (0+i) undef=xs.getD (n+i) undef:=fun xs i hi hx=>by
     simp only [zC,wU]
     rw [Array.getElem?_extract,if_pos (by omega)]
    have l1:(cs.take inf.size).length=inf.size:=by simp;omega
    have l2:(ds.take inf.size).length=inf.size:=by simp;omega
    have h0:=hr dp (vs.extract n (n+inf.size)) (us.extract n (n+inf.size)) (cs.take inf.size) (ds.take inf.size) t1 e1
     (fun i c hi=>by
      have hlt:i<inf.size:=by have:=(zG.1 hi).1;omega
      rw [gd _ _ hlt (by omega)]
      refine hc i c ?_
      rwa [xC,if_pos hlt] at hi)
     (fun i c hi=>by
      have hlt:i<inf.size:=by have:=(zG.1 hi).1;omega
      rw [gd _ _ hlt (by omega)]
      refine hd i c ?_
      rwa [xC,if_pos hlt] at hi)
     (by rw [l1];simp;omega) (by rw [l2];simp;omega)
    have hrest:=ih (n+inf.size) _ a4 dp vs us (cs.drop inf.size) (ds.drop inf.size) t2 e2 (fun i c hi=>by rw [xD] at hi;have:=hc _ c hi;rwa [←wN] at this)
     (fun i c hi=>by rw [xD] at hi;have:=hd _ c hi;rwa [←wN] at this) (by simp;omega) (by simp;omega)
    unfold Op.eqFields
    have heq:(Op.equalIn (dp+(d'+1)+1) f.type (.agg (vs.extract n (n+inf.size))) (.agg (us.extract n (n+inf.size)))).run P w=.ok t1 w:=by
     rw [run_equalIn_agg w (dp+(d'+1)) f.type _ _ (by rw [hfo];exact hu) a3,hfo]
     exact h0
    simp only [hnm,ne_eq,not_false_iff,if_true,wT,pt,heq,xH]
    cases t1
    ·simp
    ·simp [hrest]
   ·cases h3
  ·cases h3
theorem c67:∀(d:Nat) (ks:List Nat) (fs:List Field),d2k P d ks fs=true→EqF P g w d 0 ks fs
 | 0,ks,fs,h=>c68 (fun _ _ h=>by cases h) fs 0 ks h
 | d+1,ks,fs,h=>c68 (fun ks fs h=>⟨d,rfl,c67 d ks fs h⟩) fs 0 ks h
theorem f4f {ng:Bool} {ks:List Nat} {x y:Opd} (hok:(y7.eqs ng ks x y).ok P o.op=true) (hR:Rel P c g σ a w) {d:Nat} (h:o6 P (.eqs ng ks x y) d [x.ev σ.env,y.ev σ.env] ob K L) (hF:Fin o c g σ a w K L K'):o.wp P a w K' Q':=by
 cases ho:o.op<;>simp [y7.ok,ho] at hok
 rename_i op t x' y' t'
 obtain ⟨⟨⟨h1,hx⟩,hy⟩,ht⟩:=hok
 have vx:=Opd.vr hR hx
 have vy:=Opd.vr hR hy
 simp only [o6,d5u,evl] at h
 split at h
 ·rename_i cs ds hp hq
  rw [hp] at vx;rw [hq] at vy
  split at h
  ·rename_i b hb
   obtain ⟨vs,ex,lx,rx⟩:=vx.agg_inv
   obtain ⟨us,ey,ly,ry⟩:=vy.agg_inv
   have:∃fs,P.underlying t=some (.struct fs)∧d2k P 3 ks fs.toList=true∧P.stoodInHeld t=false∧P.eqGuardType P.depth t=false:=by
    unfold c2z at ht
    split at ht
    ·rename_i fs hu
     simp only [xY,xO] at ht
     exact ⟨fs,hu,ht.1.1,ht.1.2,ht.2⟩
    ·cases ht
   obtain ⟨fs,hu,hf,hst,hg⟩:=this
   have hfo:P.fieldsOf t=fs:=by simp [Program.fieldsOf,hu]
   have heq:(Op.equalIn 10000 t (.agg vs) (.agg us)).run P w=.ok b w:=by
    rw [run_equalIn_agg w 9999 t vs us (by rw [hfo];exact hu) hst,hfo]
    exact c67 3 ks fs.toList hf 9995 vs us cs ds b hb (fun i c hi=>by rw [wU];exact rx i c hi) (fun i c hi=>by rw [wU];exact ry i c hi) (by omega) (by omega)
   refine z8 hR hF (v:=.bool (bif ng then !b else b)) ?_ (.inl h) (.rd (.bool _))
   cases ng<;>simp at h1<;>subst h1<;>simp [execOp,ho,ex,ey,run_eqGuard_agg w _ t x' y' vs us hg,run_eql_struct,run_neq_struct,heq]
  ·exact h.elim
 ·exact h.elim
end
section
variable {P:Program} {o:Oper} {c:Ctx} {g:Gh} {σ:St} {a:Act} {w:World} {ob:Nat→Option a03} {K L:Eff→Prop} {K':Act→World→Prop} {Q':Exit→Act→World→Prop}
theorem b7j (hR:Rel P c g σ a w):∀{xs:List Opd} {ys:List Operand},a7u xs ys=true→xs.length=ys.length∧∀(i:Nat) (x:V),(xs.map (·.ev σ.env))[i]?=some x→VR g w ((ys.map a.eval).getD i undef) x
 | [],[],_=>⟨rfl,fun i x h=>by simp at h⟩
 | [],_::_,h=>by simp [a7u] at h
 | _::_,[],h=>by simp [a7u] at h
 | x::xs,y::ys,h=>by
  simp only [a7u,xY] at h
  obtain ⟨h1,h2⟩:=b7j hR h.2
  refine ⟨by simp [h1],fun i v hi=>?_⟩
  cases i with
  | zero=>simp at hi;subst hi;simpa using Opd.vr hR h.1
  | succ i=>simp only [wP,zN] at hi;simpa using h2 i v hi
theorem e3y {f:Nat} {cap:List Opd} (hok:(y7.mkfn f cap).ok P o.op=true) (hR:Rel P c g σ a w) {d:Nat} (h:o6 P (.mkfn f cap) d (cap.map (·.ev σ.env)) ob K L) (hF:Fin o c g σ a w K L K'):o.wp P a w K' Q':=by
 have:∃first cap',o.op=.makeFunc (.func f) first cap'∧first=#[]∧a7u cap cap'.toList=true:=by
  cases ho:o.op<;>rw [ho] at hok<;>try (simp [y7.ok] at hok;done)
  rename_i fn first cap'
  cases fn<;>try (simp [y7.ok] at hok;done)
  simp [y7.ok] at hok
  obtain ⟨⟨h1,h2⟩,h3⟩:=hok
  subst h1
  exact ⟨first,cap',rfl,h2,h3⟩
 obtain ⟨first,cap',ho,rfl,hc⟩:=this
 obtain ⟨hl,hv⟩:=b7j hR hc
 have hk:K (evl (.fn (.func f) (cap.map (·.ev σ.env)))):=by
  unfold o6 at h;exact h
 refine z8 hR hF (v:=.func (.func f) #[] (cap'.map a.eval)) ?_ (.inl hk) ?_
 ·simp [execOp,ho,Instr.makeFunc]
 ·refine .fn _ _ _ (by simp [hl]) fun i x hi=>?_
  have:=hv i x hi
  have e:(cap'.map a.eval).getD i undef=(cap'.toList.map a.eval).getD i undef:=by
   simp [zC,List.getD]
  rw [e];exact this
theorem g1q {mx:Bool} {x y:Opd} (hok:(y7.mm mx x y).ok P o.op=true) (hR:Rel P c g σ a w) {d:Nat} (h:o6 P (.mm mx x y) d [x.ev σ.env,y.ev σ.env] ob K L) (hF:Fin o c g σ a w K L K'):o.wp P a w K' Q':=by
 have:∃cl u v,o.op=.call cl∧cl.callee=.builtin (if mx then .max else .min)∧cl.args=#[u,v]∧x.ok u=true∧y.ok v=true:=by
  cases ho:o.op<;>rw [ho] at hok<;>try (simp [y7.ok] at hok;done)
  rename_i cl
  obtain ⟨callee,args,ts⟩:=cl
  cases callee<;>try (simp [y7.ok] at hok;done)
  unfold y7.ok at hok
  simp only at hok
  split at hok
  ·rename_i u v he
   simp at hok
   refine ⟨_,u,v,rfl,by rw [hok.2],?_,hok.1.1,hok.1.2⟩
   apply xZ.1
   simpa using he
  ·cases hok
 obtain ⟨cl,u,v,ho,hcl,hargs,hx,hy⟩:=this
 have vx:=Opd.vr hR hx
 have vy:=Opd.vr hR hy
 simp only [o6,sMm] at h
 split at h
 ·rename_i k p k' q hp hq
  rw [hp] at vx;rw [hq] at vy
  by_cases hk:kEq k k'=true
  case neg=>simp [hk] at h
  simp only [hk,vE] at h
  have:=a7x hk;subst this
  obtain ⟨ex,rx⟩:=vx.int_inv
  obtain ⟨ey,ry⟩:=vy.int_inv
  refine z8 hR hF (v:=.int k (bif mx then max p q else min p q)) ?_ (.inl h) (.rd (.int _ _ ?_))
  ·cases mx
   ·simp [execOp,ho,resolve,hcl,hargs,invoke,builtin,ex,ey,run_min_int2]
    rw [Int.min_def]
    split<;>split<;>first|rfl|omega
   ·simp [execOp,ho,resolve,hcl,hargs,invoke,builtin,ex,ey,run_max_int2]
    rw [Int.max_def]
    split<;>split<;>first|rfl|omega
  ·cases mx<;>simp only [vE,vC]
   ·rw [Int.min_def];split<;>assumption
   ·rw [Int.max_def];split<;>assumption
 ·exact h.elim
theorem f4d {off:Nat} {x:Opd} (hok:(y7.fad off x).ok P o.op=true) (hR:Rel P c g σ a w) {d:Nat} (h:o6 P (.fad off x) d [x.ev σ.env] ob K L) (hF:Fin o c g σ a w K L K'):o.wp P a w K' Q':=by
 have:∃t y f fs fl i,o.op=.fieldAddr t y f∧x.ok y=true∧P.underlying t=some (.struct fs)∧fs[f]?=some fl∧fl.offset=off∧P.info? fl.type=some i∧i.size≠0:=by
  cases ho:o.op<;>rw [ho] at hok<;>try (simp [y7.ok] at hok;done)
  rename_i t y f
  simp only [y7.ok,xY,c7z] at hok
  obtain ⟨h1,h2⟩:=hok
  split at h2<;>try (cases h2;done)
  rename_i fs hu
  split at h2<;>try (cases h2;done)
  rename_i fl hfl
  simp only [xY] at h2
  obtain ⟨h2,h3⟩:=h2
  split at h3<;>try (cases h3;done)
  rename_i i hi
  exact ⟨t,y,f,fs,fl,i,rfl,h1,hu,hfl,by simpa using h2,hi,fun e=>by rw [e] at h3;cases h3⟩
 obtain ⟨t,y,f,fs,fl,i,ho,hx,hu,hfl,hoff,hi,hsz⟩:=this
 have vx:=Opd.vr hR hx
 simp only [o6,e1x] at h
 have hrun:∀ad:Addr,a.eval y=.pointer (some ad)→(execOp a.eval o).run P w=.ok (.value (.pointer (some (ad.add off)))) w:=by
  intro ad e
  simp [execOp,ho,Instr.fieldAt,run_underlying hu,hfl,e,Instr.sureAddr,fieldPlace,Go.sizeOf,typeInfo,hi,hsz,hoff]
 have add_eq:∀b n m:Nat,(⟨b,n,none⟩:Addr).add m=⟨b,n+m,none⟩:=fun b n m=>Addr.add_lit b n m
 cases hc:x.ev σ.env<;>simp only [hc] at h<;>try exact h.elim
 ·rw [hc] at vx
  refine z8 hR hF (hrun _ vx.ptr_inv) (.inl h) ?_
  rw [add_eq];exact .ptr _ _
 ·rw [hc] at vx
  obtain ⟨b,o',cur,e,fz,hv,hS,hg,hb,hr⟩:=vx.eptr_inv
  refine z8 hR hF (hrun _ hv) (.inl h) ?_
  rw [add_eq,wN];exact .eptr b o' _ cur e fz _ hS hg hb hr
 ·rw [hc] at vx
  refine z8 hR hF (hrun _ vx.optr_inv) (.inl h) ?_
  rw [add_eq,wN];exact .optr _ _ _ _
theorem b7i {n:Option Nat} {off:Nat} {cs:List V} {Kp:V→Prop} (h:part n off cs Kp):∃x,Kp x ∧
  ((n=none∧cs[off]?=some x)∨∃m,n=some m∧off+m≤cs.length∧x=.agg ((cs.drop off).take m)):=by
 unfold part at h
 cases n with
 | none =>
  simp only at h
  split at h
  ·rename_i c r hd
   refine ⟨c,h,.inl ⟨rfl,?_⟩⟩
   have:=congrArg (·[0]?) hd
   simpa using this
  ·exact h.elim
 | some m =>
  simp only at h
  by_cases hb:Nat.ble (off+m) cs.length=true
  ·simp only [hb,vE] at h
   exact ⟨_,h,.inr ⟨m,rfl,by simpa using hb,rfl⟩⟩
  ·simp [hb] at h
theorem b0q {t:TypeId} (h:b89 P t=some none):∀w':World,(isAgg t).run P w'=.ok false w':=by
 intro w'
 unfold b89 at h
 split at h<;>try (simp at h;done)
 rename_i d i hn1 hn2 hu hi
 cases d<;>simp_all [isAgg,run_underlying]
theorem b5j {t:TypeId} {m:Nat} (h:b89 P t=some (some m)):(∀w':World,(isAgg t).run P w'=.ok true w')∧∀w':World,(Go.sizeOf t).run P w'=.ok m w':=by
 unfold b89 at h
 split at h<;>simp at h
 ·rename_i fs i hu hi
  exact ⟨fun w'=>by simp [isAgg,run_underlying hu],fun w'=>by simp [Go.sizeOf,typeInfo,hi,h]⟩
 ·rename_i n e i hu hi
  exact ⟨fun w'=>by simp [isAgg,run_underlying hu],fun w'=>by simp [Go.sizeOf,typeInfo,hi,h]⟩
theorem a1p {t:TypeId} {n:Option Nat} (ht:b89 P t=some n) {b o' off:Nat} {cur:Array Value} {e:TypeId} {fz:Nat×Nat} (hb:w.heap[b]?=some (.cells cur e fz)) {cs:List V}
  (hsz:o'+cs.length≤cur.size) (hr:∀(j:Nat) (x:V),cs[j]?=some x→VR g w (cur.getD (o'+j) undef) x) {Kp:V→Prop} (h:part n off cs Kp) :
  ∃v x,(loadVar t ⟨b,o'+off,none⟩).run P w=.ok v w∧Kp x∧VR g w v x:=by
 obtain ⟨x,hk,hx⟩:=b7i h
 rcases hx with ⟨rfl,hx⟩|⟨m,rfl,hm,rfl⟩
 ·have hlt:off<cs.length:=(zG.1 hx).1
  refine ⟨cur.getD (o'+off) undef,x,?_,hk,hr off x hx⟩
  have hc:w.cell? ⟨b,o'+off,none⟩=some (cur.getD (o'+off) undef):=by
   rw [cell_of_row w b _ cur e fz hb]
   have:o'+off<cur.size:=by omega
   simp [zC,this]
  simp [loadVar,b0q ht w,run_load,hc]
 ·obtain ⟨h1,h2⟩:=b5j ht
  have hl:((cur.toList.drop (o'+off)).take m).length=m:=by simp;omega
  refine ⟨.agg ((cur.toList.drop (o'+off)).take m).toArray,_,?_,hk,?_⟩
  ·have hrun:=run_loadCells_list (P:=P) w ⟨b,o'+off,none⟩ ((cur.toList.drop (o'+off)).take m) (fun j v hv=>by
    rw [show (⟨b,o'+off,none⟩:Addr).add j=⟨b,o'+off+j,none⟩ from Addr.add_lit _ _ _,cell_of_row w b _ cur e fz hb]
    rw [xC] at hv
    split at hv
    ·simpa using hv
    ·cases hv)
   rw [hl] at hrun
   simp only [loadVar,wT,h1 w,xH,if_true,h2 w,hrun,wS]
  ·refine .agg _ _ (by simp;omega) fun i x hi=>?_
   rw [xC] at hi
   split at hi
   ·rename_i him
    have hi':cs[off+i]?=some x:=by simpa using hi
    have:=hr (off+i) x hi'
    have hlt:o'+(off+i)<cur.size:=by
     have:=(zG.1 hi').1;omega
    have e1:((cur.toList.drop (o'+off)).take m).toArray.getD i undef=cur.getD (o'+(off+i)) undef:=by
     simp [zC,xC,him,wN]
    rw [e1];exact this
   ·cases hi
theorem d47 {n:Option Nat} {t:TypeId} {v:Value} {x:V} {H:Heap} {Kl Ll:V→Prop} (ht:b89 P t=some n) (hH:a2o P g w H) (hob:∀id o,ob id=some o→find id H=some o) (vx:VR g w v x) (h:sLd n x ob Kl Ll) :
  ∃ad u z,v=.pointer (some ad)∧(loadVar t ad).run P w=.ok u w∧(Kl z∨Ll z)∧VR g w u z:=by
 unfold sLd at h
 split at h
 ·rename_i id off
  split at h
  ·rename_i cs _ hobj
   have hO:=hH.obj _ _ (hob _ _ hobj)
   obtain ⟨hn,cur,e,fz,h1,h2,h3,h4⟩:=hO
   obtain ⟨v,x',hrun,hk,hv⟩:=a1p (P:=P) ht (o':=0) (off:=off) h1 (cs:=cs) (by omega) (fun j x hj=>by rw [wU];exact h4 j x hj) h
   rw [wU] at hrun
   exact ⟨_,v,x',vx.ptr_inv,hrun,.inl hk,hv⟩
  ·exact h.elim
 ·rename_i z off
  obtain ⟨b,o',cur,e,fz,hv,hS,hg,hb,hr⟩:=vx.eptr_inv
  obtain ⟨v,x',hrun,hk,hv'⟩:=a1p (P:=P) ht (off:=off) hg hb (fun j x hj=>.rd (hr j x hj)) h
  exact ⟨_,v,x',hv,hrun,.inl hk,hv'⟩
 ·rename_i id k i off
  split at h
  ·rename_i k' xs t0 hobj
   by_cases hkk:Nat.beq k k'=true
   case neg=>simp [hkk] at h
   simp only [hkk,vE] at h
   have:=zR hkk;subst this
   obtain ⟨x',hxi,hp⟩:=h
   rcases hH.obj _ _ (hob _ _ hobj) with ⟨_,hnil⟩|⟨hn,ha⟩
   ·rw [hnil] at hxi;simp at hxi
   ·obtain ⟨hkp,⟨cur,e,fz,h1,h2,h3,h4⟩,h5,h6,h7⟩:=ha
    have hlt:i<xs.length:=(zG.1 hxi).1
    have hx':=h7 x' (zZ hxi)
    have hle:(g.base id+i+1)*k≤cur.size:=by
     rw [h2];exact zX _ (by omega)
    rw [vA,w7] at hle
    obtain ⟨v,x'',hrun,hk,hv'⟩:=a1p (P:=P) ht (o':=(g.base id+i)*k) (off:=off) h1 (cs:=x'.cells) (by rw [hx'.1];exact hle) (fun j y hj=>.rd (h4 i j x' y hxi hj)) hp
    exact ⟨_,v,x'',vx.optr_inv,hrun,.inr hk,hv'⟩
  ·exact h.elim
 ·exact h.elim
theorem g1s {n:Option Nat} {x:Opd} (hok:(y7.ld n x).ok P o.op=true) (hR:Rel P c g σ a w) (hob:∀id o,ob id=some o→find id σ.heap=some o) {d:Nat} (h:o6 P (.ld n x) d [x.ev σ.env] ob K L) (hF:Fin o c g σ a w K L K'):o.wp P a w K' Q':=by
 have:∃t y,o.op=.load t y∧x.ok y=true∧b89 P t=some n:=by
  cases ho:o.op<;>rw [ho] at hok<;>try (simp [y7.ok] at hok;done)
  simp [y7.ok] at hok
  exact ⟨_,_,rfl,hok.1,hok.2⟩
 obtain ⟨t,y,ho,hx,ht⟩:=this
 simp only [o6] at h
 obtain ⟨ad,u,z,e,hrun,hk,hv⟩:=d47 ht hR.hp hob (Opd.vr hR hx) h
 exact z8 hR hF (by simp [execOp,ho,Instr.loadAt,e,Instr.sureAddr,hrun]) hk hv
theorem f4c {n:Option Nat} {off:Nat} {x:Opd} (hok:(y7.fld n off x).ok P o.op=true) (hR:Rel P c g σ a w) {d:Nat} (h:o6 P (.fld n off x) d [x.ev σ.env] ob K L) (hF:Fin o c g σ a w K L K'):o.wp P a w K' Q':=by
 have:∃t y f fs fl,o.op=.field t y f∧x.ok y=true∧P.underlying t=some (.struct fs)∧fs[f]?=some fl∧fl.offset=off∧b89 P fl.type=some n:=by
  cases ho:o.op<;>rw [ho] at hok<;>try (simp [y7.ok] at hok;done)
  rename_i t y f
  simp only [y7.ok,xY,c2w] at hok
  obtain ⟨h1,h2⟩:=hok
  split at h2<;>try (cases h2;done)
  rename_i fs hu
  split at h2<;>try (cases h2;done)
  rename_i fl hfl
  simp at h2
  exact ⟨t,y,f,fs,fl,rfl,h1,hu,hfl,h2.1,h2.2⟩
 obtain ⟨t,y,f,fs,fl,ho,hx,hu,hfl,hoff,ht⟩:=this
 have vx:=Opd.vr hR hx
 simp only [o6,e1w] at h
 split at h
 ·rename_i cs hc
  rw [hc] at vx
  obtain ⟨vs,hv,hl,hr⟩:=vx.agg_inv
  obtain ⟨x',hk,hx'⟩:=b7i h
  rcases hx' with ⟨rfl,hx'⟩|⟨m,rfl,hm,rfl⟩
  ·have hlt:off<vs.size:=by rw [hl];exact (zG.1 hx').1
   refine z8 hR hF (v:=vs.getD off undef) ?_ (.inl hk) (hr off x' hx')
   simp [execOp,ho,Instr.field,run_underlying hu,hfl,hv,asAgg,Go.part,b0q ht w,hoff,zC,hlt]
  ·obtain ⟨h1,h2⟩:=b5j ht
   refine z8 hR hF (v:=.agg (vs.extract off (off+m))) ?_ (.inl hk) (.agg _ _ (by simp;omega) fun i q hi=>?_)
   ·simp [execOp,ho,Instr.field,run_underlying hu,hfl,hv,asAgg,Go.part,h1 w,h2 w,hoff]
   ·rw [xC] at hi
    split at hi
    ·rename_i him
     have hi':cs[off+i]?=some q:=by simpa using hi
     have hq:=hr (off+i) q hi'
     have hlt:off+i<vs.size:=by rw [hl];exact (zG.1 hi').1
     have e1:(vs.extract off (off+m)).getD i undef=vs.getD (off+i) undef:=by
      have h3:i<min (off+m) vs.size - off:=by omega
      simp [zC,hlt,h3]
     rw [e1];exact hq
    ·cases hi
 ·exact h.elim
theorem c1n {t:TypeId} {k:Nat} (h:isSlice P t k=true):∃e,P.underlying t=some (.slice e)∧∀w':World,(Go.sizeOf e).run P w'=.ok k w':=by
 unfold isSlice at h
 split at h<;>try (cases h;done)
 rename_i e hu
 unfold a1x at h
 split at h<;>try (cases h;done)
 rename_i i hi
 refine ⟨e,hu,fun w'=>?_⟩
 have:i.size=k:=by simpa using h
 simp [Go.sizeOf,typeInfo,hi,this]
theorem f3z {k:Nat} {x i:Opd} (hok:(y7.iad k x i).ok P o.op=true) (hR:Rel P c g σ a w) {d:Nat} (h:o6 P (.iad k x i) d [x.ev σ.env,i.ev σ.env] ob K L) (hF:Fin o c g σ a w K L K'):o.wp P a w K' Q':=by
 have:∃t y z,o.op=.indexAddr t y z∧x.ok y=true∧i.ok z=true∧isSlice P t k=true:=by
  cases ho:o.op<;>rw [ho] at hok<;>try (simp [y7.ok] at hok;done)
  simp [y7.ok] at hok
  exact ⟨_,_,_,rfl,hok.1.1,hok.1.2,hok.2⟩
 obtain ⟨t,y,z,ho,hx,hi,ht⟩:=this
 obtain ⟨e,hu,hsz⟩:=c1n ht
 have vx:=Opd.vr hR hx
 have vi:=Opd.vr hR hi
 simp only [o6,c9k] at h
 split at h
 ·rename_i kk n hn
  rw [hn] at vi
  obtain ⟨ei,_⟩:=vi.int_inv
  have hrun:∀(ad:Addr) (len cap:Nat),a.eval y=.slice (some ad) len cap→0≤n→n<len→(execOp a.eval o).run P w=.ok (.value (.pointer (some (ad.add (n.toNat*k))))) w:=by
   intro ad len cap e1 h0 h1
   simp [execOp,ho,Instr.indexAt,ei,e1,asIntOf,run_underlying hu,h0,h1,hsz]
  split at h
  ·rename_i xs hc
   rw [hc] at vx
   obtain ⟨h0,q,hq,hql,hk⟩:=h
   have hrd:=vx.sl_inv
   have hlt:n.toNat<xs.length:=(zG.1 hq).1
   generalize a.eval y=vy at *
   cases hrd with
   | nilsl=>simp at hlt
   | slz=>simp at hlt
   | sl b o' len cap k' cur e' fz _ hS hg hl hm hcc hb hkk hr =>
    have hqq:=hkk q (zZ hq)
    have:k'=k:=by rw [←hqq.1,hql]
    subst this
    have hle:o'+(n.toNat+1)*k'≤cur.size:=by
     rcases hb with hb|hb
     ·omega
     ·exact wV (Nat.add_le_add_left (zX _ (by omega)) _) hb
    rw [vA,w7] at hle
    have:=hrun ⟨b,o',none⟩ len cap rfl h0 (by omega)
    refine z8 hR hF this (.inr hk) ?_
    rw [show (⟨b,o',none⟩:Addr).add (n.toNat*k')=⟨b,o'+n.toNat*k'+0,none⟩ from Addr.add_lit _ _ _]
    exact .eptr b _ 0 cur e' fz q hS hg (by rw [hql];omega) fun j cc hj=>hr n.toNat j q cc hq hj
  ·rename_i id k' lo m hc
   rw [hc] at vx
   by_cases hkk:Nat.beq k k'=true
   case neg=>simp [hkk] at h
   simp only [hkk,vE] at h
   have:=zR hkk;subst this
   obtain ⟨⟨h0,h1⟩,hk⟩:=h
   rcases vx.osl_inv with ⟨_,_,hz⟩|⟨hn',o',cc,hv,ho',hcap,hlc,_⟩
   ·omega
   ·refine z8 hR hF (hrun _ _ _ hv h0 h1) (.inl hk) ?_
    have ho'':o'=(g.base id+lo)*k:=by
     rcases ho' with h|h
     ·omega
     ·exact h
    rw [show (⟨g.ρ id,o',none⟩:Addr).add (n.toNat*k)=⟨g.ρ id,(g.base id+(lo+n.toNat))*k+0,none⟩ from by
     rw [show (⟨g.ρ id,o',none⟩:Addr).add (n.toNat*k)=⟨g.ρ id,o'+n.toNat*k,none⟩ from Addr.add_lit _ _ _,ho'',wY,←vA,wN]]
    exact .optr _ _ _ _
  ·exact h.elim
 ·exact h.elim
theorem f0c {t:TypeId} (h:a7q P t=true):P.underlying t=some .string:=by
 unfold a7q at h;split at h<;>simp_all
theorem f3x {x i:Opd} (hok:(y7.idx x i).ok P o.op=true) (hR:Rel P c g σ a w) {d:Nat} (h:o6 P (.idx x i) d [x.ev σ.env,i.ev σ.env] ob K L) (hF:Fin o c g σ a w K L K'):o.wp P a w K' Q':=by
 have:∃t y z,o.op=.index t y z∧x.ok y=true∧i.ok z=true∧P.underlying t=some .string:=by
  cases ho:o.op<;>rw [ho] at hok<;>try (simp [y7.ok] at hok;done)
  simp [y7.ok] at hok
  exact ⟨_,_,_,rfl,hok.1.1,hok.1.2,f0c hok.2⟩
 obtain ⟨t,y,z,ho,hx,hi,ht⟩:=this
 have vx:=Opd.vr hR hx
 have vi:=Opd.vr hR hi
 simp only [o6,e1t] at h
 split at h
 ·rename_i s k n hc hn
  rw [hc] at vx;rw [hn] at vi
  obtain ⟨b,eb,hb,_⟩:=vx.str_inv
  obtain ⟨ei,_⟩:=vi.int_inv
  obtain ⟨⟨h0,h1⟩,hk⟩:=h
  have hlt:n.toNat<b.size:=by
   have:b.size=s.length:=by rw [←hb,z6];rfl
   omega
  have hgb:b[n.toNat]?=some (s.getD n.toNat 0):=by
   have:b[n.toNat]?=b.data[n.toNat]?:=by
    rw [ByteArray.getElem?_lt' b _ hlt]
    have hlt':n.toNat<b.data.size:=hlt
    rw [zI hlt']
    rfl
   rw [this,←zU,hb]
   have:n.toNat<s.length:=by omega
   simp [this]
  refine z8 hR hF (v:=.int .u8 (s.getD n.toNat 0).toNat) ?_ (.inl hk) (.rd (.int _ _ ?_))
  ·simp only [execOp,ho,Instr.index,ei,eb,asIntOf,wT,wS,xH,run_underlying ht,h0,if_true,hgb]
  ·rw [a13]
   have:=(s.getD n.toNat 0).toNat_lt
   simp only [rng]
   omega
 ·exact h.elim
theorem f3t {st:Bool} {x:Opd} (hok:(y7.len st x).ok P o.op=true) (hR:Rel P c g σ a w) {d:Nat} (h:o6 P (.len st x) d [x.ev σ.env] ob K L) (hF:Fin o c g σ a w K L K'):o.wp P a w K' Q':=by
 have:∃cl y t,o.op=.call cl∧cl.callee=.builtin .len∧cl.args=#[y]∧cl.argTypes=#[t]∧x.ok y=true∧((P.underlying t=some .string∧st=true)∨((∃e,P.underlying t=some (.slice e))∧st=false)):=by
  cases ho:o.op<;>rw [ho] at hok<;>try (simp [y7.ok] at hok;done)
  rename_i cl
  obtain ⟨callee,args,ts⟩:=cl
  cases callee<;>try (simp [y7.ok] at hok;done)
  rename_i b
  cases b<;>try (simp [y7.ok] at hok;done)
  simp only [y7.ok] at hok
  split at hok
  ·rename_i y t he1 he2
   simp only [xY] at hok
   refine ⟨_,y,t,rfl,rfl,xZ.1 (by simpa using he1),xZ.1 (by simpa using he2),hok.1,?_⟩
   have h2:=hok.2
   split at h2
   ·rename_i hu;exact .inl ⟨hu,h2⟩
   ·rename_i e hu;exact .inr ⟨⟨e,hu⟩,by simpa using h2⟩
   ·cases h2
  ·cases hok
 obtain ⟨cl,y,t,ho,hcl,hargs,hts,hx,ht⟩:=this
 have vx:=Opd.vr hR hx
 simp only [o6,sLen] at h
 have fin:∀(n:Nat),(Builtin.len_ #[t] o.type #[a.eval y]).run P w=.ok (goInt n) w→n≤maxLen→K (evl (.int .i64 n))→o.wp P a w K' Q':=by
  intro n hrun hm hk
  refine z8 hR hF (v:=goInt n) ?_ (.inl hk) (.rd (.int _ _ ?_))
  ·simp [execOp,ho,resolve,hcl,hargs,hts,invoke,builtin,hrun]
  ·rw [a13];simp only [rng,maxLen] at *;omega
 rcases ht with ⟨hu,rfl⟩|⟨⟨e,hu⟩,rfl⟩
 ·cases hc:x.ev σ.env<;>simp only [hc,vE] at h<;>try exact h.elim
  rename_i s
  rw [hc] at vx
  obtain ⟨b,eb,hb,hm⟩:=vx.str_inv
  have hs:b.size=s.length:=by rw [←hb,z6];rfl
  exact fin s.length (by simp [eb,Builtin.len_,run_underlying hu,hs]) (by omega) h
 ·have hrun:∀ad n cap,a.eval y=.slice ad n cap→(Builtin.len_ #[t] o.type #[a.eval y]).run P w=.ok (goInt n) w:=by
   intro ad n cap e1;simp [e1,Builtin.len_,run_underlying hu]
  cases hc:x.ev σ.env<;>simp only [hc,vC] at h<;>try exact h.elim
  ·rw [hc] at vx
   exact fin 0 (hrun _ _ _ vx.nils_inv) (by simp) h
  ·rename_i xs
   rw [hc] at vx
   have hrd:=vx.sl_inv
   generalize hvy:a.eval y=vy at hrd
   cases hrd with
   | nilsl=>exact fin 0 (hrun _ _ _ hvy) (by simp) h
   | slz a0 cap0=>exact fin 0 (hrun _ _ _ hvy) (by simp) h
   | sl b o' len cap k' cur e' fz _ hS hg hl hm hcc hb hkk hr =>
    rw [hl] at h
    exact fin len (hrun _ _ _ hvy) hm h
  ·rename_i id k lo n
   rw [hc] at vx
   rcases vx.osl_inv with ⟨_,hv,hz⟩|⟨hn',o',cc,hv,ho',hcap,hlc,hm⟩
   ·subst hz;exact fin 0 (hrun _ _ _ hv) (by simp) h
   ·exact fin n (hrun _ _ _ hv) (by omega) h
end
section
variable {P:Program} {o:Oper} {c:Ctx} {g:Gh} {σ:St} {a:Act} {w:World} {ob:Nat→Option a03} {K L:Eff→Prop} {K':Act→World→Prop} {Q':Exit→Act→World→Prop}
def Clean (c:Ctx) (σ:St) (n:Nat):Prop:=find n c.H0=none∧a7v n σ.env=true∧a0w n σ.heap=true
theorem Opd.no {n:Nat} (h:a7v n σ.env=true) (x:Opd) (y:Operand) (hok:x.ok y=true):(x.ev σ.env).has n=false:=by
 cases x with
 | t m =>
  simp only [Opd.ev,a1d]
  cases hf:find m σ.env with
  | none=>rfl
  | some z=>exact a2v h hf
 | c v =>
  cases y<;>simp [Opd.ok] at hok
  rename_i u
  have key:∀{v:V} {u:Value},cOK v u=true→v.has n=false:=by
   intro v u h
   have hr:Rd (fun _=>False) default u v:=b6t h
   clear h hok
   induction hr with
   | agg vs cs hl hr ih =>
    have:∀l:List V,(∀x∈l,x.has n=false)→V.hasL n l=false:=by
     intro l
     induction l with
     | nil=>intro _;rfl
     | cons x l ih=>intro h;simp [V.hasL,h x (by simp),ih (fun y hy=>h y (by simp [hy]))]
    simp only [V.has]
    refine this cs fun x hx=>?_
    obtain ⟨i,hi,rfl⟩:=z2.1 hx
    exact ih i _ (zJ hi)
   | _=>simp [V.has,V.hasL]
  exact key hok
 | f m=>rfl
theorem a0l.of_clean {g':Gh} {x:V} {n:Nat} {o':a03} {dr:List Nat} (hc:Clean c σ n):a0l c.H0 g g' σ ⟨x,dr,[(n,o')]⟩ :=
 a0l.one hc.1 hc.2.1 fun m o'' hm _=>a2r hc.2.2 hm
theorem a1l.push {S:Nat→Prop} {w w':World} {B:Obj} (hlt:∀b,S b→b<w.heap.size) (h:w'.heap=w.heap.push B):a1l S w w':=fun b hb=>by
 rw [h,Array.getElem?_push,if_neg (by have:=hlt b hb;omega)]
theorem VR.newer {g:Gh} {w w':World} {n b base cap:Nat} {v:Value} {x:V} (h:VR g w v x) (hk:a1l g.S w w') (hx:x.has n=false):VR (g.set n b base cap) w' v x :=
 h.mono (g':=g.set n b base cap) hk (fun _ hb=>hb) fun id hid=>Gh.set_agree fun e=>by rw [e,hx] at hid;cases hid
theorem a3b (n:Nat):a2l (0,0) n:=.inl rfl
theorem b9d (hR:Rel P c g σ a w) (hF:Fin o c g σ a w K L K') {d:Nat} (hcl:Clean c σ d) {vs:Array Value} {e:TypeId} {cs:List V} (hl:vs.size=cs.length)
  (hv:∀(i:Nat) (x:V),cs[i]?=some x→VR g w (vs.getD i undef) x∧x.has d=false)
  (hrun:(execOp a.eval o).run P w=.ok (.value (.pointer (some ⟨w.heap.size,0,none⟩))) (w.alloc (.cells vs e))) {t:Option TypeId} (ht:b88 t e (0,0)) (hk:K ⟨.ptr d 0,[],[(d,.cells cs t)]⟩):o.wp P a w K' Q':=by
 unfold Oper.wp
 rw [hrun]
 have hkeep:a1l g.S w (w.alloc (.cells vs e)):=a1l.push hR.hp.lt rfl
 refine hF _ (.inl hk) (g.set d w.heap.size 0 0) _ _ (q9.alloc _ d 0 0 _ (.cells vs e) hR.hp.lt rfl rfl rfl rfl ?_) (a0l.of_clean hcl) ?_
 ·refine ⟨by simp [Gh.set],vs,e,(0,0),?_,hl,⟨a3b _,ht⟩,fun i x hx=>((hv i x hx).1).newer hkeep (hv i x hx).2⟩
  have e1:(g.set d w.heap.size 0 0).ρ d=w.heap.size:=by simp [Gh.set]
  rw [e1];exact heap_alloc_new w _
 ·have:(g.set d w.heap.size 0 0).ρ d=w.heap.size:=by simp [Gh.set]
  have h:=VR.ptr (g:=g.set d w.heap.size 0 0) (w:=w.alloc (.cells vs e)) d 0
  rw [this] at h;exact h
theorem c38:∀{cs:List V} {vs:List Value},c8j cs vs=true→vs.length=cs.length∧∀(i:Nat) (x:V),cs[i]?=some x→∃u,vs[i]?=some u∧cOK x u=true
 | [],[],_=>⟨rfl,fun i x h=>by simp at h⟩
 | [],_::_,h=>by simp [c8j] at h
 | _::_,[],h=>by simp [c8j] at h
 | x::cs,v::vs,h=>by
  simp only [c8j,xY] at h
  obtain ⟨h1,h2⟩:=c38 h.2
  refine ⟨by simp [h1],fun i y hy=>?_⟩
  cases i with
  | zero=>simp at hy;subst hy;exact ⟨v,rfl,h.1⟩
  | succ i=>simp at hy ⊢;exact h2 i y hy
theorem e8m {n:Nat} {v:V} {u:Value} (h:cOK v u=true):v.has n=false :=
 Opd.no (σ:=⟨[],[]⟩) rfl (.c v) (.const u) h
theorem b79 {t:TypeId} {zs:List V} (h:a8v P t zs=true):∃z:Value,(∀w':World,(zeroValue t).run P w'=.ok z w')∧z.cells.size=zs.length ∧
  ∀(S:Nat→Prop) (w':World) (i:Nat) (x:V),zs[i]?=some x→Rd S w' (z.cells.getD i undef) x∧∀n,x.has n=false:=by
 unfold a8v at h
 split at h<;>try (cases h;done)
 rename_i i hi
 split at h<;>try (cases h;done)
 rename_i z hz
 obtain ⟨h1,h2⟩:=c38 h
 refine ⟨z,fun w'=>by simp [zeroValue,typeInfo,hi,hz],by simpa using h1,fun S w' j x hx=>?_⟩
 obtain ⟨u,hu,hok⟩:=h2 j x hx
 have e:z.cells.getD j undef=u:=by
  simp only [zU] at hu
  simp [zC,hu]
 rw [e]
 exact ⟨b6t hok,fun n=>e8m hok⟩
theorem d58 {zs:List V} {t:Option TypeId} (hok:(y7.alloc zs t).ok P o.op=true) (hR:Rel P c g σ a w) {d:Nat} (hcl:Clean c σ d) {vs:List V} (h:o6 P (.alloc zs t) d vs ob K L) (hF:Fin o c g σ a w K L K'):o.wp P a w K' Q':=by
 have:∃e,o.op=.alloc e∧a8v P e zs=true∧b88 t e (0,0):=by
  cases ho:o.op<;>rw [ho] at hok<;>try (simp [y7.ok] at hok;done)
  simp only [y7.ok,xY] at hok
  refine ⟨_,rfl,hok.1,?_⟩
  cases t with
  | none=>exact trivial
  | some u =>
   have h2:=hok.2
   simp only [xY,xO] at h2
   simp only [b88,h2.2,vC]
   exact zR h2.1
 obtain ⟨e,ho,hz,hty⟩:=this
 obtain ⟨z,hrun,hl,hv⟩:=b79 hz
 have hk:K ⟨.ptr d 0,[],[(d,.cells zs t)]⟩:=by unfold o6 at h;exact h
 refine b9d hR hF hcl (vs:=z.cells) (e:=e) hl (fun i x hx=>⟨.rd (hv g.S w i x hx).1,(hv g.S w i x hx).2 d⟩) ?_ hty hk
 simp [execOp,ho,Instr.alloc,hrun w,newVar,newRow]
theorem f4j {x:Opd} (hok:(y7.box x).ok P o.op=true) (hR:Rel P c g σ a w) {d:Nat} (hcl:Clean c σ d) (h:o6 P (.box x) d [x.ev σ.env] ob K L) (hF:Fin o c g σ a w K L K'):o.wp P a w K' Q':=by
 have:∃e y,o.op=.box e y∧x.ok y=true:=by
  cases ho:o.op<;>rw [ho] at hok<;>try (simp [y7.ok] at hok;done)
  exact ⟨_,_,rfl,hok⟩
 obtain ⟨e,y,ho,hx⟩:=this
 have vx:=Opd.vr hR hx
 have hno:=Opd.no hcl.2.1 x y hx
 have hrun:(execOp a.eval o).run P w=.ok (.value (.pointer (some ⟨w.heap.size,0,none⟩))) (w.alloc (.cells (a.eval y).cells e)):=by
  simp [execOp,ho,Instr.box,newVar,newRow]
 have hk:(x.ev σ.env).nany=true∧K ⟨.ptr d 0,[],[(d,.cells (x.ev σ.env).cells none)]⟩:=by
  simp only [o6] at h
  unfold d5w at h
  split at h
  ·exact h.elim
  ·exact h.elim
  ·rename_i cs hc;rw [hc];exact ⟨rfl,h⟩
  ·rename_i hn1 hn3 hn2
   refine ⟨by cases hc:x.ev σ.env<;>first|rfl|exact absurd hc hn1|exact absurd hc (hn3 _ _),?_⟩
   have:(x.ev σ.env).cells=[x.ev σ.env]:=by
    cases hc:x.ev σ.env<;>first|rfl|(rw [hc] at hn2;exact absurd rfl (hn2 _))
   rw [this];exact h
 obtain ⟨hl,hv⟩:=vx.cells_of hk.1
 refine b9d hR hF hcl hl (fun i q hq=>⟨hv i q hq,?_⟩) hrun (t:=none) trivial hk.2
 have hm:=zZ hq
 cases hc:x.ev σ.env with
 | agg cs =>
  rw [hc] at hm hno
  exact V.hasL_mem hm hno
 | _ =>
  rw [hc] at hm hno
  simp [V.cells] at hm
  rw [hm];exact hno
theorem foldl_set:∀(l:List Value) (s off:Nat) (cs:Array Value),off+s+l.length≤cs.size →
  ((l.zipIdx s).foldl (fun cs p=>cs.setIfInBounds (off+p.2) p.1) cs).size=cs.size ∧
  ∀i,((l.zipIdx s).foldl (fun cs p=>cs.setIfInBounds (off+p.2) p.1) cs)[i]?=if off+s≤i∧i<off+s+l.length then l[i - (off+s)]? else cs[i]?
 | [],s,off,cs,_=>⟨rfl,fun i=>by simp;intro h1 h2;omega⟩
 | v::l,s,off,cs,h=>by
  obtain ⟨h1,h2⟩:=foldl_set l (s+1) off (cs.setIfInBounds (off+s) v) (by simp at h ⊢;omega)
  simp only [List.zipIdx_cons,wF]
  refine ⟨by rw [h1];simp,fun i=>?_⟩
  rw [h2]
  simp only [xU] at h ⊢
  by_cases e:i=off+s
  ·subst e
   rw [if_neg (by omega),if_pos (by omega)]
   have:off+s<cs.size:=by omega
   simp [this]
  ·by_cases hin:off+(s+1)≤i∧i<off+(s+1)+l.length
   ·rw [if_pos hin,if_pos (by omega)]
    obtain ⟨j,hj⟩:∃j,i - (off+s)=j+1:=⟨i - (off+s) - 1,by omega⟩
    rw [hj,zN]
    congr 1;omega
   ·rw [if_neg hin,if_neg (by omega)]
    have hne:¬off+s=i:=fun h=>e h.symm
    rw [zA hne]
theorem b1y {w0:World} (place:Nat→Option (Nat×Nat)):∀(parts:List (Nat×Value)) (ps:List (Nat×Nat×V)) (cells:Array Value) (cs cs':List V),
  parts.length=ps.length→(∀(i:Nat) (pt:Nat×Value) (q:Nat×Nat×V),parts[i]?=some pt→ps[i]?=some q→place pt.1=some (q.1,q.2.1)∧VR g w0 pt.2 q.2.2) →
  cells.size=cs.length→(∀(i:Nat) (x:V),cs[i]?=some x→VR g w0 (cells.getD i undef) x)→b0g cs ps=some cs' →
  ∃cells',Instr.fill place cells parts=some cells'∧cells'.size=cs'.length∧∀(i:Nat) (x:V),cs'[i]?=some x→VR g w0 (cells'.getD i undef) x:=by
 intro parts
 induction parts with
 | nil =>
  intro ps cells cs cs' hl _ hs hv hf
  cases ps with
  | cons _ _=>simp at hl
  | nil=>simp [b0g] at hf;subst hf;exact ⟨cells,rfl,hs,hv⟩
 | cons pt parts ih =>
  intro ps cells cs cs' hl hp hs hv hf
  cases ps with
  | nil=>simp at hl
  | cons q ps =>
   obtain ⟨off,n,x⟩:=q
   obtain ⟨i,v⟩:=pt
   obtain ⟨h1,h2⟩:=hp 0 (i,v) (off,n,x) rfl rfl
   simp only at h1 h2
   simp only [b0g] at hf
   by_cases hb:(x.nany&&Nat.beq x.cells.length n&&Nat.ble (off+n) cs.length)=true
   case neg=>simp [hb] at hf
   simp only [hb,vE] at hf
   simp only [xY] at hb
   obtain ⟨hvl,hvc⟩:=h2.cells_of hb.1.1
   have hn:x.cells.length=n:=by simpa using hb.1.2
   have hle:off+n≤cs.length:=by simpa using hb.2
   have hnn:¬(v.cells.size≠n):=by omega
   have hgg:¬(off+v.cells.size > cells.size):=by omega
   have key:=foldl_set v.cells.toList 0 off cells (by simp;omega)
   simp only [wY,z6] at key
   obtain ⟨k1,k2⟩:=key
   have hfold:v.cells.zipIdx.foldl (fun cs (p:Value×Nat)=>cs.setIfInBounds (off+p.2) p.1) cells=(v.cells.toList.zipIdx 0).foldl (fun cs p=>cs.setIfInBounds (off+p.2) p.1) cells:=by
    rw [←Array.foldl_toList];simp [Array.toList_zipIdx]
   have hcells:∀(j:Nat) (y:V),(setCells cs off x.cells)[j]?=some y→VR g w0 (((v.cells.toList.zipIdx 0).foldl (fun cs p=>cs.setIfInBounds (off+p.2) p.1) cells).getD j undef) y:=by
    intro j y hy
    have hg:∀u,((v.cells.toList.zipIdx 0).foldl (fun cs p=>cs.setIfInBounds (off+p.2) p.1) cells)[j]?=some u→((v.cells.toList.zipIdx 0).foldl (fun cs p=>cs.setIfInBounds (off+p.2) p.1) cells).getD j undef=u:=by
     intro u hu;simp [zC,hu]
    simp only [setCells,List.getElem?_append,xB,xS,Nat.min_eq_left (show off≤cs.length by omega)] at hy
    have hk:=k2 j
    by_cases hj1:j<off
    ·rw [if_pos (by omega),if_pos (by omega),xC,if_pos hj1] at hy
     rw [if_neg (by omega)] at hk
     have:=hv j y hy
     have hlt:j<cells.size:=by omega
     rw [zI hlt] at hk
     rw [hg _ hk]
     simpa [zC,hlt] using this
    ·by_cases hj2:j<off+x.cells.length
     ·rw [if_pos (by omega),if_neg (by omega)] at hy
      rw [if_pos (by omega)] at hk
      have h4:=hvc (j - off) y hy
      have hlt:j - off<v.cells.size:=by omega
      rw [zU,zI hlt] at hk
      rw [hg _ hk]
      simpa [zC,hlt] using h4
     ·rw [if_neg (by omega),xD] at hy
      rw [if_neg (by omega)] at hk
      have e1:off+x.cells.length+(j - (off+x.cells.length))=j:=by omega
      rw [e1] at hy
      have:=hv j y hy
      have hlt:j<cells.size:=by
       have:=(zG.1 hy).1;omega
      rw [zI hlt] at hk
      rw [hg _ hk]
      simpa [zC,hlt] using this
   obtain ⟨cells',r1,r2,r3⟩:=ih ps ((v.cells.toList.zipIdx 0).foldl (fun cs p=>cs.setIfInBounds (off+p.2) p.1) cells) (setCells cs off x.cells) cs' (by simpa using hl)
    (fun j pt q hj hq=>hp (j+1) pt q (by simpa using hj) (by simpa using hq)) (by rw [k1,hs];simp [setCells];omega) hcells hf
   refine ⟨cells',?_,r2,r3⟩
   simp only [Instr.fill,h1]
   rw [show (fun (cs:Array Value) (x:Value×Nat)=>match x with|(c,j)=>cs.setIfInBounds (off+j) c)=(fun cs (p:Value×Nat)=>cs.setIfInBounds (off+p.2) p.1) from rfl,hfold]
   simp only [ne_eq,gt_iff_lt,wI,xG] at *
   rw [if_neg (by omega)]
   exact r1
end
section
variable {P:Program} {o:Oper} {c:Ctx} {g:Gh} {σ:St} {a:Act} {w:World} {ob:Nat→Option a03} {K L:Eff→Prop} {K':Act→World→Prop} {Q':Exit→Act→World→Prop}
theorem a6q {t:TypeId} {n:Nat} (h:a1x P t n=true):∀w':World,(Go.sizeOf t).run P w'=.ok n w':=by
 unfold a1x at h
 split at h<;>try (cases h;done)
 rename_i i hi
 intro w'
 have:i.size=n:=by simpa using h
 simp [Go.sizeOf,typeInfo,hi,this]
theorem run_places:∀(fs:List Field),(fs.all fun f=>(P.info? f.type).isSome)=true→∃ps:List (Nat×Nat),(fs.mapM (fun f=>do pure (f.offset,←Go.sizeOf f.type)):Sem (List (Nat×Nat))).run P w=.ok ps w ∧
  ps.length=fs.length∧∀(i:Nat) (f:Field),fs[i]?=some f→∃inf,P.info? f.type=some inf∧ps[i]?=some (f.offset,inf.size)
 | [],_=>⟨[],rfl,rfl,fun i f h=>by simp at h⟩
 | f::fs,h=>by
  simp only [List.all_cons,xY] at h
  obtain ⟨ps,h1,h2,h3⟩:=run_places fs h.2
  obtain ⟨inf,hinf⟩:=Option.isSome_iff_exists.1 h.1
  refine ⟨(f.offset,inf.size)::ps,?_,by simp [h2],fun i q hq=>?_⟩
  ·simp only [List.mapM_cons,wT,Go.sizeOf,typeInfo,run_program,xH,hinf,wS]
   simp only [Go.sizeOf,typeInfo] at h1
   rw [h1]
   rfl
  ·cases i with
   | zero=>simp at hq;subst hq;exact ⟨inf,hinf,rfl⟩
   | succ i=>simp at hq ⊢;exact h3 i q hq
theorem b4l {fs:Array Field}:∀{ps:List (Nat×Nat×Opd)} {qs:List (Nat×Operand)},a99 P fs ps qs=true→ps.length=qs.length ∧
  ∀(i:Nat) (p:Nat×Nat×Opd) (q:Nat×Operand),ps[i]?=some p→qs[i]?=some q→(∃f inf,fs[q.1]?=some f∧f.offset=p.1∧P.info? f.type=some inf∧inf.size=p.2.1)∧p.2.2.ok q.2=true
 | [],[],_=>⟨rfl,fun i p q h=>by simp at h⟩
 | [],_::_,h=>by simp [a99] at h
 | _::_,[],h=>by simp [a99] at h
 | (off,n,x)::ps,(j,y)::qs,h=>by
  simp only [a99,xY] at h
  obtain ⟨⟨h1,h2⟩,h3⟩:=h
  obtain ⟨l,r⟩:=b4l h3
  refine ⟨by simp [l],fun i p q hp hq=>?_⟩
  cases i with
  | zero =>
   simp at hp hq;subst hp;subst hq
   refine ⟨?_,h2⟩
   split at h1<;>try (cases h1;done)
   rename_i f hf
   simp only [xY] at h1
   obtain ⟨h4,h5⟩:=h1
   unfold a1x at h5
   split at h5<;>try (cases h5;done)
   rename_i inf hinf
   exact ⟨f,inf,hf,by simpa using h4,hinf,by simpa using h5⟩
  | succ i=>simp only [zN] at hp hq;exact r i p q hp hq
theorem d57 {zs:List V} {ps:List (Nat×Nat×Opd)} (hok:(y7.build zs ps).ok P o.op=true) (hR:Rel P c g σ a w) {d:Nat} (h:o6 P (.build zs ps) d (ps.map fun p=>p.2.2.ev σ.env) ob K L) (hF:Fin o c g σ a w K L K'):o.wp P a w K' Q':=by
 have:∃t parts fs,o.op=.build t parts∧a8v P t zs=true∧P.underlying t=some (.struct fs)∧(fs.toList.all fun f=>(P.info? f.type).isSome)=true∧a99 P fs ps parts.toList=true:=by
  cases ho:o.op<;>rw [ho] at hok<;>try (simp [y7.ok] at hok;done)
  rename_i t parts
  simp only [y7.ok,xY] at hok
  obtain ⟨h1,h2⟩:=hok
  split at h2<;>try (cases h2;done)
  rename_i fs hu
  simp only [xY] at h2
  exact ⟨t,parts,fs,rfl,h1,hu,by simpa using h2.1,h2.2⟩
 obtain ⟨t,parts,fs,ho,hz,hu,hall,hp⟩:=this
 obtain ⟨z,hzr,hzl,hzv⟩:=b79 hz
 obtain ⟨pls,hpr,hpl,hpv⟩:=run_places (P:=P) (w:=w) fs.toList hall
 obtain ⟨hlen,hparts⟩:=b4l hp
 simp only [o6] at h
 split at h
 ·rename_i cs hfill
  have e1:(ps.zip (ps.map fun p=>p.2.2.ev σ.env)).map (fun p=>(p.1.1,p.1.2.1,p.2))=ps.map fun p=>(p.1,p.2.1,p.2.2.ev σ.env):=by
   clear hfill hp hlen hparts hok h
   induction ps with
   | nil=>rfl
   | cons p ps ih=>simp [ih]
  rw [e1] at hfill
  obtain ⟨cells',r1,r2,r3⟩:=b1y (g:=g) (w0:=w) (pls.toArray[·]?) (parts.toList.map fun q=>(q.1,a.eval q.2)) (ps.map fun p=>(p.1,p.2.1,p.2.2.ev σ.env)) z.cells zs cs (by simp [hlen])
   (fun i pt q hi hq=>by
    rw [xK] at hi hq
    cases hpi:parts.toList[i]? with
    | none=>rw [hpi] at hi;cases hi
    | some p0 =>
     cases hqi:ps[i]? with
     | none=>rw [hqi] at hq;cases hq
     | some q0 =>
      rw [hpi] at hi;rw [hqi] at hq
      simp at hi hq;subst hi;subst hq
      obtain ⟨⟨f,inf,k1,k2,k3,k4⟩,k5⟩:=hparts i q0 p0 hqi hpi
      obtain ⟨inf',m1,m2⟩:=hpv p0.1 f (by simpa using k1)
      rw [k3] at m1;cases m1
      refine ⟨?_,Opd.vr hR k5⟩
      simp [m2,k2,k4])
   hzl (fun i x hx=>.rd (hzv g.S w i x hx).1) hfill
  have hbuild:(Instr.build t (parts.map fun (i,x)=>(i,a.eval x))).run P w=.ok (.agg cells') w:=by
   simp only [Instr.build,wT,hzr w,xH,run_underlying hu]
   have hm:(fs.mapM (fun f=>do pure (f.offset,←Go.sizeOf f.type)):Sem (Array (Nat×Nat))).run P w=.ok pls.toArray w:=by
    rw [Array.mapM_eq_mapM_toList,Sem.run_map,hpr];rfl
   simp only [hm,xH]
   have e2:(parts.map fun (i,x)=>(i,a.eval x)).toList=parts.toList.map fun q=>(q.1,a.eval q.2):=by simp
   rw [e2,r1]
   rfl
  refine z8 hR hF (v:=.agg cells') ?_ (.inl h) (.agg _ _ r2 r3)
  simp only [execOp,ho]
  exact a6b hbuild
 ·exact h.elim
theorem flat_get {k:Nat}:∀{xs:List V},(∀x∈xs,x.cells.length=k)→∀(i j:Nat) (x c:V),xs[i]?=some x→x.cells[j]?=some c→(xs.flatMap V.cells)[i*k+j]?=some c
 | [],_,i,j,x,c,hi,_=>by simp at hi
 | y::xs,h,i,j,x,c,hi,hj=>by
  have hy:=h y xA
  rw [xL]
  cases i with
  | zero =>
   simp at hi;subst hi
   have:j<y.cells.length:=(zG.1 hj).1
   rw [Nat.zero_mul,wU,zH this];exact hj
  | succ i =>
   simp only [zN] at hi
   have ih:=flat_get (fun x hx=>h x (z3 _ hx)) i j x c hi hj
   rw [zD (by rw [hy,vA,w7];omega),hy,show (i+1)*k+j - k=i*k+j by rw [vA,w7];omega]
   exact ih
theorem c2q {k:Nat}:∀{xs:List V},(∀x∈xs,x.cells.length=k)→(xs.flatMap V.cells).length=xs.length*k
 | [],_=>by simp
 | y::xs,h=>by
  rw [xL,xB,h y xA,c2q (fun x hx=>h x (z3 _ hx)),xU,vA,w7];omega
def a3h (k:Nat):Nat→List V→List (Nat×Nat×V)
 | _,[]=>[]
 | i,x::xs=>(i*k,k,x)::a3h k (i+1) xs
theorem fill_flat {k:Nat}:∀(xs:List V) (i:Nat) (pre:List V),pre.length=i*k→(∀x∈xs,x.cells.length=k∧x.nany=true) →
  b0g (pre++List.replicate (xs.length*k) .any) (a3h k i xs)=some (pre++xs.flatMap V.cells)
 | [],i,pre,_,_=>by simp [a3h,b0g]
 | x::xs,i,pre,hl,h=>by
  obtain ⟨h1,h2⟩:=h x xA
  have ih:=fill_flat xs (i+1) (pre++x.cells) (by rw [xB,hl,h1,vA,w7]) (fun y hy=>h y (z3 _ hy))
  have hle:i*k+k≤(pre++List.replicate ((x::xs).length*k) V.any).length:=by
   simp [hl,vA]
  have hb:(x.nany&&Nat.beq x.cells.length k&&Nat.ble (i*k+k) (pre++List.replicate ((x::xs).length*k) V.any).length)=true:=by
   simp only [xY]
   exact ⟨⟨h2,by simpa using h1⟩,by simpa using hle⟩
  simp only [a3h,b0g,hb,vE]
  have e:setCells (pre++List.replicate ((x::xs).length*k) V.any) (i*k) x.cells=(pre++x.cells)++List.replicate (xs.length*k) V.any:=by
   unfold setCells
   rw [←hl,List.take_left' rfl,List.drop_append,hl,h1]
   have e2:List.drop (i*k+k) pre=[]:=List.drop_eq_nil_of_le (by omega)
   have e3:i*k+k - i*k=k:=by omega
   rw [e2,e3,List.drop_replicate,xU,vA,w7,Nat.add_sub_cancel]
   simp
  rw [e,ih,xL,List.append_assoc]
theorem b6h {k:Nat} {x:V} (h:a3f k x=true):x.cells.length=k∧(∀c∈x.cells,c.one=true)∧x.sealed=true:=by
 simp only [a3f,xY,xX] at h
 exact ⟨by simpa using h.1.1,h.1.2,h.2⟩
theorem a9u {x c:V} (h:x.sealed=true) (hc:c∈x.cells):c.sc=true:=by
 cases x with
 | agg cs=>simp only [V.sealed,xX] at h;exact h c hc
 | _=>simp [V.cells] at hc;subst hc;simpa [V.sealed] using h
theorem c26 {x:V} (h:∀c∈x.cells,c.one=true):x.nany=true:=by
 cases x with
 | any=>exact absurd (h .any (by simp [V.cells])) (by simp [V.one])
 | at_ a b=>exact absurd (h (.at_ a b) (by simp [V.cells])) (by simp [V.one])
 | _=>rfl
theorem c0x (hR:Rel P c g σ a w) (hF:Fin o c g σ a w K L K') {d:Nat} (hcl:Clean c σ d) {cur:Array Value} {e:TypeId} {fz:Nat×Nat} {k cap:Nat} {xs:List V} {w':World}
  (hkp:0<k) (hsz:cur.size=cap*k) {tg:Option TypeId} (htg:b88 tg e fz) (hfz:a2l fz cur.size) (hle:xs.length≤cap) (hm:cap≤maxLen) (hel:∀x∈xs,x.cells.length=k∧(∀c∈x.cells,c.one=true)∧x.sealed=true)
  (hv:∀(i j:Nat) (x y:V),xs[i]?=some x→x.cells[j]?=some y→Rd g.S w (cur.getD (i*k+j) undef) y)
  (h1:w'.os=w.os) (h2:w'.tape=w.tape) (h3:w'.output=w.output) (h4:w'.heap=w.heap.push (.cells cur e fz)) {n:Nat} (hn:n=xs.length)
  (hrun:(execOp a.eval o).run P w=.ok (.value (.slice (some ⟨w.heap.size,0,none⟩) n cap)) w')
  (hk:K ⟨.osl d k 0 n,[],[(d,.arr k xs tg)]⟩∨L ⟨.osl d k 0 n,[],[(d,.arr k xs tg)]⟩):o.wp P a w K' Q':=by
 unfold Oper.wp
 rw [hrun]
 have hkeep:a1l g.S w w':=a1l.push hR.hp.lt h4
 have e1:(g.set d w.heap.size 0 cap).ρ d=w.heap.size:=by simp [Gh.set]
 have e2:(g.set d w.heap.size 0 cap).base d=0:=by simp [Gh.set]
 have e3:(g.set d w.heap.size 0 cap).cap d=cap:=by simp [Gh.set]
 have e4:¬(g.set d w.heap.size 0 cap).nil d:=by simp [Gh.set]
 refine hF _ hk (g.set d w.heap.size 0 cap) _ _ (q9.alloc _ d 0 cap _ (.cells cur e fz) hR.hp.lt h1 h2 h3 h4 ?_) (a0l.of_clean hcl) ?_
 ·refine .inr ⟨e4,?_⟩
  rw [e1,e2,e3]
  refine ⟨hkp,⟨cur,e,fz,by rw [h4];simp,by rw [hsz,wU],⟨hfz,htg⟩,fun i j x y hx hy=>?_⟩,hle,by omega,hel⟩
  rw [wU]
  exact (hv i j x y hx hy).mono hkeep fun _ h=>h
 ·have:=VR.osl (g:=g.set d w.heap.size 0 cap) (w:=w') d k 0 n 0 cap e4 (.inr (by rw [e2];simp)) (by rw [e3];omega) (by omega) hm
  rw [e1] at this
  exact this
theorem b5a:∀{n:Nat} {xs:List Opd} {qs:List (Nat×Operand)},b5b n xs qs=true→xs.length=qs.length∧∀(i:Nat) (x:Opd) (q:Nat×Operand),xs[i]?=some x→qs[i]?=some q→q.1=n+i∧x.ok q.2=true
 | _,[],[],_=>⟨rfl,fun i x q h=>by simp at h⟩
 | _,[],_::_,h=>by simp [b5b] at h
 | _,_::_,[],h=>by simp [b5b] at h
 | n,x::xs,(j,y)::qs,h=>by
  simp only [b5b,xY] at h
  obtain ⟨⟨h1,h2⟩,h3⟩:=h
  obtain ⟨l,r⟩:=b5a h3
  refine ⟨by simp [l],fun i p q hp hq=>?_⟩
  cases i with
  | zero=>simp at hp hq;subst hp;subst hq;exact ⟨by simpa using h1,h2⟩
  | succ i =>
   simp only [zN] at hp hq
   obtain ⟨r1,r2⟩:=r i p q hp hq
   exact ⟨by omega,r2⟩
theorem b2z {k:Nat}:∀{xs:List V} {n:Nat} (i:Nat) (q:Nat×Nat×V),(a3h k n xs)[i]?=some q→∃x,xs[i]?=some x∧q=((n+i)*k,k,x)
 | [],n,i,q,h=>by simp [a3h] at h
 | x::xs,n,i,q,h=>by
  cases i with
  | zero=>simp [a3h] at h;exact ⟨x,rfl,by simp [←h]⟩
  | succ i =>
   simp only [a3h,zN] at h
   obtain ⟨y,h1,h2⟩:=b2z i q h
   exact ⟨y,by simpa using h1,by rw [h2,show n+1+i=n+(i+1) by omega]⟩
theorem b2y {k:Nat}:∀{xs:List V} {n:Nat},(a3h k n xs).length=xs.length
 | [],_=>rfl
 | x::xs,n=>by simp [a3h,b2y]
theorem c1r {k:Nat} {xs:List Opd} {uv:Bool} (hok:(y7.bslice k xs uv).ok P o.op=true) (hR:Rel P c g σ a w) {d:Nat} (hcl:Clean c σ d) (h:o6 P (.bslice k xs uv) d (xs.map (·.ev σ.env)) ob K L) (hF:Fin o c g σ a w K L K'):o.wp P a w K' Q':=by
 have:∃t parts e inf,o.op=.buildSlice t xs.length parts∧P.underlying t=some (.slice e)∧P.info? e=some inf∧inf.size=k∧inf.zero.isSome=true∧0<k∧xs.length*k≤16777216∧b5b 0 xs parts.toList=true:=by
  cases ho:o.op<;>rw [ho] at hok<;>try (simp [y7.ok] at hok;done)
  rename_i t n parts
  simp only [y7.ok,xY,xG] at hok
  obtain ⟨⟨⟨⟨h1,h2⟩,h3⟩,h4⟩,h5⟩:=hok
  split at h1<;>try (cases h1;done)
  rename_i e hu
  simp only [xY] at h1
  obtain ⟨h6,h7⟩:=h1
  split at h7<;>try (cases h7;done)
  rename_i inf hinf
  have hn:n=xs.length:=by simpa using h3
  subst hn
  refine ⟨t,parts,e,inf,rfl,hu,hinf,?_,h7,by simpa [Nat.blt_eq] using h2,h4,h5⟩
  simp only [a1x,hinf] at h6
  simpa using h6
 obtain ⟨t,parts,e,inf,ho,hu,hinf,hsz,hzs,hkp,hbig,hels⟩:=this
 obtain ⟨z,hz⟩:=Option.isSome_iff_exists.1 hzs
 obtain ⟨hlen,hparts⟩:=b5a hels
 have hk:(xs.map (·.ev σ.env)).all (a3f k)=true∧K ⟨.osl d k 0 (xs.map (·.ev σ.env)).length,[],[(d,.arr k (xs.map (·.ev σ.env)) (uvT uv))]⟩:=by
  unfold o6 at h
  by_cases hb:(xs.map (·.ev σ.env)).all (a3f k)=true
  ·simp only [hb,vE] at h;exact ⟨hb,h⟩
  ·simp [hb] at h
 obtain ⟨hall,hk⟩:=hk
 generalize hvs:xs.map (·.ev σ.env)=vs at *
 have hvl:vs.length=xs.length:=by rw [←hvs];simp
 have hel:∀x∈vs,x.cells.length=k∧(∀c∈x.cells,c.one=true)∧x.sealed=true:=fun x hx=>b6h (xX.1 hall x hx)
 obtain ⟨cells0,hc0,hc1⟩:∃cells0:Array Value,cells0.size=vs.length*k ∧
   (Instr.buildSlice t xs.length (parts.map fun (i,x)=>(i,a.eval x))).run P w =
    (match Instr.fill (fun i=>some (i*k,k)) cells0 (parts.toList.map fun q=>(q.1,a.eval q.2)) with
     | some cells=>.ok (.slice (some ⟨w.heap.size,0,none⟩) xs.length xs.length) (w.alloc (.cells cells e))
     | none=>.halt (.stuck "buildSlice: a part of the wrong size") w):=by
  have e2:(parts.map fun (i,x)=>(i,a.eval x)).toList=parts.toList.map fun q=>(q.1,a.eval q.2):=by simp
  have hnb:¬(xs.length*k > 2^24):=by omega
  have main:∀zc:Array Value,(zc=if xs.length*k=0 then #[] else z.cells)→(Instr.buildSlice t xs.length (parts.map fun (i,x)=>(i,a.eval x))).run P w =
    (match Instr.fill (fun i=>some (i*k,k)) ((Array.range (xs.length*k)).map (zc[· % zc.size]!)) (parts.toList.map fun q=>(q.1,a.eval q.2)) with
     | some cells=>.ok (.slice (some ⟨w.heap.size,0,none⟩) xs.length xs.length) (w.alloc (.cells cells e))
     | none=>.halt (.stuck "buildSlice: a part of the wrong size") w):=by
   intro zc hzc
   simp only [Instr.buildSlice,wT,run_underlying hu,xH,Go.sizeOf,typeInfo,run_program,hinf,wS,hsz,hnb,if_false]
   by_cases hzero:xs.length*k=0
   ·rw [if_pos hzero] at hzc ⊢
    subst hzc
    simp only [wT,wS,xH,e2]
    cases hf:Instr.fill (fun i=>some (i*k,k)) ((Array.range (xs.length*k)).map ((#[]:Array Value)[· % (#[]:Array Value).size]!)) (parts.toList.map fun q=>(q.1,a.eval q.2)) with
    | none=>simp
    | some cells=>simp [newRow]
   ·rw [if_neg hzero] at hzc ⊢
    subst hzc
    have hzr:(zeroValue e).run P w=.ok z w:=by simp [zeroValue,typeInfo,hinf,hz]
    simp only [wT,hzr,wS,xH,e2]
    cases hf:Instr.fill (fun i=>some (i*k,k)) ((Array.range (xs.length*k)).map (z.cells[· % z.cells.size]!)) (parts.toList.map fun q=>(q.1,a.eval q.2)) with
    | none=>simp
    | some cells=>simp [newRow]
  exact ⟨_,by simp [hvl],main _ rfl⟩
 obtain ⟨cells',r1,r2,r3⟩:=b1y (g:=g) (w0:=w) (fun i=>some (i*k,k)) (parts.toList.map fun q=>(q.1,a.eval q.2)) (a3h k 0 vs) cells0 (List.replicate (vs.length*k) .any) (vs.flatMap V.cells)
  (by rw [b2y];simp;rw [hvl,hlen];simp) (fun i pt q hi hq=>by
   obtain ⟨x,hx,rfl⟩:=b2z i q hq
   rw [xK] at hi
   cases hpi:parts.toList[i]? with
   | none=>rw [hpi] at hi;cases hi
   | some p0 =>
    rw [hpi] at hi;simp at hi;subst hi
    rw [←hvs,xK] at hx
    cases hxi:xs[i]? with
    | none=>rw [hxi] at hx;cases hx
    | some x0 =>
     rw [hxi] at hx;simp at hx;subst hx
     obtain ⟨m1,m2⟩:=hparts i x0 p0 hxi hpi
     exact ⟨by simp [m1],Opd.vr hR m2⟩)
  (by simp [hc0]) (fun i x hx=>by
   rw [List.getElem?_replicate] at hx
   split at hx
   ·cases hx;exact .any _
   ·cases hx) (by have:=fill_flat (k:=k) vs 0 [] (by simp) (fun x hx=>⟨(hel x hx).1,c26 (hel x hx).2.1⟩);simpa using this)
 rw [r1] at hc1
 refine c0x hR hF hcl (cur:=cells') (e:=e) (fz:=(0,0)) (k:=k) (cap:=vs.length) (xs:=vs) (w':=w.alloc (.cells cells' e)) hkp ?_ (tg:=uvT uv) (by cases uv<;>first|trivial|rfl) (a3b _) (w8 _) ?_ hel (fun i j x y hx hy=>?_) rfl rfl rfl rfl rfl ?_ (.inl hk)
 ·rw [r2,c2q (fun x hx=>(hel x hx).1)]
 ·have:vs.length≤16777216:=by
   rw [hvl]
   exact wV (Nat.le_mul_of_pos_right _ hkp) hbig
  rw [maxLen];omega
 ·have hf:=flat_get (k:=k) (fun x hx=>(hel x hx).1) i j x y hx hy
  refine (r3 _ y hf).sc_rd (a9u (hel x (zZ hx)).2.2 (zZ hy))
 ·simp only [execOp,ho]
  rw [hvl]
  exact a6b hc1
theorem a6z {t:TypeId} {k bytes:Nat} (h:a3c P t k bytes=true):∃e i z,P.underlying t=some (.slice e)∧P.info? e=some i∧i.zero=some z∧i.size=k∧i.bytes=bytes∧0<k∧0<bytes∧z.cells.size=k:=by
 unfold a3c at h
 split at h<;>try (cases h;done)
 rename_i e hu
 split at h<;>try (cases h;done)
 rename_i i hi
 simp only [xY] at h
 obtain ⟨⟨⟨⟨h1,h2⟩,h3⟩,h5⟩,h4⟩:=h
 split at h4<;>try (cases h4;done)
 rename_i z hz
 exact ⟨e,i,z,hu,hi,hz,by simpa using h1,by simpa using h2,by simpa [Nat.blt_eq] using h3,by simpa [Nat.blt_eq] using h5,by simpa using h4⟩
theorem e3x {k bytes:Nat} {z:V} {x y:Opd} (hok:(y7.mksl k bytes z x y).ok P o.op=true) (hR:Rel P c g σ a w) {d:Nat} (hcl:Clean c σ d) (h:o6 P (.mksl k bytes z x y) d [x.ev σ.env,y.ev σ.env] ob K L) (hF:Fin o c g σ a w K L K'):o.wp P a w K' Q':=by
 have:∃t x' y',o.op=.makeSlice t x' y'∧x.ok x'=true∧y.ok y'=true∧a3c P t k bytes=true∧b4d P t z=true∧a3f k z=true:=by
  cases ho:o.op<;>rw [ho] at hok<;>try (simp [y7.ok] at hok;done)
  simp [y7.ok] at hok
  exact ⟨_,_,_,rfl,hok.1.1.1.1,hok.1.1.1.2,hok.1.1.2,hok.1.2,hok.2⟩
 obtain ⟨t,x',y',ho,hx,hy,hs,hz,hoz⟩:=this
 obtain ⟨e,i,z0,hu,hi,hz0,hsz,hby,hkp,_,hzs⟩:=a6z hs
 have vx:=Opd.vr hR hx
 have vy:=Opd.vr hR hy
 simp only [o6,c09] at h
 split at h
 ·rename_i p q hp hq
  rw [hp] at vx;rw [hq] at vy
  obtain ⟨ex,rx⟩:=vx.int_inv
  obtain ⟨ey,ry⟩:=vy.int_inv
  obtain ⟨⟨h0,h1,h2⟩,hk⟩:=h
  rw [a13] at rx ry
  simp only [rng] at rx ry
  have hrun:=run_make (P:=P) w t e i z0 hu hi hz0 .i64 .i64 p q h0 h1 (by rw [hby,Int.mul_comm];omega) ry.2
  obtain ⟨hel1,hel2,hel3⟩:=b6h hoz
  have hzz:a8v P e z.cells=true:=by
   unfold b4d at hz;rw [hu] at hz;exact hz
  obtain ⟨z1,hz1,hz2,hz3⟩:=b79 hzz
  have:z1=z0:=by
   have:=hz1 w
   simp [zeroValue,typeInfo,hi,hz0] at this
   exact this.symm
  subst this
  refine c0x hR hF hcl (cur:=madeCells z1.cells (q.toNat*k)) (e:=e) (fz:=(0,0)) (k:=k) (cap:=q.toNat) (xs:=List.replicate p.toNat z) (w':=w.alloc (.cells (madeCells z1.cells (q.toNat*k)) e)) hkp (by simp [size_madeCells]) (tg:=none) trivial (a3b _)
   (by simp;omega) (by rw [maxLen];omega) (fun x hx=>by rw [List.eq_of_mem_replicate hx];exact ⟨hel1,hel2,hel3⟩) (fun i' j u v hu' hv'=>?_) rfl rfl rfl rfl (n:=p.toNat) (by simp) ?_ (.inl hk)
  ·rw [List.getElem?_replicate] at hu'
   split at hu'<;>cases hu'
   rename_i hlt
   have hj:j<k:=by rw [←hel1];exact (zG.1 hv').1
   have hb:i'*k+j<q.toNat*k:=by
    have:(i'+1)*k≤q.toNat*k:=zX _ (by omega)
    rw [vA,w7] at this;omega
   have e1:(madeCells z1.cells (q.toNat*k)).getD (i'*k+j) undef=z1.cells.getD j undef:=by
    have hm:(i'*k+j) % z1.cells.size=j:=by rw [hzs,Nat.mul_comm,Nat.mul_add_mod,Nat.mod_eq_of_lt hj]
    have hlt2:j<z1.cells.size:=by omega
    simp only [madeCells,zC]
    rw [Array.getElem?_map,Array.getElem?_range,if_pos hb]
    simp only [x6,xP,hm]
    rw [getElem!_pos z1.cells j hlt2]
    simp [hlt2]
   rw [e1]
   exact (hz3 g.S w j v hv').1
  ·simp only [execOp,ho,ex,ey]
   have hrun':=hrun
   rw [hsz] at hrun'
   exact a6b hrun'
 ·exact h.elim
theorem b7x (s:List UInt8):∀x∈s.map a0a,x.cells.length=1∧(∀c∈x.cells,c.one=true)∧x.sealed=true:=by
 intro x hx
 obtain ⟨b,_,rfl⟩:=wZ.1 hx
 refine ⟨rfl,fun c hc=>?_,rfl⟩
 simp [a0a,V.cells] at hc;subst hc;rfl
theorem c8k {S:Nat→Prop} {w':World} (b:UInt8):Rd S w' (.int .u8 b.toNat) (a0a b):=by
 refine .int _ _ ?_
 rw [a13]
 have:=b.toNat_lt
 simp only [rng];omega
theorem e3u {x:Opd} (hok:(y7.s2b x).ok P o.op=true) (hR:Rel P c g σ a w) {d:Nat} (hcl:Clean c σ d) (h:o6 P (.s2b x) d [x.ev σ.env] ob K L) (hF:Fin o c g σ a w K L K'):o.wp P a w K' Q':=by
 have:∃s dd y e,o.op=.convert s dd y∧x.ok y=true∧P.underlying s=some .string∧P.underlying dd=some (.slice e)∧P.underlying e=some (.int .u8):=by
  cases ho:o.op<;>rw [ho] at hok<;>try (simp [y7.ok] at hok;done)
  rename_i s dd y
  simp only [y7.ok,xY,a2s] at hok
  obtain ⟨⟨h1,h2⟩,h3⟩:=hok
  split at h3<;>try (cases h3;done)
  rename_i e hu
  simp only [xY] at h3
  refine ⟨s,dd,y,e,rfl,h1,f0c h2,hu,?_⟩
  have:=h3.1
  split at this<;>first|assumption|cases this
 obtain ⟨s,dd,y,e,ho,hx,hs,hd,he⟩:=this
 have vx:=Opd.vr hR hx
 simp only [o6,d5d] at h
 split at h
 ·rename_i t ht
  rw [ht] at vx
  obtain ⟨b,eb,hb,hm⟩:=vx.str_inv
  have hsz:b.size=t.length:=by rw [←hb,z6];rfl
  obtain ⟨cap,hcap⟩:∃cap,cap=grownCap w b.size 0 e:=⟨_,rfl⟩
  have hge:b.size≤cap:=by rw [hcap];exact grownCap_ge w b.size 0 e
  have hcm:cap≤maxLen:=by rw [hcap];exact grownCap_le_maxLen w b.size 0 e hm
  obtain ⟨cells,hcells⟩:∃cells:Array Value,cells=(b.data.map fun b=>Value.int .u8 b.toNat)++Array.replicate (cap - b.size) (.int .u8 0):=⟨_,rfl⟩
  have hcs:cells.size=cap:=by
   rw [hcells]
   have:b.data.size=b.size:=rfl
   simp [this];omega
  obtain ⟨w1,hw1⟩:∃w1:World,w1={ w.drew with heap:=w.heap.push (.cells cells e (cap,cap+1)) }:=⟨_,rfl⟩
  have hrun:(execOp a.eval o).run P w=.ok (.value (.slice (some ⟨w.heap.size,0,none⟩) b.size cap)) w1:=by
   simp only [execOp,ho,eb]
   refine a6b ?_
   simp only [convert,wT,run_underlying hs,run_underlying hd,run_underlying he,xH]
   simp only [Conv.stringToBytes,wT,run_choose,Question.forced,xF,if_false,xH]
   have hcut:(Question.appendCap b.size 0 e).cut (w.tape w.drawn (.appendCap b.size 0 e))=cap:=hcap.symm
   rw [hcut,←hcells]
   simp only [newRow,wT,run_newObj,xH,wS,markStringish,run_shape]
   have hsh:World.shape? { ({ w with drawn:=w.drawn+1 }:World) with heap:=w.heap.push (.cells cells e) } w.heap.size=some (e,cap):=by
    simp [World.shape?,hcs]
   rw [hsh]
   simp only [run_freeze,xH]
   have hfr:World.freeze { ({ w with drawn:=w.drawn+1 }:World) with heap:=w.heap.push (.cells cells e) } { block:=w.heap.size,off:=cap } 1=w1:=by
    rw [hw1]
    simp only [World.freeze,Nat.succ_ne_zero,if_false,World.drew]
    congr 1
    apply Array.ext
    ·simp
    ·intro i h1 h2
     rw [Array.getElem_modify]
     by_cases hi:w.heap.size=i
     ·subst hi;simp
     ·have:i<w.heap.size:=by simp at h2;omega
      simp [hi,Array.getElem_push_lt this]
   rw [hfr]
  have hk:K ⟨.osl d 1 0 b.size,[],[(d,.arr 1 (t.map a0a))]⟩:=by rw [hsz];exact h
  refine c0x hR hF hcl (cur:=cells) (e:=e) (fz:=(cap,cap+1)) (k:=1) (cap:=cap) (xs:=t.map a0a) (by omega) (by omega) (tg:=none) trivial (.inr (by simp;omega)) (by simp;omega) hcm (b7x t) (fun i j u v hu hv=>?_)
   (by rw [hw1];rfl) (by rw [hw1];rfl) (by rw [hw1];rfl) (by rw [hw1]) (n:=b.size) (by simp [hsz]) hrun (.inl hk)
  ·rw [xK] at hu
   cases hti:t[i]? with
   | none=>rw [hti] at hu;cases hu
   | some cc =>
    rw [hti] at hu;simp at hu;subst hu
    cases j with
    | succ j=>simp [a0a,V.cells] at hv
    | zero =>
     simp [a0a,V.cells] at hv;subst hv
     have hlt:i<t.length:=(zG.1 hti).1
     have e1:cells.getD (i*1+0) undef=.int .u8 cc.toNat:=by
      have h1:b.data[i]?=some cc:=by rw [←zU,hb];exact hti
      have h2:i<(b.data.map fun b=>Value.int .u8 b.toNat).size:=by
       have:b.data.size=b.size:=rfl
       simp [this];omega
      rw [hcells]
      simp only [Nat.mul_one,wY,zC]
      rw [Array.getElem?_append_left h2,Array.getElem?_map,h1]
      rfl
     rw [e1]
     exact c8k cc
 ·exact h.elim
end
section
variable {P:Program} {o:Oper} {c:Ctx} {g:Gh} {σ:St} {a:Act} {w:World} {ob:Nat→Option a03} {K L:Eff→Prop} {K':Act→World→Prop} {Q':Exit→Act→World→Prop}
theorem b3p {w:World} {b i:Nat} {cur:Array Value} {e:TypeId} {fz:Nat×Nat} {v:Value} (h:w.heap[b]?=some (.cells cur e fz)):(w.setCell ⟨b,i,none⟩ v).heap[b]?=some (.cells (cur.setIfInBounds i v) e fz):=by
 simp [World.setCell,zV,h]
theorem a1k (b s:Nat) (e:TypeId) (fz:Nat×Nat):∀(vs:List Value) (i:Nat) (cur:Array Value) (w:World),w.heap[b]?=some (.cells cur e fz)→a2l fz cur.size→s+i+vs.length≤cur.size→(∀v∈vs,v.oneCell'=true) →
  ∃w' cur',(storeCells ⟨b,s,none⟩ vs i).run P w=.ok () w'∧w'.os=w.os∧w'.tape=w.tape∧w'.output=w.output∧w'.heap.size=w.heap.size∧(∀b',b'≠b→w'.heap[b']?=w.heap[b']?) ∧
   w'.heap[b]?=some (.cells cur' e fz)∧cur'.size=cur.size∧∀j,cur'[j]?=if s+i≤j∧j<s+i+vs.length then vs[j - (s+i)]? else cur[j]?
 | [],i,cur,w,h,_,_,_=>⟨w,cur,rfl,rfl,rfl,rfl,rfl,fun _ _=>rfl,h,rfl,fun j=>by rw [if_neg (by simp only [wD];omega)]⟩
 | v :: vs,i,cur,w,h,hf,hl,h1=>by
  have hlt:s+i<cur.size:=by simp at hl;omega
  have ha:(⟨b,s,none⟩:Addr).add i=⟨b,s+i,none⟩:=Addr.add_lit _ _ _
  have hc:w.cell? ⟨b,s+i,none⟩=some cur[s+i]:=by
   rw [cell_of_row w b _ cur e fz h];simp [hlt]
  have hz:w.frozen? ⟨b,s+i,none⟩=false:=by
   have:=hf.at hlt
   simpa [World.frozen?,h] using this
  have hst:(store ((⟨b,s,none⟩:Addr).add i) v).run P w=.ok () (w.setCell ⟨b,s+i,none⟩ v):=by
   rw [run_store P w _ v .plain (h1 v xA),ha,hc]
   simp [hz]
  obtain ⟨w',cur',r1,r2,r3,r4,r5,r6,r7,r8,r9⟩:=a1k b s e fz vs (i+1) (cur.setIfInBounds (s+i) v) (w.setCell ⟨b,s+i,none⟩ v) (b3p h) (by simpa using hf) (by simp at hl ⊢;omega)
   (fun u hu=>h1 u (z3 _ hu))
  refine ⟨w',cur',?_,r2,r3,r4,by rw [r5];simp,fun b' hb'=>(r6 b' hb').trans (Below.heap_setCell _ _ _ _ hb'),r7,by rw [r8];simp,fun j=>?_⟩
  ·simp only [storeCells,wT,hst,xH,r1]
  ·rw [r9 j]
   simp only [xU]
   by_cases e1:j=s+i
   ·subst e1
    rw [if_neg (by omega),if_pos (by omega)]
    simp [hlt]
   ·by_cases hin:s+(i+1)≤j∧j<s+(i+1)+vs.length
    ·rw [if_pos hin,if_pos (by omega)]
     obtain ⟨q,hq⟩:∃q,j - (s+i)=q+1:=⟨j - (s+i) - 1,by omega⟩
     rw [hq,zN]
     congr 1;omega
    ·rw [if_neg hin,if_neg (by omega)]
     have hne:¬s+i=j:=fun h=>e1 h.symm
     rw [zA hne]
theorem a1l.upd {w':World} {H:Heap} {n:Nat} {o':a03} (hH:a2o P g w H) (hf:find n H=some o') (hn:¬g.nil n) (h:∀b,b≠g.ρ n→w'.heap[b]?=w.heap[b]?):a1l g.S w w' :=
 fun b hb=>h b fun e=>hH.sep n o' hf hn (e▸hb)
theorem b2m {cs ys:List V} {off:Nat} (h:off+ys.length≤cs.length) (j:Nat):(setCells cs off ys)[j]?=if off≤j∧j<off+ys.length then ys[j - off]? else cs[j]?:=by
 simp only [setCells,List.getElem?_append,xB,xS,Nat.min_eq_left (show off≤cs.length by omega)]
 by_cases h1:j<off
 ·rw [if_pos (by omega),if_pos (by omega),if_neg (by omega),xC,if_pos h1]
 ·by_cases h2:j<off+ys.length
  ·rw [if_pos (by omega),if_neg (by omega),if_pos (by omega)]
  ·rw [if_neg (by omega),if_neg (by omega),xD]
   congr 1;omega
theorem b2l {cs ys:List V} {off:Nat} (h:off+ys.length≤cs.length):(setCells cs off ys).length=cs.length:=by
 simp [setCells];omega
theorem getD_of_getElem? {cur:Array Value} {j:Nat} {u:Value} (h:cur[j]?=some u):cur.getD j undef=u:=by
 simp [zC,h]
theorem b2j.set {S:Nat→Prop} {w w':World} {b base cap k:Nat} {xs:List V} {t:Option TypeId} (h:b2j S w b base cap k xs t) (hk:a1l S w w') {i off:Nat} {x x':V} {ys:List V} (hi:xs[i]?=some x) (hx':x'.cells=setCells x.cells off ys) (hoff:off+ys.length≤k)
  (hok:x'.cells.length=k∧(∀c∈x'.cells,c.one=true)∧x'.sealed=true) {cur cur':Array Value} {e:TypeId} {fz:Nat×Nat} {vs:List Value} (hb:w.heap[b]?=some (.cells cur e fz)) (hb':w'.heap[b]?=some (.cells cur' e fz)) (hs:cur'.size=cur.size)
  (hvl:vs.length=ys.length) (hv:∀(j:Nat) (y:V),ys[j]?=some y→Rd S w (vs.getD j undef) y)
  (hc:∀j,cur'[j]?=if (base+i)*k+off≤j∧j<(base+i)*k+off+vs.length then vs[j - ((base+i)*k+off)]? else cur[j]?):b2j S w' b base cap k (xs.set i x') t:=by
 obtain ⟨hp,⟨cur0,e0,fz0,h1,h2,h3,h4⟩,h5,h6,h7⟩:=h
 rw [hb] at h1;cases h1
 refine ⟨hp,⟨cur',_,_,hb',by rw [hs,h2],⟨by rw [hs];exact h3.1,h3.2⟩,fun i' j u y hu hy=>?_⟩,by simpa using h5,h6,fun u hu=>?_⟩
 ·have hlt:i<xs.length:=(zG.1 hi).1
  have hxk:=h7 x (zZ hi)
  rw [xJ] at hu
  by_cases e1:i=i'
  ·subst e1
   rw [if_pos rfl,if_pos hlt] at hu
   cases hu
   rw [hx',b2m (by rw [hxk.1];exact hoff)] at hy
   have hcj:=hc ((base+i)*k+j)
   by_cases h8:off≤j∧j<off+ys.length
   ·rw [if_pos h8] at hy
    rw [if_pos (by omega)] at hcj
    have hv':=hv (j - off) y hy
    have e2:(base+i)*k+j - ((base+i)*k+off)=j - off:=by omega
    rw [e2] at hcj
    have hlt2:j - off<vs.length:=by omega
    rw [zJ hlt2] at hcj
    rw [getD_of_getElem? hcj]
    have e3:vs.getD (j - off) undef=vs[j - off]:=by simp [hlt2]
    rw [e3] at hv'
    exact hv'.mono hk fun _ h=>h
   ·rw [if_neg h8] at hy
    rw [if_neg (by omega)] at hcj
    have:=h4 i j x y hi hy
    have e2:cur'.getD ((base+i)*k+j) undef=cur.getD ((base+i)*k+j) undef:=by
     simp only [zC,hcj]
    rw [e2];exact this.mono hk fun _ h=>h
  ·rw [if_neg e1] at hu
   have hj:j<k:=by
    rw [←(h7 u (zZ hu)).1];exact (zG.1 hy).1
   have hcj:=hc ((base+i')*k+j)
   rw [if_neg ?_] at hcj
   ·have:=h4 i' j u y hu hy
    have e2:cur'.getD ((base+i')*k+j) undef=cur.getD ((base+i')*k+j) undef:=by
     simp only [zC,hcj]
    rw [e2];exact this.mono hk fun _ h=>h
   ·rintro ⟨q1,q2⟩
    rw [hvl] at q2
    rcases Nat.lt_or_gt_of_ne e1 with h9|h9
    ·have:(base+i+1)*k≤(base+i')*k:=zX _ (by omega)
     rw [vA (base+i) 1,w7] at this
     omega
    ·have:(base+i'+1)*k≤(base+i)*k:=zX _ (by omega)
     rw [vA (base+i') 1,w7] at this
     omega
 ·rcases List.mem_or_eq_of_mem_set hu with h8|h8
  ·exact h7 u h8
  ·rw [h8];exact hok
theorem g1m {n:Nat} {x y:Opd} (hok:(y7.st n x y).ok P o.op=true) (hR:Rel P c g σ a w) (hob:∀id o,ob id=some o→find id σ.heap=some o) {d:Nat} (h:o6 P (.st n x y) d [x.ev σ.env,y.ev σ.env] ob K L) (hF:Fin o c g σ a w K L K'):o.wp P a w K' Q':=by
 have:∃t x' y',o.op=.store t x' y'∧x.ok x'=true∧y.ok y'=true∧a1x P t n=true:=by
  cases ho:o.op<;>rw [ho] at hok<;>try (simp [y7.ok] at hok;done)
  simp [y7.ok] at hok
  exact ⟨_,_,_,rfl,hok.1.1,hok.1.2,hok.2⟩
 obtain ⟨t,x',y',ho,hx,hy,ht⟩:=this
 have vx:=Opd.vr hR hx
 have vy:=Opd.vr hR hy
 have hsz:=a6q ht
 simp only [o6,sSt] at h
 generalize hyv:y.ev σ.env=v at h vy
 by_cases hb:(Nat.beq v.cells.length n&&v.cells.all V.one)=true
 case neg=>simp [hb] at h
 simp only [hb,vE] at h
 simp only [xY,xX] at hb
 obtain ⟨hn,hone⟩:=hb
 have hn:v.cells.length=n:=by simpa using hn
 have hna:v.nany=true:=c26 hone
 obtain ⟨hvl,hvc⟩:=vy.cells_of hna
 have hone':∀u∈(a.eval y').cells.toList,u.oneCell'=true:=by
  intro u hu
  obtain ⟨i,hi,rfl⟩:=z2.1 hu
  have hi':i<v.cells.length:=by simp at hi;omega
  have:=(hvc i v.cells[i] (zJ hi')).one_cell (hone _ (xV hi'))
  have e1:(a.eval y').cells.getD i undef=(a.eval y').cells.toList[i]:=by
   simp at hi;simp [zC,hi]
  rw [←e1];exact this
 have fin:∀(ad:Addr) (w':World),a.eval x'=.pointer (some ad)→(storeCells ad (a.eval y').cells.toList).run P w=.ok () w'→∀eff g',(K eff∨L eff)→q9 g σ.heap w eff g' w'→a0l c.H0 g g' σ eff→eff.val=.any→o.wp P a w K' Q':=by
  intro ad w' e1 hrun eff g' hk h1 h2 h3
  unfold Oper.wp
  have:(execOp a.eval o).run P w=.ok .skip w':=by
   have hne:¬((a.eval y').cells.size≠n):=by omega
   simp only [execOp,ho,Instr.storeAt,e1,Instr.sureAddr,storeVar,wT,wS,xH,hsz w,hne,if_false,hrun]
  rw [this]
  exact hF eff hk g' undef w' h1 h2 (by rw [h3];exact .any _)
 split at h
 ·rename_i id off hc
  rw [hc] at vx
  split at h
  ·rename_i cs ty hobj
   have hfd:=hob _ _ hobj
   obtain ⟨hnn,cur,e,fz,h1,h2,⟨h3,hty⟩,h4⟩:=hR.hp.obj _ _ hfd
   by_cases hle:Nat.ble (off+n) cs.length=true
   case neg=>simp [hle] at h
   simp only [hle,vE] at h
   have hle:off+n≤cs.length:=by simpa using hle
   obtain ⟨w',cur',r1,r2,r3,r4,r5,r6,r7,r8,r9⟩:=a1k (P:=P) (g.ρ id) off e fz (a.eval y').cells.toList 0 cur w h1 h3 (by simp;omega) hone'
   have hkeep:a1l g.S w w':=a1l.upd hR.hp hfd hnn r6
   refine fin _ w' vx.ptr_inv r1 (eup id (.cells (setCells cs off v.cells) ty)) g (.inl h) (q9.upd .any id (.cells cs ty) _ hR.hp hfd hnn r2 r3 r4 r5 r6 ?_) (a0l.upd _) rfl
   refine ⟨hnn,cur',e,fz,r7,by rw [r8,h2,b2l (by omega)],⟨by rw [r8];exact h3,hty⟩,fun i q hq=>?_⟩
   rw [b2m (by omega)] at hq
   have r9':=r9 i
   simp only [wY,z6] at r9'
   by_cases h8:off≤i∧i<off+v.cells.length
   ·rw [if_pos h8] at hq
    rw [if_pos (by omega)] at r9'
    have hlt:i - off<(a.eval y').cells.size:=by omega
    have hq':=hvc (i - off) q hq
    rw [zU,zI hlt] at r9'
    rw [getD_of_getElem? r9']
    have e3:(a.eval y').cells.getD (i - off) undef=(a.eval y').cells[i - off]:=by simp [zC,hlt]
    rw [e3] at hq'
    exact hq'.mono (g':=g) hkeep (fun _ h=>h) fun id _=>Gh.agree.refl _ _
   ·rw [if_neg h8] at hq
    rw [if_neg (by omega)] at r9'
    have e2:cur'.getD i undef=cur.getD i undef:=by simp only [zC,r9']
    rw [e2]
    exact (h4 i q hq).mono (g':=g) hkeep (fun _ h=>h) fun id _=>Gh.agree.refl _ _
  ·exact h.elim
 ·rename_i id k i off hc
  rw [hc] at vx
  split at h
  ·rename_i k' xs t0 hobj
   have hfd:=hob _ _ hobj
   by_cases hkk:(Nat.beq k k'&&v.sealed)=true
   case neg=>simp [hkk] at h
   simp only [hkk,vE] at h
   simp only [xY] at hkk
   obtain ⟨hkk,hsea⟩:=hkk
   have:=zR hkk;subst this
   have main:∀(x0 x1:V),xs[i]?=some x0→x1.cells=setCells x0.cells off v.cells→off+n≤k→(x1.cells.length=k∧(∀c∈x1.cells,c.one=true)∧x1.sealed=true) →
     (K (eup id (.arr k (xs.set i x1) t0))∨L (eup id (.arr k (xs.set i x1) t0)))→o.wp P a w K' Q':=by
    intro x0 x1 hxi hx1 hoff hok1 hk
    rcases hR.hp.obj _ _ hfd with ⟨_,hnil⟩|⟨hnn,ha⟩
    ·rw [hnil] at hxi;simp at hxi
    ·have ha0:=ha
     obtain ⟨hkp,⟨cur,e,fz,h1,h2,⟨h3,_⟩,h4⟩,h5,h6,h7⟩:=ha
     have hlt:i<xs.length:=(zG.1 hxi).1
     have hle:(g.base id+i)*k+off+(a.eval y').cells.toList.length≤cur.size:=by
      have:(g.base id+i+1)*k≤cur.size:=by rw [h2];exact zX _ (by omega)
      rw [vA (g.base id+i) 1,w7] at this
      simp;omega
     obtain ⟨w',cur',r1,r2,r3,r4,r5,r6,r7,r8,r9⟩:=a1k (P:=P) (g.ρ id) ((g.base id+i)*k+off) e fz (a.eval y').cells.toList 0 cur w h1 h3 hle hone'
     have hkeep:a1l g.S w w':=a1l.upd hR.hp hfd hnn r6
     refine fin _ w' vx.optr_inv r1 (eup id (.arr k (xs.set i x1) t0)) g hk (q9.upd .any id (.arr k xs t0) _ hR.hp hfd hnn r2 r3 r4 r5 r6 ?_) (a0l.upd _) rfl
     refine .inr ⟨hnn,ha0.set hkeep hxi hx1 (by omega) hok1 h1 r7 r8 (vs:=(a.eval y').cells.toList) (by simp [hvl]) (fun j q hq=>?_) (fun j=>by have:=r9 j;simpa using this)⟩
     have hlt2:j<(a.eval y').cells.size:=by rw [hvl];exact (zG.1 hq).1
     have e3:(a.eval y').cells.toList.getD j undef=(a.eval y').cells.getD j undef:=by simp [zC,List.getD,hlt2]
     rw [e3]
     exact (hvc j q hq).sc_rd (a9u hsea (zZ hq))
   by_cases hw:(Nat.beq off 0&&Nat.beq n k)=true
   ·simp only [hw,vE] at h
    simp only [xY] at hw
    have h0:off=0:=by simpa using hw.1
    have hnk:n=k:=by simpa using hw.2
    obtain ⟨hlt,hk⟩:=h
    have hxi:xs[i]?=some xs[i]:=zJ hlt
    subst h0
    have hxk:xs[i].cells.length=k:=by
     rcases hR.hp.obj _ _ hfd with ⟨_,hnil⟩|⟨hnn,ha⟩
     ·subst hnil;simp at hlt
     ·exact (ha.elem _ (xV hlt)).1
    refine main xs[i] v hxi ?_ (by omega) ⟨by omega,hone,hsea⟩ (.inl hk)
    unfold setCells
    rw [List.take_zero,wA,List.drop_eq_nil_of_le (by omega),wH]
   ·simp only [hw,vC] at h
    obtain ⟨cs,hxi,hoff,hk⟩:=h
    have hx0:(V.agg cs).cells.length=k∧(∀c∈(V.agg cs).cells,c.one=true)∧(V.agg cs).sealed=true:=by
     rcases hR.hp.obj _ _ hfd with ⟨_,hnil⟩|⟨hnn,ha⟩
     ·rw [hnil] at hxi;simp at hxi
     ·exact ha.elem _ (zZ hxi)
    have hcl:cs.length=k:=hx0.1
    have hmem:∀c'∈setCells cs off v.cells,c'∈cs∨c'∈v.cells:=by
     intro c' hc'
     simp only [setCells,wC] at hc'
     rcases hc' with (h|h)|h
     ·exact .inl (List.mem_of_mem_take h)
     ·exact .inr h
     ·exact .inl (zY h)
    refine main (.agg cs) (.agg (setCells cs off v.cells)) hxi rfl hoff ⟨by rw [V.cells,b2l (by omega)];exact hcl,fun c' hc'=>?_,?_⟩ (.inr hk)
    ·rcases hmem c' hc' with h|h
     ·exact hx0.2.1 c' h
     ·exact hone c' h
    ·simp only [V.sealed,xX]
     intro c' hc'
     rcases hmem c' hc' with h|h
     ·exact a9u hx0.2.2 h
     ·exact a9u hsea h
  ·exact h.elim
 ·exact h.elim
theorem b8m (hR:Rel P c g σ a w):∀{x:Option Opd} {y:Option Operand},b1n x y=true→(x=none∧y=none)∨∃x' y',x=some x'∧y=some y'∧VR g w (a.eval y') (x'.ev σ.env)
 | none,none,_=>.inl ⟨rfl,rfl⟩
 | some x,some y,h=>.inr ⟨x,y,rfl,rfl,Opd.vr hR h⟩
 | none,some _,h=>by simp [b1n] at h
 | some _,none,h=>by simp [b1n] at h
theorem b6u (hR:Rel P c g σ a w) {lo hi:Option Opd} {lo' hi':Option Operand} (h1:b1n lo lo'=true) (h2:b1n hi hi'=true) {len cap:Nat} {isS:Bool} {p q:Int}
  (hb:bounds lo.isSome hi.isSome len ((a5a lo++a5a hi).map (·.ev σ.env))=some (p,q)) (h0:0≤p) (hpq:p≤q) (hq:q≤len) (hc:len≤cap) :
  (Instr.sliceBounds isS len cap (lo'.map a.eval) (hi'.map a.eval) none).run P w=.ok (p.toNat,q.toNat,cap) w:=by
 have bnd:∀(k:IntKind) (n:Int) (m:Nat) (code:BoundsCode),0≤n→n≤m→(Instr.sliceBound (.int k n) m code).run P w=.ok n.toNat w:=fun k n m code a1 a2=>run_sliceBound w k n m code a1 a2
 rcases b8m hR h1 with ⟨rfl,rfl⟩|⟨x,y,rfl,rfl,vx⟩<;>rcases b8m hR h2 with ⟨rfl,rfl⟩|⟨x2,y2,rfl,rfl,vx2⟩
 ·simp [bounds,a5a] at hb
  obtain ⟨rfl,rfl⟩:=hb
  simp [Instr.sliceBounds]
 ·simp only [a5a,wA,wP,w4,Option.isSome_none,Option.isSome_some] at hb
  cases hx:x2.ev σ.env<;>simp [bounds,hx] at hb
  rename_i k n
  obtain ⟨rfl,rfl⟩:=hb
  rw [hx] at vx2
  simp only [Option.map_none,x6,vx2.int_inv.1,Instr.sliceBounds,wT,wS,xH]
  rw [bnd k n cap _ hpq (by omega)]
  rfl
 ·simp only [a5a,wH,wP,w4,Option.isSome_none,Option.isSome_some] at hb
  cases hx:x.ev σ.env<;>simp [bounds,hx] at hb
  rename_i k n
  obtain ⟨rfl,rfl⟩:=hb
  rw [hx] at vx
  simp only [Option.map_none,x6,vx.int_inv.1,Instr.sliceBounds,wT,wS,xH]
  rw [bnd k n len _ h0 (by omega)]
  simp
 ·simp only [a5a,xW,wA,wP,w4,Option.isSome_some] at hb
  cases hx:x.ev σ.env<;>cases hx2:x2.ev σ.env<;>simp [bounds,hx,hx2] at hb
  rename_i k n k2 n2
  obtain ⟨rfl,rfl⟩:=hb
  rw [hx] at vx;rw [hx2] at vx2
  simp only [x6,vx.int_inv.1,vx2.int_inv.1,Instr.sliceBounds,wT,wS,xH]
  rw [bnd k2 n2 cap _ (by omega) (by omega)]
  simp only [xH]
  rw [bnd k n n2.toNat _ h0 (by omega)]
  rfl
theorem f3f {x:Opd} {lo hi:Option Opd} (hok:(y7.sls x lo hi).ok P o.op=true) (hR:Rel P c g σ a w) {d:Nat} (h:o6 P (.sls x lo hi) d (x.ev σ.env::(a5a lo++a5a hi).map (·.ev σ.env)) ob K L) (hF:Fin o c g σ a w K L K'):o.wp P a w K' Q':=by
 have:∃t y lo' hi',o.op=.slice t y lo' hi' none∧x.ok y=true∧b1n lo lo'=true∧b1n hi hi'=true∧P.underlying t=some .string:=by
  cases ho:o.op<;>rw [ho] at hok<;>try (simp [y7.ok] at hok;done)
  rename_i t y lo' hi' mx
  cases mx<;>try (simp [y7.ok] at hok;done)
  simp [y7.ok] at hok
  exact ⟨_,_,_,_,rfl,hok.1.1.1,hok.1.1.2,hok.1.2,f0c hok.2⟩
 obtain ⟨t,y,lo',hi',ho,hx,hlo,hhi,ht⟩:=this
 have vx:=Opd.vr hR hx
 simp only [o6,d5a] at h
 split at h
 ·rename_i s hs
  rw [hs] at vx
  obtain ⟨b,eb,hb,hm⟩:=vx.str_inv
  have hsz:b.size=s.length:=by rw [←hb,z6];rfl
  split at h
  ·rename_i p q hpq
   obtain ⟨⟨h0,h1,h2⟩,hk⟩:=h
   have hrun:=b6u (P:=P) hR hlo hhi (isS:=false) (cap:=s.length) hpq h0 h1 h2 (w8 _)
   have hext:(b.extract p.toNat q.toNat).data.toList=(s.take q.toNat).drop p.toNat:=by
    rw [←hb]
    obtain ⟨⟨l⟩⟩:=b
    have:=ByteArray.extract_mk l p.toNat q.toNat
    rw [this]
    simp only
    rw [List.drop_take]
   refine z8 hR hF (v:=.string (b.extract p.toNat q.toNat)) ?_ (.inl hk) (.rd ?_)
   ·simp only [execOp,ho,eb]
    refine a6b ?_
    rw [run_sliceAt_string w t _ _ _ _ ht]
    simp only [Option.map_none,Instr.slice,wT,run_underlying ht,xH,Option.isSome_none,xF,if_false,wS,hsz]
    rw [hrun]
    rfl
   ·rw [←hext]
    refine .str _ ?_
    have:(b.extract p.toNat q.toNat).size=(b.extract p.toNat q.toNat).data.toList.length:=by rw [z6];rfl
    rw [this,hext]
    simp;omega
  ·exact h.elim
 ·exact h.elim
theorem f3g {k:Nat} {x:Opd} {lo hi:Option Opd} (hok:(y7.slc k x lo hi).ok P o.op=true) (hR:Rel P c g σ a w) {d:Nat} (h:o6 P (.slc k x lo hi) d (x.ev σ.env::(a5a lo++a5a hi).map (·.ev σ.env)) ob K L) (hF:Fin o c g σ a w K L K'):o.wp P a w K' Q':=by
 have:∃t y lo' hi',o.op=.slice t y lo' hi' none∧x.ok y=true∧b1n lo lo'=true∧b1n hi hi'=true∧isSlice P t k=true:=by
  cases ho:o.op<;>rw [ho] at hok<;>try (simp [y7.ok] at hok;done)
  rename_i t y lo' hi' mx
  cases mx<;>try (simp [y7.ok] at hok;done)
  simp [y7.ok] at hok
  exact ⟨_,_,_,_,rfl,hok.1.1.1,hok.1.1.2,hok.1.2,hok.2⟩
 obtain ⟨t,y,lo',hi',ho,hx,hlo,hhi,ht⟩:=this
 obtain ⟨e,hu,hsz⟩:=c1n ht
 have vx:=Opd.vr hR hx
 have hrun:∀(ad:Option Addr) (len cap:Nat) (p q:Int),a.eval y=.slice ad len cap→bounds lo.isSome hi.isSome len ((a5a lo++a5a hi).map (·.ev σ.env))=some (p,q)→0≤p→p≤q→q≤len→len≤cap →
   (execOp a.eval o).run P w=.ok (.value (.slice (if cap=p.toNat then ad else ad.map (·.add (p.toNat*k))) (q.toNat - p.toNat) (cap - p.toNat))) w:=by
  intro ad len cap p q e1 hb h0 h1 h2 h3
  have hr:=b6u (P:=P) hR hlo hhi (isS:=true) hb h0 h1 h2 h3
  simp only [execOp,ho,e1]
  refine a6b ?_
  have e2:P.elem t=e:=by simp [Program.elem,hu]
  rw [run_sliceAt_slice w t _ _ _ _ (by rw [e2];exact hu)]
  simp only [Option.map_none,Instr.slice,wT,run_underlying hu,xH]
  rw [hr]
  simp only [xH,hsz w,wS]
 simp only [o6,d3y] at h
 split at h
 ·rename_i xs hs
  rw [hs] at vx
  split at h
  ·rename_i p q hpq
   obtain ⟨⟨h0,h1,h2⟩,hkk,hk⟩:=h
   have hrd:=vx.sl_inv
   generalize hvy:a.eval y=vy at hrd
   cases hrd with
   | nilsl =>
    simp at h2
    have hp0:p=0:=by omega
    have hq0:q=0:=by omega
    subst hp0;subst hq0
    refine z8 hR hF (hrun none 0 0 0 0 hvy hpq (by omega) (by omega) (by simp) (w8 _)) (.inl hk) (.rd ?_)
    simp
    exact .nilsl
   | slz a0 cap0 =>
    simp at h2
    have hp0:p=0:=by omega
    have hq0:q=0:=by omega
    subst hp0;subst hq0
    refine z8 hR hF (hrun (some a0) 0 cap0 0 0 hvy hpq (by omega) (by omega) (by simp) (w6 _)) (.inl hk) (.rd ?_)
    simp only [Int.toNat_zero,List.take_zero,wL,Nat.sub_zero,x6]
    split<;>exact .slz _ _
   | sl b o' len cap k' cur e' fz _ hS hg hl hm hcc hb hkx hr =>
    subst hl
    refine z8 hR hF (hrun _ _ cap p q hvy hpq h0 h1 h2 hcc) (.inl hk) (.rd ?_)
    have hlen:((xs.take q.toNat).drop p.toNat).length=q.toNat - p.toNat:=by simp;omega
    have hget:∀(i:Nat) (u:V),((xs.take q.toNat).drop p.toNat)[i]?=some u→xs[p.toNat+i]?=some u:=by
     intro i u hu'
     rw [xD,xC] at hu'
     split at hu'
     ·exact hu'
     ·cases hu'
    obtain ⟨o'',ho''⟩:∃o'',(if cap=p.toNat then (some (⟨b,o',none⟩:Addr)) else (some (⟨b,o',none⟩:Addr)).map (·.add (p.toNat*k)))=some ⟨b,o'',none⟩∧(cap=p.toNat∨o''=o'+p.toNat*k):=by
     by_cases hcp:cap=p.toNat
     ·exact ⟨o',by rw [if_pos hcp],.inl hcp⟩
     ·refine ⟨o'+p.toNat*k,?_,.inr rfl⟩
      rw [if_neg hcp]
      simp only [x6]
      congr 1
      exact Addr.add_lit _ _ _
    rw [ho''.1]
    by_cases hz:q.toNat - p.toNat=0
    ·have hnil:(xs.take q.toNat).drop p.toNat=[]:=zB (by rw [hlen];exact hz)
     rw [hnil,hz]
     exact .sl b o'' 0 _ k cur e' fz [] hS hg rfl (by omega) (by omega) (.inl rfl) (fun x hx=>by simp at hx) (fun i j u y hu' _=>by simp at hu')
    ·have hkp:k'=k:=by
      have hlt:p.toNat<xs.length:=by omega
      have m1:=xV hlt
      rw [←(hkx _ m1).1];exact hkk _ m1
     subst hkp
     have hoo:o''=o'+p.toNat*k':=by
      rcases ho''.2 with h|h
      ·omega
      ·exact h
     subst hoo
     refine .sl b _ _ _ k' cur e' fz _ hS hg hlen (by omega) (by omega) (.inr ?_) (fun u hu'=>?_) (fun i j u y hu' hy=>?_)
     ·rcases hb with hb|hb
      ·omega
      ·refine wV ?_ hb
       have:(p.toNat+(q.toNat - p.toNat))*k'≤xs.length*k':=zX _ (by omega)
       rw [vA] at this
       omega
     ·exact hkx u (List.mem_of_mem_take (zY hu'))
     ·have:=hr (p.toNat+i) j u y (hget i u hu') hy
      rw [vA] at this
      rw [show o'+p.toNat*k'+i*k'+j=o'+(p.toNat*k'+i*k')+j by omega]
      exact this
  ·exact h.elim
 ·rename_i id k' l n hs
  rw [hs] at vx
  split at h
  ·rename_i p q hpq
   by_cases hkk:Nat.beq k k'=true
   case neg=>simp [hkk] at h
   simp only [hkk,vE] at h
   have:=zR hkk;subst this
   obtain ⟨⟨h0,h1,h2⟩,hk⟩:=h
   rcases vx.osl_inv with ⟨hnil,hv,hz⟩|⟨hnn,o',cc,hv,ho',hcap,hlc,hm⟩
   ·subst hz
    have hp0:p=0:=by omega
    have hq0:q=0:=by omega
    subst hp0;subst hq0
    refine z8 hR hF (hrun none 0 0 0 0 hv hpq (by omega) (by omega) (by simp) (w8 _)) (.inl hk) ?_
    simp
    exact .oslnil _ _ _ hnil
   ·refine z8 hR hF (hrun _ _ cc p q hv hpq h0 h1 h2 hlc) (.inl hk) ?_
    by_cases hcp:cc=p.toNat
    ·rw [if_pos hcp]
     exact .osl _ _ _ _ _ _ hnn (.inl (by omega)) (by omega) (by omega) (by omega)
    ·rw [if_neg hcp]
     simp only [x6]
     rw [show (⟨g.ρ id,o',none⟩:Addr).add (p.toNat*k)=⟨g.ρ id,o'+p.toNat*k,none⟩ from Addr.add_lit _ _ _]
     refine .osl _ _ _ _ _ _ hnn (.inr ?_) (by omega) (by omega) (by omega)
     rcases ho' with h|h
     ·omega
     ·rw [h,←vA,wN]
  ·exact h.elim
 ·exact h.elim
end
section
variable {P:Program} {o:Oper} {c:Ctx} {g:Gh} {σ:St} {a:Act} {w:World} {ob:Nat→Option a03} {K L:Eff→Prop} {K':Act→World→Prop} {Q':Exit→Act→World→Prop}
theorem c66 {w:World} {b o' n:Nat} {cur:Array Value} {e:TypeId} {fz:Nat×Nat} (hb:w.heap[b]?=some (.cells cur e fz)) (h:o'+n≤cur.size) :
  (loadCells ⟨b,o',none⟩ n).run P w=.ok ((cur.toList.drop o').take n).toArray w:=by
 have hl:((cur.toList.drop o').take n).length=n:=by simp;omega
 have:=run_loadCells_list (P:=P) w ⟨b,o',none⟩ ((cur.toList.drop o').take n) (fun j v hv=>by
  rw [show (⟨b,o',none⟩:Addr).add j=⟨b,o'+j,none⟩ from Addr.add_lit _ _ _,cell_of_row w b _ cur e fz hb]
  rw [xC] at hv
  split at hv
  ·simpa using hv
  ·cases hv)
 rwa [hl] at this
theorem b4i {cur:Array Value} {o' n j:Nat} (hj:j<n) (h:o'+n≤cur.size):((cur.toList.drop o').take n)[j]?=some (cur.getD (o'+j) undef):=by
 rw [xC,if_pos hj,xD,zU]
 have:o'+j<cur.size:=by omega
 simp [zC,this]
structure Src (P:Program) (S:Nat→Prop) (w:World) (k:Nat) (v:Value) (ys:List V) (news:List Value):Prop where
 len:news.length=ys.length*k
 lenOf:(Builtin.lenOf v).run P w=.ok ys.length w
 first:(Builtin.firstCells k ys.length v).run P w=.ok news.toArray w
 one:∀u∈news,u.oneCell'=true
 rd:∀(i j:Nat) (x y:V),ys[i]?=some x→x.cells[j]?=some y→Rd S w (news.getD (i*k+j) undef) y
 elem:∀x∈ys,x.cells.length=k∧(∀c∈x.cells,c.one=true)∧x.sealed=true
 big:ys.length≤maxLen
theorem b4c {w:World} {S:Nat→Prop} {b o' k len cap:Nat} {cur:Array Value} {e:TypeId} {fz:Nat×Nat} {ys:List V} (hb:w.heap[b]?=some (.cells cur e fz)) (hl:ys.length=len) (h:len=0∨o'+len*k≤cur.size)
  (hrd:∀(i j:Nat) (x y:V),ys[i]?=some x→x.cells[j]?=some y→Rd S w (cur.getD (o'+i*k+j) undef) y) (hel:∀x∈ys,x.cells.length=k∧(∀c∈x.cells,c.one=true)∧x.sealed=true) (hm:len≤maxLen) :
  ∃news,Src P S w k (.slice (some ⟨b,o',none⟩) len cap) ys news:=by
 subst hl
 by_cases h0:ys.length=0
 ·have hnil:ys=[]:=zB h0
  subst hnil
  refine ⟨[],by simp,rfl,?_,by simp,by simp,by simp,by simp⟩
  simp [Builtin.firstCells,loadCells,loadCellsFrom]
 ·have h:o'+ys.length*k≤cur.size:=h.resolve_left h0
  refine ⟨(cur.toList.drop o').take (ys.length*k),by simp;omega,rfl,c66 hb h,?_,?_,hel,hm⟩
  ·intro u hu
   obtain ⟨j,hj,rfl⟩:=z2.1 hu
   have hj':j<ys.length*k:=by simp at hj;omega
   have hkp:0<k:=by rcases Nat.eq_zero_or_pos k with h|h<;>simp_all
   have e1:=b4i (cur:=cur) hj' h
   rw [zJ hj] at e1
   have e3:=x5 e1
   have hi:j / k<ys.length:=Nat.div_lt_of_lt_mul (by rw [Nat.mul_comm];exact hj')
   have hx:=hel _ (xV hi)
   have hm':j % k<ys[j / k].cells.length:=by rw [hx.1];exact Nat.mod_lt _ hkp
   have:=hrd (j / k) (j % k) _ _ (zJ hi) (zJ hm')
   have e2:o'+j / k*k+j % k=o'+j:=by
    have:=Nat.div_add_mod j k
    rw [Nat.mul_comm] at this;omega
   rw [e2] at this
   rw [e3]
   exact (VR.rd (g:=⟨S,id,id,id,fun _=>False,fun _ _=>none⟩) this).one_cell (hx.2.1 _ (xV hm'))
  ·intro i j x y hi hj
   have hlt:i<ys.length:=(zG.1 hi).1
   have hjk:j<k:=by rw [←(hel x (zZ hi)).1];exact (zG.1 hj).1
   have hij:i*k+j<ys.length*k:=by
    have:(i+1)*k≤ys.length*k:=zX _ hlt
    rw [vA,w7] at this;omega
   have e1:=b4i (cur:=cur) hij h
   have e2:((cur.toList.drop o').take (ys.length*k)).getD (i*k+j) undef=cur.getD (o'+(i*k+j)) undef:=by
    rw [zE,e1];rfl
   rw [e2,←wN]
   exact hrd i j x y hi hj
theorem b7c {w:World} {S:Nat→Prop} {k:Nat}:Src P S w k (.slice none 0 0) [] [] :=
 ⟨by simp,rfl,by simp [Builtin.firstCells],by simp,by simp,by simp,by simp⟩
theorem a88 (hR:Rel P c g σ a w) (hob:∀id o,ob id=some o→find id σ.heap=some o) {k:Nat} {v:Value} {y:V} {ys:List V} (hv:VR g w v y) (h:a5c k y ob=some ys) (hvl:d3t y≤ys.length) (hk:∀x∈ys,x.cells.length=k):∃news,Src P g.S w k v ys news:=by
 unfold a5c at h
 split at h
 ·cases h
  rw [hv.nils_inv]
  exact ⟨[],b7c⟩
 ·rename_i zs
  cases h
  have hrd:=hv.sl_inv
  cases hrd with
  | nilsl=>exact ⟨[],b7c⟩
  | slz a0 cap0=>exact ⟨[],by simp,rfl,by simp [Builtin.firstCells,loadCells,loadCellsFrom],by simp,by simp,by simp,by simp⟩
  | sl b o' len cap k' cur e fz _ hS hg hl hm hc hb hkk hr =>
   by_cases h0:ys.length=0
   ·have hnil:ys=[]:=zB h0
    subst hnil
    exact b4c hg hl (.inl (by simpa using hl.symm)) (fun i j x y hx _=>by simp at hx) (fun x hx=>by simp at hx) hm
   ·obtain ⟨x,hx⟩:∃x,x∈ys:=List.exists_mem_of_length_pos (by omega)
    have:k'=k:=by rw [←(hkk x hx).1];exact hk x hx
    subst this
    exact b4c hg hl hb hr hkk hm
 ·rename_i id k' lo n
  split at h
  ·rename_i k'' xs t0 hobj
   by_cases hb:(Nat.beq k k'&&Nat.beq k k'')=true
   case neg=>simp [hb] at h
   simp only [hb,vE,xI] at h
   simp only [xY] at hb
   have e1:=zR hb.1;subst e1
   have e2:=zR hb.2;subst e2
   rcases hv.osl_inv with ⟨hnil,rfl,rfl⟩|⟨hnn,o',cc,rfl,ho',hcap,hlc,hm⟩
   ·have:ys=[]:=by rw [←h];simp
    subst this
    exact ⟨[],b7c⟩
   ·rcases hR.hp.obj _ _ (hob _ _ hobj) with ⟨hnil,_⟩|⟨_,ha⟩
    ·exact absurd hnil hnn
    ·obtain ⟨hkp,⟨cur,e,fz,h1,h2,h3,h4⟩,h5,h6,h7⟩:=ha
     have hget:∀(i:Nat) (x:V),ys[i]?=some x→xs[lo+i]?=some x∧i<n:=by
      intro i x hi
      rw [←h,xC] at hi
      split at hi
      ·rename_i hlt
       rw [xD] at hi;exact ⟨hi,hlt⟩
      ·cases hi
     have hel:∀x∈ys,x.cells.length=k∧(∀c∈x.cells,c.one=true)∧x.sealed=true:=by
      intro x hx
      obtain ⟨i,hi,rfl⟩:=z2.1 hx
      exact h7 _ (zZ (hget i _ (zJ hi)).1)
     have hlen:ys.length=n:=by
      have h8:ys.length≤n:=by rw [←h];simp;omega
      simp only [d3t] at hvl
      omega
     ·by_cases hn0:n=0
      ·have hnil:ys=[]:=zB (by omega)
       subst hnil
       exact b4c h1 hlen (.inl hn0) (fun i j x y hx _=>by simp at hx) (fun x hx=>by simp at hx) (by omega)
      ·have hoo:o'=(g.base id+lo)*k:=by
        rcases ho' with h|h
        ·omega
        ·exact h
       refine b4c h1 hlen (.inr ?_) (fun i j x y hx hy=>?_) hel (by omega)
       ·rw [hoo,←vA,h2];exact zX _ (by omega)
       ·have:=h4 (lo+i) j x y (hget i x hx).1 hy
        rw [hoo,←vA,wN];exact this
  ·cases h
 ·rename_i s
  by_cases hb:Nat.beq k 1=true
  case neg=>simp [hb] at h
  simp only [hb,vE,xI] at h
  have e1:=zR hb;subst e1;subst h
  obtain ⟨b,rfl,hb',hm⟩:=hv.str_inv
  have hsz:b.size=s.length:=by rw [←hb',z6];rfl
  refine ⟨s.map fun c=>.int .u8 c.toNat,by simp,?_,?_,fun u hu=>?_,fun i j x y hi hj=>?_,b7x s,by simp;omega⟩
  ·simp [Builtin.lenOf,hsz]
  ·simp only [Builtin.firstCells,wS]
   congr 1
   apply xZ.1
   simp only [wE,Array.toList_map]
   have:(b.extract 0 s.length).data.toList=s:=by
    obtain ⟨⟨l⟩⟩:=b
    rw [ByteArray.extract_mk]
    simp only at hb' ⊢
    rw [wL,Nat.sub_zero,hb'];exact xR
   rw [this]
  ·obtain ⟨b',_,rfl⟩:=wZ.1 hu;rfl
  ·rw [xK] at hi
   cases hsi:s[i]? with
   | none=>rw [hsi] at hi;cases hi
   | some b' =>
    rw [hsi] at hi;simp at hi;subst hi
    cases j with
    | succ j=>simp [a0a,V.cells] at hj
    | zero =>
     simp [a0a,V.cells] at hj;subst hj
     have:(s.map fun c=>Value.int .u8 c.toNat).getD (i*1+0) undef=.int .u8 b'.toNat:=by
      simp [zE,hsi]
     rw [this]
     exact c8k b'
 ·cases h
def f08 (P:Program) (t':TypeId):Prop:=P.underlying t'=some .string∨∃e',P.underlying t'=some (.slice e')
theorem a7t {t t' ty e:TypeId} {i:TypeInfo} (hu:P.underlying t=some (.slice e)) (hu':f08 P t') (hi:P.info? e=some i)
  {ad:Addr} {n cap m:Nat} {y:Value} {news:List Value} (hy:(Builtin.lenOf y).run P w=.ok m w) (hf:(Builtin.firstCells i.size m y).run P w=.ok news.toArray w) (h:n+m≤cap) {w':World}
  (hst:(storeCells (ad.add (n*i.size)) news).run P w=.ok () w') :
  (Builtin.append_ #[t,t'] ty #[.slice (some ad) n cap,y]).run P w=.ok (.slice (some ad) (n+m) cap) w':=by
 rcases hu' with hu'|⟨e',hu'⟩ <;>
  simp [Builtin.append_,run_underlying hu,run_underlying hu',Go.sizeOf,typeInfo,hi,hy,hf,h,hst]
theorem b2q {t t' ty e:TypeId} {i:TypeInfo} (hu:P.underlying t=some (.slice e)) (hu':f08 P t') (hi:P.info? e=some i)
  {y:Value} (hy:(Builtin.lenOf y).run P w=.ok 0 w) (hf:(Builtin.firstCells i.size 0 y).run P w=.ok #[] w) :
  (Builtin.append_ #[t,t'] ty #[.slice none 0 0,y]).run P w=.ok (.slice none 0 0) w:=by
 rcases hu' with hu'|⟨e',hu'⟩ <;>
  simp [Builtin.append_,run_underlying hu,run_underlying hu',Go.sizeOf,typeInfo,hi,hy,hf]
theorem b2r {t t' ty e:TypeId} {i:TypeInfo} {z:Value} (hu:P.underlying t=some (.slice e)) (hu':f08 P t') (hi:P.info? e=some i) (hz:i.zero=some z)
  {base:Option Addr} {n cap m:Nat} {y:Value} {olds news:Array Value} (hy:(Builtin.lenOf y).run P w=.ok m w) (hof:(Builtin.firstCells i.size n (.slice base n cap)).run P w.drew=.ok olds w.drew) (hf:(Builtin.firstCells i.size m y).run P w.drew=.ok news w.drew)
  (h:cap<n+m) (h63:n+m≤9223372036854775807) (hfit:Builtin.nextslicecap (n+m) cap*i.bytes≤281474976710656) :
  (Builtin.append_ #[t,t'] ty #[.slice base n cap,y]).run P w =
   .ok (.slice (some ⟨w.heap.size,0,none⟩) (n+m) (grownCap w (n+m) cap e)) (w.drew.alloc (.cells (olds++news++Builtin.zeroCells z.cells (grownCap w (n+m) cap e - (n+m))) e)):=by
 have h1:¬n+m≤cap:=by omega
 have h2:¬((9223372036854775807:Int)<((n:Int)+(m:Int))):=by omega
 have h3:¬(281474976710656<Builtin.nextslicecap (n+m) cap*i.bytes):=by omega
 rcases hu' with hu'|⟨e',hu'⟩ <;>
  simp [Builtin.append_,run_underlying hu,run_underlying hu',Go.sizeOf,typeInfo,zeroValue,hi,hz,hy,h1,h2,h3,Question.forced,grownCap,hof,hf,newRow]
end
section
variable {P:Program} {o:Oper} {c:Ctx} {g:Gh} {σ:St} {a:Act} {w:World} {ob:Nat→Option a03} {K L:Eff→Prop} {K':Act→World→Prop} {Q':Exit→Act→World→Prop}
theorem a2o.same {w':World} {H:Heap} (h:a2o P g w H) (e:w'.heap=w.heap):a2o P g w' H:=by
 have hk:a1l g.S w w':=fun b _=>by rw [e]
 refine ⟨fun id o ho=>(h.obj id o ho).mono (g':=g) hk (fun _ h=>h) (Gh.agree.refl _ _) (fun _=>by rw [e]) (fun n _=>Gh.agree.refl _ _) (by rw [e];exact w8 _) (fun _ _=>⟨rfl,fun b _=>by rw [e]⟩),h.inj,h.sep,fun b hb=>by rw [e];exact h.lt b hb,fun w2 hw2=>h.tabs w2 fun b hb=>(hw2 b hb).trans (hk b hb),h.sub1,h.sub2⟩
theorem Rel.drew (h:Rel P c g σ a w):Rel P c g σ a w.drew:=by
 have hk:a1l g.S w w.drew:=fun b _=>rfl
 refine ⟨h.size,h.dfr,fun s x hx=>⟨(h.env s x hx).1,(h.env s x hx).2.mono (g':=g) hk (fun _ h=>h) fun _ _=>Gh.agree.refl _ _⟩,h.hp.same rfl,?_⟩
 exact ⟨h.fr.os,h.fr.tape,h.fr.output,h.fr.size,h.fr.old,h.fr.own,h.fr.sup,h.fr.sub,h.fr.par,h.fr.own2,h.fr.sb⟩
theorem c5z (z:Array Value) (n:Nat):(Builtin.zeroCells z n).size=n*z.size:=by simp [Builtin.zeroCells]
theorem Fin.mk' (hF:Fin o c g σ a w K L K') {eff:Eff} (hk:K eff) {g':Gh} {v:Value} {w':World} (hrun:(execOp a.eval o).run P w=.ok (.value v) w') (h1:q9 g σ.heap w eff g' w') (h2:a0l c.H0 g g' σ eff) (h3:VR g' w' v eff.val):o.wp P a w K' Q':=by
 unfold Oper.wp
 rw [hrun]
 exact hF eff (.inl hk) g' v w' h1 h2 h3
def Gh.setNil (g:Gh) (n:Nat):Gh:={ g with nil:=fun i=>i=n∨g.nil i }
theorem Gh.setNil_agree {g:Gh} {n i:Nat} (h:i≠n):g.agree (g.setNil n) i:=by simp [Gh.agree,Gh.setNil,h]
theorem q9.newNil {g:Gh} {H:Heap} {w:World} (x:V) (n k:Nat) (dr:List Nat) (ty:Option TypeId) (hH:a2o P g w H):q9 g H w ⟨x,dr,[(n,.arr k [] ty)]⟩ (g.setNil n) w:=by
 refine ⟨rfl,rfl,rfl,w8 _,fun _ _ _=>rfl,fun _ h=>h,fun b hb=>.inl hb,hH.lt,fun id hid=>Gh.setNil_agree fun e=>hid (.arr k [] ty) (by simp [e]),?_,?_,?_,?_,fun _ _ _=>rfl,a2z.no (by simp [a03.isRws])⟩
 ·intro id o h;simp at h;obtain ⟨rfl,rfl⟩:=h;exact .inl ⟨.inl rfl,rfl⟩
 ·intro id o h hn;simp at h;obtain ⟨rfl,rfl⟩:=h;exact absurd (.inl rfl) hn
 ·intro i j o1 o2 hi hj hn;simp at hi;obtain ⟨rfl,rfl⟩:=hi;exact absurd (.inl rfl) hn
 ·intro id o h hn;simp at h;obtain ⟨rfl,rfl⟩:=h;exact absurd (.inl rfl) hn
theorem q9.pass {g:Gh} {H:Heap} {w w':World} (x:V) (n id0 base cap:Nat) (o o0:a03) (hH:a2o P g w H) (hf:find id0 H=some o0) (hn:¬g.nil id0) (h1:w'.os=w.os) (h2:w'.tape=w.tape) (h3:w'.output=w.output) (h4:w'.heap.size=w.heap.size)
  (h5:∀b,b≠g.ρ id0→w'.heap[b]?=w.heap[b]?) (ho:OR (g.set n (g.ρ id0) base cap) w' n o) (hr:o.isRws=false:=by rfl):q9 g H w ⟨x,[id0],[(n,o)]⟩ (g.set n (g.ρ id0) base cap) w':=by
 refine ⟨h1,h2,h3,by omega,fun b hb hb'=>h5 b fun e=>(hb' id0 o0 (by simp [Eff.ids]) hf hn).1 e.symm,fun _ h=>h,fun b hb=>.inl hb,fun b hb=>by have:=hH.lt b hb;omega,fun id hid=>Gh.set_agree fun e=>hid o (by simp [e]),?_,?_,?_,?_,fun _ _ _=>rfl,a2z.no (by simp [hr])⟩
 ·intro id o' h;simp at h;obtain ⟨rfl,rfl⟩:=h;exact ho
 ·intro id o' h _;simp at h;obtain ⟨rfl,rfl⟩:=h;exact .inr ⟨id0,o0,by simp [Eff.ids],hf,hn,.inl (by simp [Gh.set])⟩
 ·intro i j o1 o2 hi hj;simp at hi hj;intro _ _ _;rw [hi.1,hj.1]
 ·intro id o' h _ hS
  simp at h;obtain ⟨rfl,rfl⟩:=h
  have:(g.set id (g.ρ id0) base cap).ρ id=g.ρ id0:=by simp [Gh.set]
  rw [this] at hS
  exact hH.sep id0 o0 hf hn hS
theorem b9o {S:Nat→Prop} {w:World} {k n m:Nat} {xs ys:List V} {olds news:List Value} {cur:Array Value} {s:Nat} (hxl:xs.length=n) (hol:olds.length=n*k) (hxe:∀x∈xs,x.cells.length=k)
  (hx:∀(i j:Nat) (x y:V),xs[i]?=some x→x.cells[j]?=some y→Rd S w (olds.getD (i*k+j) undef) y) (hyl:ys.length=m) (hnl:news.length=m*k) (hye:∀x∈ys,x.cells.length=k)
  (hy:∀(i j:Nat) (x y:V),ys[i]?=some x→x.cells[j]?=some y→Rd S w (news.getD (i*k+j) undef) y) (hcur:∀j,j<(n+m)*k→cur[s+j]?=(olds++news)[j]?) :
  ∀(i j:Nat) (x y:V),(xs++ys)[i]?=some x→x.cells[j]?=some y→Rd S w (cur.getD (s+(i*k+j)) undef) y:=by
 intro i j x y hi hj
 have hjk:∀z:V,z.cells.length=k→z.cells[j]?=some y→j<k:=fun z hz h=>by rw [←hz];exact (zG.1 h).1
 rw [List.getElem?_append] at hi
 by_cases hlt:i<xs.length
 ·rw [if_pos hlt] at hi
  have hj':=hjk x (hxe x (zZ hi)) hj
  have hb:(i+1)*k≤n*k:=zX _ (by omega)
  rw [vA,w7] at hb
  have hb2:n*k≤(n+m)*k:=zX _ (by omega)
  have:=hcur (i*k+j) (by omega)
  rw [zH (by omega)] at this
  have e1:cur.getD (s+(i*k+j)) undef=olds.getD (i*k+j) undef:=by
   rw [zC,this,zE]
  rw [e1];exact hx i j x y hi hj
 ·rw [if_neg hlt] at hi
  have hj':=hjk x (hye x (zZ hi)) hj
  have hi2:i - xs.length<ys.length:=(zG.1 hi).1
  have hb:(i+1)*k≤(n+m)*k:=zX _ (by omega)
  rw [vA i,w7] at hb
  have h3:n*k≤i*k:=zX _ (by omega)
  have:=hcur (i*k+j) (by omega)
  rw [zD (by omega),hol] at this
  have e2:i*k+j - n*k=(i - xs.length)*k+j:=by
   rw [Nat.sub_mul,hxl];omega
  rw [e2] at this
  have e1:cur.getD (s+(i*k+j)) undef=news.getD ((i - xs.length)*k+j) undef:=by
   rw [zC,this,zE]
  rw [e1];exact hy _ j x y hi hj
theorem e3i {a b:Option TypeId} {e:TypeId} {fz:Nat×Nat} (h:b88 a e fz):b88 (tyJ a b) e fz:=by
 cases a<;>cases b<;>simp only [tyJ]<;>try exact trivial
 rename_i a b
 cases Nat.beq a b
 ·exact trivial
 ·exact h
theorem e3h {a b:Option TypeId} {e:TypeId} {fz:Nat×Nat} (h:b88 b e fz):b88 (tyJ a b) e fz:=by
 cases a<;>cases b<;>simp only [tyJ]<;>try exact trivial
 rename_i a b
 cases hb:Nat.beq a b
 ·exact trivial
 ·rw [zR hb];exact h
def Gh.plus (g:Gh) (T:Nat→Prop):Gh:={ g with S:=fun b=>g.S b∨T b }
theorem q9.allocDropT {g:Gh} {H:Heap} {w w':World} (T:Nat→Prop) (x:V) (n base cap:Nat) (o:a03) (dr:List Nat) (B:Obj) (hlt:∀b,g.S b→b<w.heap.size) (h1:w'.os=w.os) (h2:w'.tape=w.tape) (h3:w'.output=w.output) (h4:w'.heap=w.heap.push B)
  (hT:∀b,T b→b<w.heap.size∧∃id0 o0,id0∈dr∧find id0 H=some o0∧¬g.nil id0∧g.ρ id0=b)
  (ho:OR ((g.plus T).set n w.heap.size base cap) w' n o) (hr:o.isRws=false:=by rfl):q9 g H w ⟨x,dr,[(n,o)]⟩ ((g.plus T).set n w.heap.size base cap) w':=by
 have hsz:w'.heap.size=w.heap.size+1:=by rw [h4];simp
 have hlt':∀b,(g.plus T).S b→b<w.heap.size:=fun b hb=>hb.elim (hlt b) fun h=>(hT b h).1
 refine ⟨h1,h2,h3,by omega,fun b hb _=>?_,fun _ h=>.inl h,fun b hb=>?_,fun b hb=>by have:=hlt' b hb;omega,fun id hid=>Gh.set_agree (g:=g.plus T) fun e=>hid o (by simp [e]),?_,?_,?_,?_,fun _ _ _=>rfl,a2z.no (by simp [hr])⟩
 ·rw [h4,Array.getElem?_push,if_neg (by omega)]
 ·rcases hb with hb|hb
  ·exact .inl hb
  ·obtain ⟨_,id0,o0,k1,k2,k3,k4⟩:=hT b hb
   exact .inr (.inr ⟨id0,o0,by simp [Eff.ids,k1],k2,k3,.inl k4⟩)
 ·intro id o' h;simp at h;obtain ⟨rfl,rfl⟩:=h;exact ho
 ·intro id o' h _;simp at h;obtain ⟨rfl,rfl⟩:=h;exact .inl (by simp [Gh.set])
 ·intro i j o1 o2 hi hj;simp at hi hj;intro _ _ _;rw [hi.1,hj.1]
 ·intro id o' h _ hS
  simp at h;obtain ⟨rfl,rfl⟩:=h
  have:((g.plus T).set id w.heap.size base cap).ρ id=w.heap.size:=by simp [Gh.set]
  rw [this] at hS
  have:=hlt' _ hS
  omega
def c9y (g g':Gh) (w':World) (id k:Nat) (xs:List V) (d:Nat):Prop :=
 xs=[]∨∃(cur:Array Value) (e:TypeId) (fz:Nat×Nat),w'.heap[g.ρ id]?=some (.cells cur e fz)∧(∀i x,xs[i]?=some x→(g.base id+i)*k+x.cells.length≤cur.size) ∧
  (∀(i j:Nat) (x y:V),xs[i]?=some x→x.cells[j]?=some y→Rd g'.S w' (cur.getD ((g.base id+i)*k+j) undef) y)∧(g'.S (g.ρ id)∨(¬g'.nil d∧g'.ρ d=g.ρ id))
def d4r (o:Oper) (c:Ctx) (g:Gh) (σ:St) (a:Act) (w:World) (K:Eff→Prop) (k d:Nat) (x:V) (ob:Nat→Option a03) (K':Act→World→Prop):Prop :=
 ∀eff,K eff→∀(g':Gh) (v:Value) (w':World),q9 g σ.heap w eff g' w'→a0l c.H0 g g' σ eff→VR g' w' v eff.val→(∀id k' lo n k'' xs t0,x=.osl id k' lo n→ob id=some (.arr k'' xs t0)→c9y g g' w' id k xs d)→K' (a.put o.dst v) w'
theorem d4r.mk {k d:Nat} {x:V} (hF:d4r o c g σ a w K k d x ob K') {eff:Eff} (hk:K eff) {g':Gh} {v:Value} {w':World} (hrun:(execOp a.eval o).run P w=.ok (.value v) w') (h1:q9 g σ.heap w eff g' w') (h2:a0l c.H0 g g' σ eff) (h3:VR g' w' v eff.val)
  (h4:∀id k' lo n k'' xs t0,x=.osl id k' lo n→ob id=some (.arr k'' xs t0)→c9y g g' w' id k xs d):o.wp P a w K' Q':=by
 unfold Oper.wp
 rw [hrun]
 exact hF eff hk g' v w' h1 h2 h3 h4
theorem c9y.of {g g':Gh} {w w':World} {id k d:Nat} {xs:List V} {cur cur':Array Value} {e:TypeId} {fz:Nat×Nat} {bs:Nat} (hb:w'.heap[g.ρ id]?=some (.cells cur' e fz)) (hsz:cur'.size=cur.size) (h2:cur.size=(g.base id+bs)*k) (h5:xs.length≤bs)
  (h4:∀(i j:Nat) (x c:V),xs[i]?=some x→x.cells[j]?=some c→Rd g.S w (cur.getD ((g.base id+i)*k+j) undef) c) (h7:∀x∈xs,x.cells.length=k) (hk:a1l g.S w w') (hs:∀b,g.S b→g'.S b)
  (hsame:∀q,q<(g.base id+xs.length)*k→cur'[q]?=cur[q]?) (hr:g'.S (g.ρ id)∨(¬g'.nil d∧g'.ρ d=g.ρ id)):c9y g g' w' id k xs d:=by
 have hfit:∀i x,xs[i]?=some x→(g.base id+i)*k+x.cells.length≤(g.base id+xs.length)*k:=by
  intro i x hi
  have h8:=h7 x (zZ hi)
  have hlt:=(zG.1 hi).1
  have:(g.base id+i+1)*k≤(g.base id+xs.length)*k:=zX _ (by omega)
  rw [vA,w7] at this
  omega
 refine .inr ⟨cur',e,fz,hb,fun i x hi=>?_,fun i j x y hi hj=>?_,hr⟩
 ·have:=hfit i x hi
  have:(g.base id+xs.length)*k≤(g.base id+bs)*k:=zX _ (by omega)
  omega
 ·have h8:=hfit i x hi
  have hjl:=(zG.1 hj).1
  have:=h4 i j x y hi hj
  rw [zC] at this ⊢
  rw [hsame _ (by omega)]
  exact this.mono hk hs
theorem d3x {k bytes:Nat} {x y:Opd} {ty:Option TypeId} (hok:(y7.app k bytes x y ty).ok P o.op=true) (hR:Rel P c g σ a w) (hob:∀id o,ob id=some o→find id σ.heap=some o) {d:Nat} (hcl:Clean c σ d) (h:o6 P (.app k bytes x y ty) d [x.ev σ.env,y.ev σ.env] ob K L) (hF:d4r o c g σ a w K k d (x.ev σ.env) ob K'):o.wp P a w K' Q':=by
 have:∃cl u v t t',o.op=.call cl∧cl.callee=.builtin .append∧cl.args=#[u,v]∧cl.argTypes=#[t,t']∧x.ok u=true∧y.ok v=true∧a3c P t k bytes=true∧a9k P t'=true∧d39 P t ty=true:=by
  cases ho:o.op<;>rw [ho] at hok<;>try (simp [y7.ok] at hok;done)
  rename_i cl
  obtain ⟨callee,args,ts⟩:=cl
  cases callee<;>try (simp [y7.ok] at hok;done)
  rename_i b
  cases b<;>try (simp [y7.ok] at hok;done)
  unfold y7.ok at hok
  simp only at hok
  split at hok
  ·rename_i u v t t' he1 he2
   simp only [xY] at hok
   exact ⟨_,u,v,t,t',rfl,rfl,xZ.1 (by simpa using he1),xZ.1 (by simpa using he2),hok.1.1.1.1,hok.1.1.1.2,hok.1.1.2,hok.1.2,hok.2⟩
  ·cases hok
 obtain ⟨cl,u,v,t,t',ho,hcl',hargs,hts,hx,hy,hse,hat,hty⟩:=this
 obtain ⟨e,i,z,hu,hi,hz,hsz,hby,hkp,hbp,hzs⟩:=a6z hse
 have hty:∀fz,b88 ty e fz:=by
  intro fz
  cases ty with
  | none=>exact trivial
  | some u =>
   simp only [d39,hu,xY,xO] at hty
   simp only [b88,hty.2,vC]
   exact zR hty.1
 have hu':f08 P t':=by
  unfold a9k at hat
  split at hat
  ·exact .inr ⟨_,‹_›⟩
  ·exact .inl ‹_›
  ·cases hat
 have vx:=Opd.vr hR hx
 have vy:=Opd.vr hR hy
 have hexec:∀{r:Value} {w':World},(Builtin.append_ #[t,t'] o.type #[a.eval u,a.eval v]).run P w=.ok r w'→(execOp a.eval o).run P w=.ok (.value r) w':=by
  intro r w' hr
  simp [execOp,ho,resolve,hcl',hargs,hts,invoke,builtin,hr]
 simp only [o6,c1u] at h
 split at h
 ·rename_i ys hsrc
  obtain ⟨hvl,h⟩:=h
  have grow:∀(base:Option Addr) (n cap:Nat) (xs:List V) (olds:List Value) (dr:List Nat),a.eval u=.slice base n cap→xs.length=n→olds.length=n*k →
    (Builtin.firstCells k n (.slice base n cap)).run P w.drew=.ok olds.toArray w.drew→(∀x∈xs,x.cells.length=k∧(∀c∈x.cells,c.one=true)∧x.sealed=true) →
    (∀(i j:Nat) (x y:V),xs[i]?=some x→x.cells[j]?=some y→Rd g.S w (olds.getD (i*k+j) undef) y)→(∀y∈ys,y.cells.length=k)→cap<n+ys.length→(n+ys.length)*bytes≤140737488355328→n≤maxLen →
    n+ys.length≤9223372036854775807→∀tq,b88 tq e (0,0)→K ⟨.osl d k 0 (n+ys.length),dr,[(d,.arr k (xs++ys) tq)]⟩→∀T:Nat→Prop,(∀b,T b→b<w.heap.size∧∃id0 o0,id0∈dr∧find id0 σ.heap=some o0∧¬g.nil id0∧g.ρ id0=b) →
    (∀(g':Gh) (w':World),(∀b,g'.S b↔g.S b∨T b)→(∀b,b<w.heap.size→w'.heap[b]?=w.heap[b]?)→∀id k' lo n k'' xs t0,x.ev σ.env=.osl id k' lo n→ob id=some (.arr k'' xs t0)→c9y g g' w' id k xs d)→o.wp P a w K' Q':=by
   intro base n cap xs olds dr eu hxl hol hof hxe hxr hye hlt hbd hnm h63 tq htq hk T hT hpin
   obtain ⟨news,hsr⟩:=a88 hR hob vy hsrc hvl hye
   obtain ⟨news2,hsr2⟩:=a88 (hR.drew) hob (vy.mono (g':=g) (w:=w) (w':=w.drew) (fun b _=>rfl) (fun _ h=>h) fun _ _=>Gh.agree.refl _ _) hsrc hvl hye
   have hrun:=b2r (P:=P) (w:=w) (t:=t) (t':=t') (ty:=o.type) hu hu' hi hz (base:=base) (n:=n) (cap:=cap) (m:=ys.length) (y:=a.eval v) (olds:=olds.toArray) (news:=news2.toArray) hsr.lenOf (by rw [hsz];exact hof) (by rw [hsz];exact hsr2.first) hlt h63 (growslice_fits hlt (by rw [hby];exact hbd))
   obtain ⟨gc,hgc⟩:∃gc,gc=grownCap w (n+ys.length) cap e:=⟨_,rfl⟩
   rw [←hgc] at hrun
   have hge:n+ys.length≤gc:=by rw [hgc];exact grownCap_ge w _ cap e
   have hgm:gc≤maxLen:=by rw [hgc];exact grownCap_le_maxLen w _ cap e (by rw [maxLen];omega)
   obtain ⟨cur,hcur⟩:∃cur:Array Value,cur=olds.toArray++news2.toArray++Builtin.zeroCells z.cells (gc - (n+ys.length)):=⟨_,rfl⟩
   rw [←hcur] at hrun
   have hcs:cur.size=gc*k:=by
    rw [hcur]
    simp only [Array.size_append,List.size_toArray,c5z,hzs,hol,hsr2.len]
    rw [←vA,←vA]
    congr 1;omega
   have e1:((g.plus T).set d w.heap.size 0 gc).ρ d=w.heap.size:=by simp [Gh.set]
   have e2:((g.plus T).set d w.heap.size 0 gc).base d=0:=by simp [Gh.set]
   have e3:((g.plus T).set d w.heap.size 0 gc).cap d=gc:=by simp [Gh.set]
   have e4:¬((g.plus T).set d w.heap.size 0 gc).nil d:=by simp [Gh.set]
   have hkeep:a1l g.S w (w.drew.alloc (.cells cur e)):=a1l.push hR.hp.lt rfl
   rw [←eu] at hrun
   refine d4r.mk hF hk (hexec hrun) (q9.allocDropT T _ d 0 gc _ dr (.cells cur e) hR.hp.lt rfl rfl rfl rfl hT ?_) (a0l.of_clean hcl) ?_ (hpin _ _ (fun b=>vF) fun b hb=>?_)
   ·refine .inr ⟨e4,?_⟩
    rw [e1,e2,e3]
    refine ⟨hkp,⟨cur,e,(0,0),heap_alloc_new w.drew _,by rw [hcs,wU],⟨a3b _,htq⟩,fun i' j x' y' hi' hj'=>?_⟩,by simp [hxl];omega,by omega,fun x' hx'=>?_⟩
    ·have:=b9o (S:=g.S) (w:=w) (cur:=cur) (s:=0) (n:=n) (m:=ys.length) (k:=k) (olds:=olds) (news:=news2) hxl hol (fun x hx=>(hxe x hx).1) hxr rfl hsr2.len hye
      (fun i j x y hx hy=>(hsr2.rd i j x y hx hy).mono (w:=w.drew) (w':=w) (fun b _=>rfl) fun _ h=>h) (fun j hj=>by
       rw [hcur,wU,Array.getElem?_append_left (by simp [hol,hsr2.len,←vA];exact hj)]
       simp) i' j x' y' hi' hj'
     rw [wU] at this ⊢
     exact this.mono hkeep fun _ h=>.inl h
    ·rcases wC.1 hx' with h8|h8
     ·exact hxe x' h8
     ·exact hsr2.elem x' h8
   ·have:=VR.osl (g:=(g.plus T).set d w.heap.size 0 gc) (w:=w.drew.alloc (.cells cur e)) d k 0 (n+ys.length) 0 gc e4 (.inr (by rw [e2];simp)) (by rw [e3];omega) (by omega) hgm
    rw [e1] at this
    exact this
   ·show (w.heap.push _)[b]?=_
    rw [Array.getElem?_push,if_neg (by omega)]
  split at h
  ·rename_i hxn
   rw [hxn] at vx
   obtain ⟨⟨hbd,hye⟩,hk⟩:=h
   have eu:=vx.nils_inv
   obtain ⟨news,hsr⟩:=a88 hR hob vy hsrc hvl hye
   by_cases h0:ys.length=0
   ·have hnil:ys=[]:=zB h0
    subst hnil
    have hnn:news=[]:=zB (by have:=hsr.len;simpa using this)
    subst hnn
    have hrun:=b2q (P:=P) (w:=w) (t:=t) (t':=t') (ty:=o.type) hu hu' hi (y:=a.eval v) hsr.lenOf (by rw [hsz];exact hsr.first)
    rw [←eu] at hrun
    refine d4r.mk hF hk (hexec hrun) (q9.newNil _ d k [] _ hR.hp) (a0l.of_clean hcl) ?_ (fun id1 k1 lo1 n1 k2 xs1 t1 e _=>by rw [hxn] at e;cases e)
    rw [eu]
    exact .oslnil d k 0 (.inl rfl)
   ·refine grow none 0 0 [] [] [] eu rfl (by simp) (by simp [Builtin.firstCells]) (fun x hx=>by simp at hx) (fun i j x y hx _=>by simp at hx) hye (by omega) (by rw [wU];exact hbd) (by omega) ?_ ty (hty _) ?_ (fun _=>False) (fun _ h=>h.elim) (fun _ _ _ _ id1 k1 lo1 n1 k2 xs1 t1 e _=>by rw [hxn] at e;cases e)
    ·have:=hsr.big;rw [maxLen] at this;omega
    ·rw [wU,wA];exact hk
  ·rename_i id k' lo n hxo
   rw [hxo] at vx
   split at h
   ·rename_i k'' xs t0 hobj
    by_cases hb:(Nat.beq k k'&&Nat.beq k k'')=true
    case neg=>simp [hb] at h
    simp only [hb,vE] at h
    simp only [xY] at hb
    have q1:=zR hb.1;subst q1
    have q2:=zR hb.2;subst q2
    obtain ⟨⟨hlo,hbd,hye⟩,hk⟩:=h
    have hfd:=hob _ _ hobj
    obtain ⟨news,hsr⟩:=a88 hR hob vy hsrc hvl hye
    have hdl:(xs.drop lo).length=n:=by simp;omega
    rcases vx.osl_inv with ⟨hnil,eu,hn0⟩|⟨hnn,o',cc,eu,ho',hcap,hlc,hm⟩
    ·subst hn0
     have hx0:xs=[]:=by
      rcases hR.hp.obj _ _ hfd with ⟨_,h8⟩|⟨h8,_⟩
      ·exact h8
      ·exact absurd hnil h8
     subst hx0
     simp only [List.drop_nil,wA,wU] at hk
     by_cases h0:ys.length=0
     ·have hnl:ys=[]:=zB h0
      subst hnl
      have hnn:news=[]:=zB (by have:=hsr.len;simpa using this)
      subst hnn
      have hrun:=b2q (P:=P) (w:=w) (t:=t) (t':=t') (ty:=o.type) hu hu' hi (y:=a.eval v) hsr.lenOf (by rw [hsz];exact hsr.first)
      rw [←eu] at hrun
      refine d4r.mk hF hk (hexec hrun) (q9.newNil _ d k [id] _ hR.hp) (a0l.of_clean hcl) ?_ (fun id1 k1 lo1 n1 k2 xs1 t1 e e'=>by rw [hxo] at e;cases e;rw [hobj] at e';cases e';exact .inl rfl)
      rw [eu]
      exact .oslnil d k 0 (.inl rfl)
     ·refine grow none 0 0 [] [] [id] eu rfl (by simp) (by simp [Builtin.firstCells]) (fun x hx=>by simp at hx) (fun i j x y hx _=>by simp at hx) hye (by omega) hbd (by omega) ?_ (tyJ t0 ty) (e3h (hty _)) ?_ (fun _=>False) (fun _ h=>h.elim) (fun _ _ _ _ id1 k1 lo1 n1 k2 xs1 t1 e e'=>by rw [hxo] at e;cases e;rw [hobj] at e';cases e';exact .inl rfl)
      ·have:=hsr.big;rw [maxLen] at this;omega
      ·rw [wU,wA];exact hk
    ·rcases hR.hp.obj _ _ hfd with ⟨hnil,_⟩|⟨_,ha⟩
     ·exact absurd hnil hnn
     obtain ⟨_,⟨cur,e',fz,h1,h2,⟨h3,ht0⟩,h4⟩,h5,h6,h7⟩:=ha
     have hoo:n≠0∨0<cc→o'=(g.base id+lo)*k:=by
      intro h8
      rcases ho' with h|h
      ·omega
      ·exact h
     by_cases hroom:n+ys.length≤cc
     · -- in place
      by_cases hcc:cc=0
      · -- nothing there,nothing appended
       have hn0:n=0:=by omega
       have hy0:ys.length=0:=by omega
       have hnl:ys=[]:=zB hy0
       subst hnl;subst hn0;subst hcc
       have hnn':news=[]:=zB (by have:=hsr.len;simpa using this)
       subst hnn'
       have hrun:=a7t (P:=P) (w:=w) (t:=t) (t':=t') (ty:=o.type) hu hu' hi (ad:=⟨g.ρ id,o',none⟩) (n:=0) (cap:=0) (m:=0) (y:=a.eval v) (news:=[]) hsr.lenOf (by rw [hsz];exact hsr.first) (w8 _) (w':=w) rfl
       rw [←eu] at hrun
       have hlo':lo=xs.length:=by omega
       have hdn:xs.drop lo=[]:=List.drop_eq_nil_of_le (by omega)
       rw [hdn,wH] at hk
       refine d4r.mk hF hk (hexec hrun) (q9.pass _ d id (g.base id+lo) (g.cap id - lo) _ _ hR.hp hfd hnn rfl rfl rfl rfl (fun _ _=>rfl) ?_) (a0l.of_clean hcl) ?_ (fun id1 k1 lo1 n1 k2 xs1 t1 e e2=>by rw [hxo] at e;cases e;rw [hobj] at e2;cases e2;exact c9y.of h1 rfl h2 h5 h4 (fun x hx=>(h7 x hx).1) (fun _ _=>rfl) (fun _ h=>h) (fun _ _=>rfl) (.inr ⟨by simp [Gh.set],by simp [Gh.set]⟩))
       ·have e1:(g.set d (g.ρ id) (g.base id+lo) (g.cap id - lo)).ρ d=g.ρ id:=by simp [Gh.set]
        have e2:(g.set d (g.ρ id) (g.base id+lo) (g.cap id - lo)).base d=g.base id+lo:=by simp [Gh.set]
        have e3:(g.set d (g.ρ id) (g.base id+lo) (g.cap id - lo)).cap d=g.cap id - lo:=by simp [Gh.set]
        refine .inr ⟨by simp [Gh.set],?_⟩
        rw [e1,e2,e3]
        exact ⟨hkp,⟨cur,e',fz,h1,by rw [h2];congr 1;omega,⟨h3,e3i ht0⟩,fun i' j x' y' hi' _=>by simp at hi'⟩,by simp,by omega,fun x' hx'=>by simp at hx'⟩
       ·have e1:(g.set d (g.ρ id) (g.base id+lo) (g.cap id - lo)).ρ d=g.ρ id:=by simp [Gh.set]
        have:=VR.osl (g:=g.set d (g.ρ id) (g.base id+lo) (g.cap id - lo)) (w:=w) d k 0 0 o' 0 (by simp [Gh.set]) (.inl rfl) (by simp) (w8 _) (by simp)
        rw [e1] at this
        rw [eu]
        exact this
      ·have ho'':=hoo (.inr (by omega))
       have hfit:o'+n*k+0+news.length≤cur.size:=by
        rw [ho'',hsr.len,wY,←vA,←vA,h2]
        exact zX _ (by omega)
       obtain ⟨w',cur',r1,r2,r3,r4,r5,r6,r7,r8,r9⟩:=a1k (P:=P) (g.ρ id) (o'+n*k) e' fz news 0 cur w h1 h3 hfit hsr.one
       have hrun:=a7t (P:=P) (w:=w) (t:=t) (t':=t') (ty:=o.type) hu hu' hi (ad:=⟨g.ρ id,o',none⟩) (n:=n) (cap:=cc) (m:=ys.length) (y:=a.eval v) (news:=news) hsr.lenOf (by rw [hsz];exact hsr.first) hroom (w':=w')
        (by rw [hsz,show (⟨g.ρ id,o',none⟩:Addr).add (n*k)=⟨g.ρ id,o'+n*k,none⟩ from Addr.add_lit _ _ _];exact r1)
       rw [←eu] at hrun
       have hkeep:a1l g.S w w':=a1l.upd hR.hp hfd hnn r6
       have e1:(g.set d (g.ρ id) (g.base id+lo) (g.cap id - lo)).ρ d=g.ρ id:=by simp [Gh.set]
       have e2:(g.set d (g.ρ id) (g.base id+lo) (g.cap id - lo)).base d=g.base id+lo:=by simp [Gh.set]
       have e3:(g.set d (g.ρ id) (g.base id+lo) (g.cap id - lo)).cap d=g.cap id - lo:=by simp [Gh.set]
       refine d4r.mk hF hk (hexec hrun) (q9.pass _ d id (g.base id+lo) (g.cap id - lo) _ _ hR.hp hfd hnn r2 r3 r4 r5 r6 ?_) (a0l.of_clean hcl) ?_ ?_
       ·refine .inr ⟨by simp [Gh.set],?_⟩
        rw [e1,e2,e3]
        refine ⟨hkp,⟨cur',e',fz,r7,by rw [r8,h2];congr 1;omega,⟨by rw [r8];exact h3,e3i ht0⟩,fun i' j x' y' hi' hj'=>?_⟩,by simp;omega,by omega,fun x' hx'=>?_⟩
        ·have hold:((cur.toList.drop o').take (n*k)).length=n*k:=by
          have:o'+n*k≤cur.size:=by omega
          simp;omega
         have:=b9o (S:=g.S) (w:=w) (cur:=cur') (s:=o') (n:=n) (m:=ys.length) (k:=k) (xs:=xs.drop lo) (olds:=(cur.toList.drop o').take (n*k)) (news:=news) hdl hold (fun x hx=>(h7 x (zY hx)).1)
          (fun i j x y hx hy=>by
           rw [xD] at hx
           have hil:lo+i<xs.length:=(zG.1 hx).1
           have hjk:j<k:=by rw [←(h7 x (zZ hx)).1];exact (zG.1 hy).1
           have hij:i*k+j<n*k:=by
            have:(i+1)*k≤n*k:=zX _ (by omega)
            rw [vA,w7] at this;omega
           have e5:=b4i (cur:=cur) (o':=o') (n:=n*k) (j:=i*k+j) hij (by omega)
           rw [zE,e5]
           have:=h4 (lo+i) j x y hx hy
           rw [ho'',←wN,←vA,wN (g.base id)]
           exact this) rfl hsr.len hye hsr.rd (fun j hj=>by
           rw [r9 (o'+j)]
           simp only [wY]
           by_cases hjn:j<n*k
           ·rw [if_neg (by omega),zH (by omega),b4i hjn (by omega)]
            have:o'+j<cur.size:=by omega
            simp [zC,this]
           ·rw [vA] at hj
            rw [if_pos (by have:=hsr.len;omega),zD (by omega),hold]
            congr 1;omega) i' j x' y' hi' hj'
         rw [ho'',←wN,←vA] at this
         exact this.mono hkeep fun _ h=>h
        ·rcases wC.1 hx' with h8|h8
         ·exact h7 x' (zY h8)
         ·exact hsr.elem x' h8
       ·have:=VR.osl (g:=g.set d (g.ρ id) (g.base id+lo) (g.cap id - lo)) (w:=w') d k 0 (n+ys.length) o' cc (by simp [Gh.set]) (.inr (by rw [e2];simpa using ho'')) (by rw [e3];omega) hroom hm
        rw [e1] at this
        exact this
       ·intro id1 k1 lo1 n1 k2 xs1 t1 e e2
        rw [hxo] at e;cases e;rw [hobj] at e2;cases e2
        refine c9y.of r7 r8 h2 h5 h4 (fun x hx=>(h7 x hx).1) hkeep (fun _ h=>h) (fun q hq=>?_) (.inr ⟨by simp [Gh.set],e1⟩)
        have e9:(g.base id+xs.length)*k=o'+n*k:=by rw [ho'',←vA];congr 1;omega
        rw [r9 q,if_neg (by omega)]
     ·have hfit:n=0∨o'+n*k≤cur.size:=by
       by_cases hn0:n=0
       ·exact .inl hn0
       ·right
        rw [hoo (.inl hn0),←vA,h2]
        exact zX _ (by omega)
      obtain ⟨olds,hso⟩:=b4c (P:=P) (S:=g.S) (w:=w.drew) (b:=g.ρ id) (o':=o') (k:=k) (len:=n) (cap:=cc) (cur:=cur) (e:=e') (fz:=fz) (ys:=xs.drop lo) h1 hdl hfit (fun i j x y hx hy=>by
        rw [xD] at hx
        have hil:lo+i<xs.length:=(zG.1 hx).1
        have:=h4 (lo+i) j x y hx hy
        rw [hoo (.inl (by omega)),←vA,wN (g.base id)]
        exact this.mono (w:=w) (w':=w.drew) (fun b _=>rfl) fun _ h=>h) (fun x hx=>h7 x (zY hx)) (by omega)
      have hol:=hso.len
      have hfi:=hso.first
      rw [hdl] at hol hfi
      refine grow (some ⟨g.ρ id,o',none⟩) n cc (xs.drop lo) olds [id] eu hdl hol hfi (fun x hx=>h7 x (zY hx)) (fun i j x y hx hy=>(hso.rd i j x y hx hy).mono (w:=w.drew) (w':=w) (fun b _=>rfl) fun _ h=>h) hye (by omega) hbd (by omega) ?_ (tyJ t0 ty) (e3h (hty _)) hk (fun b=>b=g.ρ id) (fun b hb=>by subst hb;exact ⟨(hR.hp.obj _ _ hfd).block hnn,id,_,by simp,hfd,hnn,rfl⟩) (fun g' w' hS hW id1 k1 lo1 n1 k2 xs1 t1 e e2=>by rw [hxo] at e;cases e;rw [hobj] at e2;cases e2;exact c9y.of ((hW _ ((hR.hp.obj _ _ hfd).block hnn)).trans h1) rfl h2 h5 h4 (fun x hx=>(h7 x hx).1) (fun b hb=>hW b (hR.hp.lt b hb)) (fun b hb=>(hS b).2 (.inl hb)) (fun _ _=>rfl) (.inl ((hS _).2 (.inr rfl))))
      have h10:n+ys.length≤(n+ys.length)*bytes:=Nat.le_mul_of_pos_right _ hbp
      omega
   ·exact h.elim
  ·exact h.elim
 ·exact h.elim
theorem e4e {k bytes:Nat} {x y:Opd} {ty:Option TypeId} (hok:(y7.app k bytes x y ty).ok P o.op=true) (hR:Rel P c g σ a w) (hob:∀id o,ob id=some o→find id σ.heap=some o) {d:Nat} (hcl:Clean c σ d) (h:o6 P (.app k bytes x y ty) d [x.ev σ.env,y.ev σ.env] ob K L) (hF:Fin o c g σ a w K L K'):o.wp P a w K' Q' :=
 d3x hok hR hob hcl h fun eff hk g' v w' h1 h2 h3 _=>hF eff (.inl hk) g' v w' h1 h2 h3
end
section
variable {P:Program} {o:Oper} {c:Ctx} {g:Gh} {σ:St} {a:Act} {w w':World} {ob:Nat→Option a03} {K L:Eff→Prop} {K':Act→World→Prop} {Q':Exit→Act→World→Prop}
def Gh.ssub (g:Gh) (b:Nat) (f:Nat→Option (Nat×Nat)):Gh:={ g with sub:=fun x=>if x=b then f else g.sub x }
theorem Gh.ssub_agree (g:Gh) (b:Nat) (f:Nat→Option (Nat×Nat)) (i:Nat):g.agree (g.ssub b f) i:=⟨rfl,rfl,rfl,vF⟩
theorem q9.mvo {z d k i:Nat} {xss:List (List V)} {s:Option (Nat×Nat)} {v:Value} (hH:a2o P g w σ.heap) (hf:find z σ.heap=some (.rws k xss)) (hn:¬g.nil z) (hi:i<xss.length) (hzd:z≠d)
  (hs:g.sub (g.ρ z) i=s) (hv:b2c g.S w k s v (xss.getD i [])) (hh:a2w (xss.getD i [])=false) :
  ∃g',q9 g σ.heap w ⟨.osl d k 0 (xss.getD i []).length,[],[(d,.arr k (xss.getD i [])),(z,.rws k (xss.set i [.any]))]⟩ g' w∧(∀id,id≠d→g.agree g' id)∧VR g' w v (.osl d k 0 (xss.getD i []).length):=by
 obtain ⟨f',hf'⟩:∃f':Nat→Option (Nat×Nat),f'=fun j=>if j=i then none else g.sub (g.ρ z) j:=⟨_,rfl⟩
 have hO:=hH.obj z _ hf
 rcases hO with ⟨h0,_⟩|⟨_,⟨⟨cur,e,fz,h1,h2,h3,h4⟩,h5,h6⟩⟩
 ·exact absurd h0 hn
 have only:∀{id:Nat} {o1:a03},(id,o1)∈[(d,a03.arr k (xss.getD i [])),(z,a03.rws k (xss.set i [.any]))]→(id=d∧o1=.arr k (xss.getD i []))∨(id=z∧o1=.rws k (xss.set i [.any])):=fun {id o1} h=>by simpa using h
 have main:∀g1:Gh,g1.S=g.S→g1.sub=(fun x=>if x=g.ρ z then f' else g.sub x)→(∀id,id≠d→g.agree g1 id)→OR g1 w d (.arr k (xss.getD i []))→(¬g1.nil d→a4i g z (.rws k xss) (g1.ρ d)∧s.map (·.1)=some (g1.ρ d)) →
   q9 g σ.heap w ⟨.osl d k 0 (xss.getD i []).length,[],[(d,.arr k (xss.getD i [])),(z,.rws k (xss.set i [.any]))]⟩ g1 w:=by
  intro g1 e1 e2 e3 e4 e5
  obtain ⟨a1,a2,a3,a4⟩:=e3 z hzd
  have subz:∀{k2 yss j q cc},a03.rws k2 yss=.rws k (xss.set i [.any])→j<yss.length→g1.sub (g1.ρ z) j=some (q,cc)→j<xss.length∧j≠i∧g.sub (g.ρ z) j=some (q,cc):=by
   intro k2 yss j q cc he hj hq
   cases he
   rw [e2,a1] at hq
   simp only [if_true,hf'] at hq
   by_cases ji:j=i
   ·rw [if_pos ji] at hq;cases hq
   ·rw [if_neg ji] at hq;exact ⟨by simpa using hj,ji,hq⟩
  have subB:∀{b},a4i g1 z (.rws k (xss.set i [.any])) b→∃j cc,j<xss.length∧j≠i∧g.sub (g.ρ z) j=some (b,cc):=by
   rintro b ⟨k2,yss,j,cc,he,hj,hq⟩
   obtain ⟨q1,q2,q3⟩:=subz he.symm hj hq
   exact ⟨j,cc,q1,q2,q3⟩
  have toB:∀{b j cc},j<xss.length→g.sub (g.ρ z) j=some (b,cc)→a4i g z (.rws k xss) b:=fun hj hq=>⟨k,xss,_,_,rfl,hj,hq⟩
  refine ⟨rfl,rfl,rfl,w8 _,fun _ _ _=>rfl,fun b hb=>by rw [e1];exact hb,fun b hb=>.inl (by rw [←e1];exact hb),fun b hb=>hH.lt b (by rw [←e1];exact hb),fun id hid=>e3 id fun e=>hid (.arr k (xss.getD i [])) (by simp [e]),
   ?_,?_,?_,?_,?_,⟨?_,?_,?_,?_⟩⟩
  ·intro id o1 h
   rcases only h with ⟨rfl,rfl⟩|⟨rfl,rfl⟩
   ·exact e4
   ·refine .inr ⟨fun h=>hn (a4.1 h),?_⟩
    rw [a1,a2,a3,e1,e2]
    simp only [if_true]
    refine ⟨⟨cur,e,fz,h1,h2,h3,fun j xs hj=>?_⟩,by simpa using h5,h6⟩
    rw [xJ] at hj
    by_cases ji:i=j
    ·subst ji
     simp only [hi,if_true,xI] at hj
     subst hj
     simp only [hf',if_true]
     exact .inr rfl
    ·rw [if_neg ji] at hj
     simp only [hf',Ne.symm ji,if_false]
     exact h4 j xs hj
  ·intro id o1 h hnn
   rcases only h with ⟨rfl,rfl⟩|⟨rfl,rfl⟩
   ·exact .inr ⟨z,_,by simp [Eff.ids],hf,hn,.inr (e5 hnn).1⟩
   ·exact .inr ⟨id,_,by simp [Eff.ids],hf,hn,.inl a1.symm⟩
  ·intro i1 j1 o1 o2 q1 q2 n1 n2 he
   rcases only q1 with ⟨rfl,rfl⟩|⟨rfl,rfl⟩<;>rcases only q2 with ⟨r,rfl⟩|⟨r,rfl⟩
   ·exact r.symm
   ·subst r
    rw [a1] at he
    exact absurd he.symm ((hH.sub1 j1 _ _ hf hn (e5 n1).1).2 j1 _ hf hn)
   ·subst r
    rw [a1] at he
    exact absurd he ((hH.sub1 i1 _ _ hf hn (e5 n2).1).2 i1 _ hf hn)
   ·exact r.symm
  ·intro id o1 h hnn
   rcases only h with ⟨rfl,rfl⟩|⟨rfl,rfl⟩
   ·rw [e1];exact (hH.sub1 z _ _ hf hn (e5 hnn).1).1
   ·rw [a1,e1];exact hH.sep id _ hf hn
  ·intro b _ hb
   have:=(hb z _ (by simp [Eff.ids]) hf hn).1
   rw [e2];simp [Ne.symm this]
  ·intro id o1 b h hnn hs1
   rcases only h with ⟨rfl,rfl⟩|⟨rfl,rfl⟩
   ·exact absurd hs1.rws xE
   ·obtain ⟨j,cc,q1,q2,q3⟩:=subB hs1
    exact .inr ⟨id,_,by simp [Eff.ids],hf,hn,.inr (toB q1 q3)⟩
  ·intro id o1 b h hnn hs1
   rcases only h with ⟨rfl,rfl⟩|⟨rfl,rfl⟩
   ·exact absurd hs1.rws xE
   ·obtain ⟨j,cc,q1,q2,q3⟩:=subB hs1
    rw [e1];exact (hH.sub1 id _ _ hf hn (toB q1 q3)).1
  ·intro id o1 b id' o2 h hnn hs1 h' hnn'
   rcases only h with ⟨rfl,rfl⟩|⟨rfl,rfl⟩
   ·exact absurd hs1.rws xE
   ·obtain ⟨j,cc,q1,q2,q3⟩:=subB hs1
    rcases only h' with ⟨rfl,rfl⟩|⟨rfl,rfl⟩
    ·intro he
     obtain ⟨r1,r2⟩:=e5 hnn'
     cases hs':s with
     | none=>rw [hs'] at r2;cases r2
     | some p =>
      obtain ⟨pb,pc⟩:=p
      rw [hs'] at r2 hs
      simp only [x6,xI] at r2
      exact q2 (hH.sub2 id k xss j cc id k xss i pc b hf hf hn hn q1 hi q3 (by rw [hs,r2,he])).2
    ·rw [a1];exact (hH.sub1 id' _ _ hf hn (toB q1 q3)).2 id' _ hf hn
  ·intro i1 k1 xs1 j1 c1 i2 k2 xs2 j2 c2 b h h' hnn hnn' hj hj' he he'
   rcases only h with ⟨_,r⟩|⟨rfl,r⟩
   ·cases r
   rcases only h' with ⟨_,r'⟩|⟨rfl,r'⟩
   ·cases r'
   obtain ⟨p1,p2,p3⟩:=subz r hj he
   obtain ⟨p1',p2',p3'⟩:=subz r' hj' he'
   exact ⟨rfl,(hH.sub2 _ k xss j1 c1 _ k xss j2 c2 b hf hf hn hn p1 p1' p3 p3').2⟩
 cases hs':s with
 | none =>
  rw [hs'] at hv
  rcases hv with ⟨rfl,hx⟩|hx
  ·refine ⟨(g.ssub (g.ρ z) f').setNil d,main _ rfl rfl (fun id hid=>(Gh.ssub_agree g _ _ id).trans (Gh.setNil_agree hid)) (.inl ⟨.inl rfl,hx⟩) fun h=>absurd (.inl rfl) h,fun id hid=>(Gh.ssub_agree g _ _ id).trans (Gh.setNil_agree hid),?_⟩
   rw [hx]
   exact .oslnil d k 0 (.inl rfl)
  ·rw [hh] at hx;cases hx
 | some p =>
  obtain ⟨b,cc⟩:=p
  rw [hs'] at hv
  obtain ⟨oo,base,cap,rfl,ho,hl,hm,hc,hA⟩:=hv
  have e1:((g.ssub (g.ρ z) f').set d b base cap).ρ d=b:=by simp [Gh.set]
  have e2:((g.ssub (g.ρ z) f').set d b base cap).base d=base:=by simp [Gh.set]
  have e3:((g.ssub (g.ρ z) f').set d b base cap).cap d=cap:=by simp [Gh.set]
  have e4:¬((g.ssub (g.ρ z) f').set d b base cap).nil d:=by simp [Gh.set]
  refine ⟨(g.ssub (g.ρ z) f').set d b base cap,main _ rfl rfl (fun id hid=>(Gh.ssub_agree g _ _ id).trans (Gh.set_agree hid)) (.inr ⟨e4,by rw [e1,e2,e3];exact hA⟩) fun _=>?_,fun id hid=>(Gh.ssub_agree g _ _ id).trans (Gh.set_agree hid),?_⟩
  ·rw [e1];exact ⟨⟨k,xss,i,cc,rfl,hi,by rw [hs,hs']⟩,by rw [hs'];rfl⟩
  ·have:=VR.osl (g:=(g.ssub (g.ρ z) f').set d b base cap) (w:=w) d k 0 (xss.getD i []).length oo cc e4 (by rw [e2,wY];exact ho) (by rw [e3,wU];exact hc) hl hm
   rw [e1] at this
   exact this
theorem f3o {xs:List Opd} (hok:a09 P .mvo xs o.op=true) (hR:Rel P c g σ a w) (hob:∀id o,ob id=some o→find id σ.heap=some o) {d:Nat} (hcl:Clean c σ d)
  (h:a0v .mvo d (xs.map (·.ev σ.env)) ob K L) (hF:Fin o c g σ a w K L K'):o.wp P a w K' Q':=by
 obtain ⟨x,t,x',rfl,ho,hx,ht⟩:∃x t x',xs=[x]∧o.op=.load t x'∧x.ok x'=true∧b89 P t=some none:=by
  cases ho:o.op<;>rw [ho] at hok<;>try (simp [a09] at hok;done)
  simp only [a09,xY,xG] at hok
  obtain ⟨⟨h1,h2⟩,h3⟩:=hok
  split at h1
  ·exact ⟨_,_,_,rfl,rfl,h1,h3⟩
  ·cases h1
 have vx:=Opd.vr hR hx
 obtain ⟨z,i,k,xss,hev,hobj,hzd,hin,hK⟩:∃z i k xss,x.ev σ.env=.optr z 1 i 0∧ob z=some (.rws k xss)∧z≠d∧e2c i xss=true∧K ⟨.osl d k 0 (xss.getD i []).length,[],[(d,.arr k (xss.getD i [])),(z,.rws k (xss.set i [.any]))]⟩:=by
  simp only [wP,w4] at h
  cases hy:x.ev σ.env<;>rw [hy] at h<;>try (simp [a0v] at h;done)
  rename_i z q i off
  cases off with
  | succ off=>simp [a0v] at h
  | zero =>
   simp only [a0v] at h
   split at h
   ·rename_i k xss ho
    cases hk:Nat.beq q 1&&!Nat.beq z d with
    | false=>rw [hk] at h;exact h.elim
    | true =>
     rw [hk] at h
     simp only [xY,xO] at hk
     have:=zR hk.1;subst this
     exact ⟨z,i,k,xss,rfl,ho,Nat.ne_of_beq_eq_false hk.2,h.1,h.2⟩
   ·exact h.elim
 rw [hev] at vx
 obtain ⟨hi,hh⟩:=c1v.1 hin
 have hf:=hob _ _ hobj
 have hxe:a.eval x'=.pointer (some ⟨g.ρ z,(g.base z+i)*1+0,none⟩):=vx.optr_inv
 rcases hR.hp.obj z _ hf with ⟨_,h0⟩|⟨hn,⟨⟨cur,e,fz,h1,h2,h3,h4⟩,h5,h6⟩⟩
 ·rw [h0] at hi;simp at hi
 have hrow:=h4 i (xss.getD i []) (by simp [hi])
 obtain ⟨g',k1,k2,k3⟩:=q9.mvo (v:=cur.getD (g.base z+i) undef) hR.hp hf hn hi hzd rfl hrow hh
 have hlt:g.base z+i<cur.size:=by omega
 have hrun:(loadVar t ⟨g.ρ z,g.base z+i,none⟩).run P w=.ok (cur.getD (g.base z+i) undef) w:=by
  have hc:w.cell? ⟨g.ρ z,g.base z+i,none⟩=some (cur.getD (g.base z+i) undef):=by
   rw [cell_of_row w (g.ρ z) _ cur e fz h1]
   simp [zC,hlt]
  simp [loadVar,b0q ht w,run_load,hc]
 unfold Oper.wp
 have:(execOp a.eval o).run P w=.ok (.value (cur.getD (g.base z+i) undef)) w:=by
  rw [Nat.mul_one,wY] at hxe
  simp [execOp,ho,Instr.loadAt,hxe,Instr.sureAddr,hrun]
 rw [this]
 refine hF _ (.inl hK) g' _ w k1 (fun id o1 hm=>?_) k3
 simp only [wO,Prod.mk.injEq,List.mem_nil_iff,or_false] at hm
 by_cases e:id=d
 ·subst e
  exact .inr ⟨hcl.1,fun s y hy=>a2v hcl.2.1 hy,fun n o' hn' _=>a2r hcl.2.2 hn'⟩
 ·exact .inl (k2 id e)
theorem q9.mvi {z e k i cc:Nat} {xss:List (List V)} {ys:List V} {t:Option TypeId} {v:Value} {cur cur':Array Value} {te:TypeId} {fz:Nat×Nat} (x:V) (hH:a2o P g w σ.heap) (hf:find z σ.heap=some (.rws k xss)) (hn:¬g.nil z) (hi:i<xss.length)
  (he:find e σ.heap=some (.arr k ys t)) (hv:VR g w v (.osl e k 0 ys.length)) (h1:w'.os=w.os) (h2:w'.tape=w.tape) (h3:w'.output=w.output) (h4:w'.heap.size=w.heap.size) (h5:∀b,b≠g.ρ z→w'.heap[b]?=w.heap[b]?)
  (hc:w.heap[g.ρ z]?=some (.cells cur te fz)) (hc':w'.heap[g.ρ z]?=some (.cells cur' te fz)) (hs:cur'.size=cur.size) (hci:cur'.getD (g.base z+i) undef=v) (hco:∀j,j≠i→cur'.getD (g.base z+j) undef=cur.getD (g.base z+j) undef) :
  ∃g',q9 g σ.heap w ⟨x,[e],[(z,.rws k (xss.set i ys))]⟩ g' w'∧(∀id,g.agree g' id):=by
 rcases hH.obj z _ hf with ⟨h0,_⟩|⟨_,⟨⟨cur0,e0,fz0,q1,q2,q3,q4⟩,q5,q6⟩⟩
 ·exact absurd h0 hn
 rw [hc] at q1;cases q1
 have hze:z≠e:=fun h=>by rw [h,he] at hf;cases hf
 obtain ⟨s',hs',hrow⟩:∃s':Option (Nat×Nat),(∀b c2,s'=some (b,c2)→¬g.nil e∧b=g.ρ e)∧b2c g.S w k s' v ys:=by
  rcases hH.obj e _ he with ⟨hne,rfl⟩|⟨hne,hA⟩
  ·rcases hv.osl_inv with ⟨_,r2,_⟩|⟨r1,_⟩
   ·exact ⟨none,fun _ _ h=>(by cases h),.inl ⟨r2,rfl⟩⟩
   ·exact absurd hne r1
  ·rcases hv.osl_inv with ⟨r1,_⟩|⟨_,oo,c2,r2,r3,r4,r5,r6⟩
   ·exact absurd r1 hne
   ·refine ⟨some (g.ρ e,c2),fun b c3 h=>(by cases h;exact ⟨hne,rfl⟩),oo,g.base e,g.cap e,r2,by rw [wY] at r3;exact r3,r5,r6,by omega,?_⟩
    obtain ⟨p1,⟨cur1,e1,fz1,p2,p3,p4,p5⟩,p6,p7,p8⟩:=hA
    exact ⟨p1,⟨cur1,e1,fz1,p2,p3,⟨p4.1,trivial⟩,p5⟩,p6,p7,p8⟩
 have hse:∀b c2,s'=some (b,c2)→b≠g.ρ z:=fun b c2 h hb=>by
  obtain ⟨r1,r2⟩:=hs' b c2 h
  exact hze (hH.inj z e _ _ hf he hn r1 (hb.symm.trans r2))
 obtain ⟨f',hf'⟩:∃f':Nat→Option (Nat×Nat),f'=fun j=>if j=i then s' else g.sub (g.ρ z) j:=⟨_,rfl⟩
 have hkeep:a1l g.S w w':=fun b hb=>h5 b fun e=>hH.sep z _ hf hn (e▸hb)
 have only:∀{id:Nat} {o1:a03},(id,o1)∈[(z,a03.rws k (xss.set i ys))]→id=z∧o1=.rws k (xss.set i ys):=fun {id o1} h=>by simpa using h
 have subz:∀{k2 yss j q c2},a03.rws k2 yss=.rws k (xss.set i ys)→j<yss.length→(g.ssub (g.ρ z) f').sub ((g.ssub (g.ρ z) f').ρ z) j=some (q,c2)→(j=i∧s'=some (q,c2))∨(j≠i∧j<xss.length∧g.sub (g.ρ z) j=some (q,c2)):=by
  intro k2 yss j q c2 heq hj hq
  cases heq
  have e1:(g.ssub (g.ρ z) f').sub ((g.ssub (g.ρ z) f').ρ z)=f':=by simp [Gh.ssub]
  rw [e1,hf'] at hq
  by_cases ji:j=i
  ·simp only [ji,if_true] at hq;exact .inl ⟨ji,hq⟩
  ·simp only [ji,if_false] at hq;exact .inr ⟨ji,by simpa using hj,hq⟩
 have toB:∀{b j c2},j<xss.length→g.sub (g.ρ z) j=some (b,c2)→a4i g z (.rws k xss) b:=fun hj hq=>⟨k,xss,_,_,rfl,hj,hq⟩
 refine ⟨g.ssub (g.ρ z) f',⟨h1,h2,h3,by omega,fun b hb hb'=>h5 b fun e=>(hb' z _ (by simp [Eff.ids]) hf hn).1 e.symm,fun _ h=>h,fun b hb=>.inl hb,fun b hb=>by have:=hH.lt b hb;omega,fun id _=>Gh.ssub_agree g _ _ id,
  ?_,?_,?_,?_,?_,⟨?_,?_,?_,?_⟩⟩,fun id=>Gh.ssub_agree g _ _ id⟩
 ·intro id o1 h
  obtain ⟨rfl,rfl⟩:=only h
  refine .inr ⟨hn,?_⟩
  have e1:(g.ssub (g.ρ id) f').sub ((g.ssub (g.ρ id) f').ρ id)=f':=by simp [Gh.ssub]
  rw [e1]
  refine ⟨⟨cur',te,fz,hc',by rw [hs];exact q2,by rw [hs];exact q3,fun j xs hj=>?_⟩,by rw [List.length_set];exact q5,q6⟩
  rw [xJ] at hj
  by_cases ji:i=j
  ·subst ji
   simp only [hi,if_true,xI] at hj
   subst hj
   simp only [hf',if_true]
   show b2c g.S w' k s' (cur'.getD (g.base id+i) undef) ys
   rw [hci]
   exact hrow.mono hkeep (fun _ h=>h) fun b c2 h=>h5 b (hse b c2 h)
  ·rw [if_neg ji] at hj
   simp only [hf',Ne.symm ji,if_false]
   show b2c g.S w' k _ (cur'.getD (g.base id+j) undef) xs
   rw [hco j (Ne.symm ji)]
   have hjl:=(zG.1 hj).1
   exact (q4 j xs hj).mono hkeep (fun _ h=>h) fun b c2 h=>h5 b fun e1=>(hH.sub1 id _ _ hf hn (toB hjl h)).2 id _ hf hn e1.symm
 ·intro id o1 h _
  obtain ⟨rfl,rfl⟩:=only h
  exact .inr ⟨id,_,by simp [Eff.ids],hf,hn,.inl rfl⟩
 ·intro i1 j1 o1 o2 p1 p2 _ _ _
  rw [(only p1).1,(only p2).1]
 ·intro id o1 h _
  obtain ⟨rfl,rfl⟩:=only h
  exact hH.sep id _ hf hn
 ·intro b _ hb
  have:=(hb z _ (by simp [Eff.ids]) hf hn).1
  simp [Gh.ssub,Ne.symm this]
 ·intro id o1 b h _ ⟨k2,yss,j,c2,heq,hj,hq⟩
  obtain ⟨rfl,rfl⟩:=only h
  rcases subz heq.symm hj hq with ⟨_,r⟩|⟨_,r1,r2⟩
  ·obtain ⟨r1,rfl⟩:=hs' _ _ r
   exact .inr ⟨e,_,by simp [Eff.ids],he,r1,.inl rfl⟩
  ·exact .inr ⟨id,_,by simp [Eff.ids],hf,hn,.inr (toB r1 r2)⟩
 ·intro id o1 b h _ ⟨k2,yss,j,c2,heq,hj,hq⟩
  obtain ⟨rfl,rfl⟩:=only h
  rcases subz heq.symm hj hq with ⟨_,r⟩|⟨_,r1,r2⟩
  ·obtain ⟨r1,rfl⟩:=hs' _ _ r
   exact hH.sep e _ he r1
  ·exact (hH.sub1 id _ _ hf hn (toB r1 r2)).1
 ·intro id o1 b id' o2 h _ ⟨k2,yss,j,c2,heq,hj,hq⟩ h' _
  obtain ⟨rfl,rfl⟩:=only h
  obtain ⟨rfl,rfl⟩:=only h'
  rcases subz heq.symm hj hq with ⟨_,r⟩|⟨_,r1,r2⟩
  ·exact fun h=>hse _ _ r h.symm
  ·exact (hH.sub1 id' _ _ hf hn (toB r1 r2)).2 id' _ hf hn
 ·intro i1 k1 xs1 j1 c1 i2 k2 xs2 j2 c2 b h h' _ _ hj hj' hq hq'
  obtain ⟨rfl,r⟩:=only h
  obtain ⟨rfl,r'⟩:=only h'
  refine ⟨rfl,?_⟩
  rcases subz r hj hq with ⟨p1,p2⟩|⟨p1,p2,p3⟩<;>rcases subz r' hj' hq' with ⟨p1',p2'⟩|⟨p1',p2',p3'⟩
  ·rw [p1,p1']
  ·obtain ⟨u1,u2⟩:=hs' _ _ p2
   exact absurd u2.symm ((hH.sub1 _ _ _ hf hn (toB p2' p3')).2 e _ he u1)
  ·obtain ⟨u1,u2⟩:=hs' _ _ p2'
   exact absurd u2.symm ((hH.sub1 _ _ _ hf hn (toB p2 p3)).2 e _ he u1)
  ·exact (hH.sub2 _ k xss j1 c1 _ k xss j2 c2 b hf hf hn hn p2 p2' p3 p3').2
theorem f3p {xs:List Opd} (hok:a09 P .mvi xs o.op=true) (hR:Rel P c g σ a w) (hob:∀id o,ob id=some o→find id σ.heap=some o) {d:Nat}
  (h:a0v .mvi d (xs.map (·.ev σ.env)) ob K L) (hF:Fin o c g σ a w K L K'):o.wp P a w K' Q':=by
 obtain ⟨x,y,t,x',y',rfl,ho,hx,hy,ht⟩:∃x y t x' y',xs=[x,y]∧o.op=.store t x' y'∧x.ok x'=true∧y.ok y'=true∧a1x P t 1=true:=by
  cases ho:o.op<;>rw [ho] at hok<;>try (simp [a09] at hok;done)
  simp only [a09,xY] at hok
  obtain ⟨h1,h2⟩:=hok
  split at h1
  ·simp only [xY] at h1
   exact ⟨_,_,_,_,_,rfl,rfl,h1.1,h1.2,h2⟩
  ·cases h1
 have vx:=Opd.vr hR hx
 have vy:=Opd.vr hR hy
 have hsz:=a6q ht
 obtain ⟨z,i,e,k,xss,ys,t0,hev,hev2,hobj,hobj2,hin,hK⟩:∃z i e k xss ys t0,x.ev σ.env=.optr z 1 i 0∧y.ev σ.env=.osl e k 0 ys.length∧ob z=some (.rws k xss)∧ob e=some (.arr k ys t0)∧e2d i xss=true∧K ⟨.any,[e],[(z,.rws k (xss.set i ys))]⟩:=by
  simp only [wP,w4] at h
  cases hu:x.ev σ.env<;>rw [hu] at h<;>try (simp [a0v] at h;done)
  rename_i z q i off
  cases off with
  | succ off=>simp [a0v] at h
  | zero =>
   cases hv:y.ev σ.env<;>rw [hv] at h<;>try (simp [a0v] at h;done)
   rename_i e k lo n
   cases lo with
   | succ lo=>simp [a0v] at h
   | zero =>
    simp only [a0v] at h
    split at h
    ·rename_i k' xss k'' ys t0 ho ho2
     cases hk:Nat.beq q 1&&Nat.beq k k'&&(Nat.beq k k''&&Nat.beq n ys.length) with
     | false=>rw [hk] at h;exact h.elim
     | true =>
      rw [hk] at h
      simp only [xY] at hk
      have:=zR hk.1.1;subst this
      have:=zR hk.1.2;subst this
      have:=zR hk.2.1;subst this
      have:=zR hk.2.2;subst this
      exact ⟨z,i,e,k,xss,ys,t0,rfl,rfl,ho,ho2,h.1,h.2⟩
    ·exact h.elim
 rw [hev] at vx
 rw [hev2] at vy
 obtain ⟨hi,hh⟩:=c1w.1 hin
 have hf:=hob _ _ hobj
 have hf2:=hob _ _ hobj2
 have hxe:a.eval x'=.pointer (some ⟨g.ρ z,(g.base z+i)*1+0,none⟩):=vx.optr_inv
 rw [Nat.mul_one,wY] at hxe
 have hone:(a.eval y').cells=#[a.eval y']∧(a.eval y').oneCell'=true:=by
  rcases vy.osl_inv with ⟨_,hv,_⟩|⟨_,oo,c2,hv,_⟩<;>(rw [hv];exact ⟨rfl,rfl⟩)
 rcases hR.hp.obj z _ hf with ⟨_,h0⟩|⟨hn,⟨⟨cur,te,fz,h1,h2,h3,h4⟩,h5,h6⟩⟩
 ·rw [h0] at hi;simp at hi
 have hle:(g.base z+i)+0+[a.eval y'].length≤cur.size:=by
  rw [h2];simp;omega
 obtain ⟨w',cur',r1,r2,r3,r4,r5,r6,r7,r8,r9⟩:=a1k (P:=P) (g.ρ z) (g.base z+i) te fz [a.eval y'] 0 cur w h1 h3 hle (fun v hv=>by simp only [z9] at hv;subst hv;exact hone.2)
 have hlt:g.base z+i<cur.size:=by omega
 obtain ⟨g',k1,k2⟩:=q9.mvi (v:=a.eval y') (cc:=0) (w':=w') .any hR.hp hf hn hi hf2 vy r2 r3 r4 r5 r6 h1 r7 r8 (by
   have:=r9 (g.base z+i)
   rw [if_pos (by simp)] at this
   rw [zC,this];simp) (fun j hj=>by
   have:=r9 (g.base z+j)
   rw [if_neg (by simp;omega)] at this
   rw [zC,this,zC])
 unfold Oper.wp
 have:(execOp a.eval o).run P w=.ok .skip w':=by
  have hne:¬((a.eval y').cells.size≠1):=by rw [hone.1];simp
  simp only [execOp,ho,Instr.storeAt,hxe,Instr.sureAddr,storeVar,wT,wS,xH,hsz w,hne,if_false]
  rw [show (a.eval y').cells.toList=[a.eval y'] by rw [hone.1]]
  simp only [r1,xH]
 rw [this]
 exact hF _ (.inl hK) g' undef w' k1 (fun id o1 _=>.inl (k2 id)) (.any _)
theorem q9.apr {d k B base cap:Nat} {xss:List (List V)} {dr:List Nat} {so:Nat→Option (Nat×Nat)} {cur':Array Value} {te:TypeId} {fz:Nat×Nat} (x:V) (hH:a2o P g w σ.heap) (h1:w'.os=w.os) (h2:w'.tape=w.tape) (h3:w'.output=w.output) (h4:w.heap.size≤w'.heap.size)
  (hkeep:∀b,b<w.heap.size→b≠B→w'.heap[b]?=w.heap[b]?) (hB:w.heap.size≤B∨∃z,z∈dr∧find z σ.heap=some (.rws k xss)∧¬g.nil z∧g.ρ z=B) (hold:xss=[]∨∃z,z∈dr∧find z σ.heap=some (.rws k xss)∧¬g.nil z∧so=g.sub (g.ρ z))
  (hrow:w'.heap[B]?=some (.cells cur' te fz)) (hsz:cur'.size=base+cap) (hfz:a2l fz cur'.size) (hcell:∀j xs,xss[j]?=some xs→b2c g.S w k (so j) (cur'.getD (base+j) undef) xs) (hnew:cur'.getD (base+xss.length) undef=.slice none 0 0)
  (hl:xss.length+1≤cap) (hbig:base+cap≤maxLen) :
  ∃g',q9 g σ.heap w ⟨x,dr,[(d,.rws k (xss++[[]]))]⟩ g' w'∧g'.ρ d=B∧g'.base d=base∧g'.cap d=cap∧¬g'.nil d:=by
 obtain ⟨f',hf'⟩:∃f':Nat→Option (Nat×Nat),f'=fun j=>if j<xss.length then so j else none:=⟨_,rfl⟩
 have e1:((g.ssub B f').set d B base cap).ρ d=B:=by simp [Gh.set]
 have e2:((g.ssub B f').set d B base cap).base d=base:=by simp [Gh.set]
 have e3:((g.ssub B f').set d B base cap).cap d=cap:=by simp [Gh.set]
 have e4:¬((g.ssub B f').set d B base cap).nil d:=by simp [Gh.set]
 have e5:((g.ssub B f').set d B base cap).sub B=f':=by simp [Gh.set,Gh.ssub]
 have hBS:¬g.S B:=by
  rcases hB with h|⟨z,_,q2,q3,rfl⟩
  ·exact fun hb=>by have:=hH.lt B hb;omega
  ·exact hH.sep z _ q2 q3
 have hk:a1l g.S w w':=fun b hb=>hkeep b (hH.lt b hb) fun e=>hBS (e▸hb)
 have only:∀{id:Nat} {o1:a03},(id,o1)∈[(d,a03.rws k (xss++[[]]))]→id=d∧o1=.rws k (xss++[[]]):=fun {id o1} h=>by simpa using h
 have old:∀{j b c2},j<xss.length→so j=some (b,c2)→∃z,z∈dr∧find z σ.heap=some (.rws k xss)∧¬g.nil z∧a4i g z (.rws k xss) b∧g.sub (g.ρ z) j=some (b,c2):=by
  intro j b c2 hj hs
  rcases hold with h|⟨z,q1,q2,q3,rfl⟩
  ·rw [h] at hj;cases hj
  ·exact ⟨z,q1,q2,q3,⟨k,xss,j,c2,rfl,hj,hs⟩,hs⟩
 have neB:∀{j b c2},j<xss.length→so j=some (b,c2)→b<w.heap.size∧b≠B:=by
  intro j b c2 hj hs
  obtain ⟨z,q1,q2,q3,q4,_⟩:=old hj hs
  have hlt:=(hH.obj z _ q2).subBlock q3 q4
  refine ⟨hlt,?_⟩
  rcases hB with h|⟨z',_,p2,p3,rfl⟩
  ·omega
  ·exact fun e=>(hH.sub1 z _ _ q2 q3 q4).2 z' _ p2 p3 e.symm
 have subz:∀{k2 yss j q c2},a03.rws k2 yss=.rws k (xss++[[]])→j<yss.length→((g.ssub B f').set d B base cap).sub (((g.ssub B f').set d B base cap).ρ d) j=some (q,c2)→j<xss.length∧so j=some (q,c2):=by
  intro k2 yss j q c2 heq hj hq
  rw [e1,e5,hf'] at hq
  by_cases hlt:j<xss.length
  ·simp only [hlt,if_true] at hq;exact ⟨hlt,hq⟩
  ·simp only [hlt,if_false] at hq;cases hq
 refine ⟨(g.ssub B f').set d B base cap,⟨h1,h2,h3,h4,fun b hb hb'=>hkeep b hb fun e=>?_,fun _ h=>h,fun b hb=>.inl hb,fun b hb=>by have:=hH.lt b hb;omega,fun id hid=>(Gh.ssub_agree g _ _ id).trans (Gh.set_agree fun e=>hid (.rws k (xss++[[]])) (by simp [e])),
  ?_,?_,?_,?_,?_,⟨?_,?_,?_,?_⟩⟩,e1,e2,e3,e4⟩
 ·rcases hB with h|⟨z,q1,q2,q3,q4⟩
  ·omega
  ·exact (hb' z _ (by simp [Eff.ids,q1]) q2 q3).1 (q4.trans e.symm)
 ·intro id o1 h
  obtain ⟨rfl,rfl⟩:=only h
  refine .inr ⟨e4,?_⟩
  rw [e1,e2,e3,e5]
  refine ⟨⟨cur',te,fz,hrow,hsz,hfz,fun j xs hj=>?_⟩,by simpa using hl,hbig⟩
  rw [List.getElem?_append] at hj
  by_cases hlt:j<xss.length
  ·rw [if_pos hlt] at hj
   simp only [hf',hlt,if_true]
   exact (hcell j xs hj).mono hk (fun _ h=>h) fun b c2 hs=>hkeep b (neB hlt hs).1 (neB hlt hs).2
  ·rw [if_neg hlt] at hj
   have hj0:j=xss.length:=by
    have:=(zG.1 hj).1
    simp at this;omega
   subst hj0
   simp at hj;subst hj
   simp only [hf',Nat.lt_irrefl,if_false]
   exact .inl ⟨hnew,rfl⟩
 ·intro id o1 h _
  obtain ⟨rfl,rfl⟩:=only h
  rw [e1]
  rcases hB with h|⟨z,q1,q2,q3,q4⟩
  ·exact .inl h
  ·exact .inr ⟨z,_,by simp [Eff.ids,q1],q2,q3,.inl q4⟩
 ·intro i1 j1 o1 o2 p1 p2 _ _ _
  rw [(only p1).1,(only p2).1]
 ·intro id o1 h _
  obtain ⟨rfl,rfl⟩:=only h
  rw [e1];exact hBS
 ·intro b hb hb'
  have:b≠B:=fun e=>by
   rcases hB with h|⟨z,q1,q2,q3,q4⟩
   ·omega
   ·exact (hb' z _ (by simp [Eff.ids,q1]) q2 q3).1 (q4.trans e.symm)
  simp [Gh.set,Gh.ssub,this]
 ·intro id o1 b h _ ⟨k2,yss,j,c2,heq,hj,hq⟩
  obtain ⟨rfl,rfl⟩:=only h
  obtain ⟨p1,p2⟩:=subz heq.symm hj hq
  obtain ⟨z,q1,q2,q3,q4,_⟩:=old p1 p2
  exact .inr ⟨z,_,by simp [Eff.ids,q1],q2,q3,.inr q4⟩
 ·intro id o1 b h _ ⟨k2,yss,j,c2,heq,hj,hq⟩
  obtain ⟨rfl,rfl⟩:=only h
  obtain ⟨p1,p2⟩:=subz heq.symm hj hq
  obtain ⟨z,q1,q2,q3,q4,_⟩:=old p1 p2
  exact (hH.sub1 z _ _ q2 q3 q4).1
 ·intro id o1 b id' o2 h _ ⟨k2,yss,j,c2,heq,hj,hq⟩ h' _
  obtain ⟨rfl,rfl⟩:=only h
  obtain ⟨rfl,rfl⟩:=only h'
  obtain ⟨p1,p2⟩:=subz heq.symm hj hq
  rw [e1]
  exact fun e=>(neB p1 p2).2 e.symm
 ·intro i1 k1 xs1 j1 c1 i2 k2 xs2 j2 c2 b h h' _ _ hj hj' hq hq'
  obtain ⟨rfl,r⟩:=only h
  obtain ⟨rfl,r'⟩:=only h'
  obtain ⟨p1,p2⟩:=subz r hj hq
  obtain ⟨p1',p2'⟩:=subz r' hj' hq'
  refine ⟨rfl,?_⟩
  rcases hold with h|⟨z,q1,q2,q3,rfl⟩
  ·rw [h] at p1;cases p1
  ·exact (hH.sub2 z k xss j1 c1 z k xss j2 c2 b q2 q2 q3 q3 p1 p1' p2 p2').2
theorem f4o {k bytes:Nat} {xs:List Opd} (hok:a09 P (.apr k bytes) xs o.op=true) (hR:Rel P c g σ a w) (hob:∀id o,ob id=some o→find id σ.heap=some o) {d:Nat} (hcl:Clean c σ d)
  (h:a0v (.apr k bytes) d (xs.map (·.ev σ.env)) ob K L) (hF:Fin o c g σ a w K L K'):o.wp P a w K' Q':=by
 obtain ⟨x,y,cl,u,v,t,t',rfl,ho,hcl',hargs,hts,hx,hy,hse,hat⟩:∃x y cl u v t t',xs=[x,y]∧o.op=.call cl∧cl.callee=.builtin .append∧cl.args=#[u,v]∧cl.argTypes=#[t,t']∧x.ok u=true∧y.ok v=true∧a3c P t 1 bytes=true∧a9k P t'=true:=by
  cases ho:o.op<;>rw [ho] at hok<;>try (simp [a09] at hok;done)
  rename_i cl
  obtain ⟨callee,args,ts⟩:=cl
  cases callee<;>try (simp [a09] at hok;done)
  rename_i b
  cases b<;>try (simp [a09] at hok;done)
  simp only [a09] at hok
  split at hok
  ·rename_i u v t t' he1 he2
   simp only [xY] at hok
   exact ⟨_,_,_,u,v,t,t',rfl,rfl,rfl,xZ.1 (by simpa using he1),xZ.1 (by simpa using he2),hok.1.1.1,hok.1.1.2,hok.1.2,hok.2⟩
  ·cases hok
 obtain ⟨e,i,zv,hu,hi,hz,hsz,hby,hkp,hbp,hzs⟩:=a6z hse
 have hu':f08 P t':=by
  unfold a9k at hat
  split at hat
  ·exact .inr ⟨_,‹_›⟩
  ·exact .inl ‹_›
  ·cases hat
 have vx:=Opd.vr hR hx
 have vy:=Opd.vr hR hy
 have hexec:∀{r:Value} {w':World},(Builtin.append_ #[t,t'] o.type #[a.eval u,a.eval v]).run P w=.ok r w'→(execOp a.eval o).run P w=.ok (.value r) w':=by
  intro r w' hr
  simp [execOp,ho,resolve,hcl',hargs,hts,invoke,builtin,hr]
 simp only [wP,w4,a0v] at h
 split at h
 case h_2=>exact h.elim
 rename_i ys hsrc
 obtain ⟨hvl,h⟩:=h
 cases hys:b8u ys with
 | false=>rw [hys] at h;exact h.elim
 | true =>
 rw [hys] at h
 simp only [vE] at h
 have hye:ys=[.nils]:=by
  unfold b8u at hys
  split at hys
  ·rfl
  ·cases hys
 subst hye
 have one:∀{w0:World} {news:List Value},Src P g.S w0 1 (a.eval v) [.nils] news→news=[.slice none 0 0]:=fun {w0 news} hs=>by
  have h1:=hs.len
  match news,h1 with
  | [q],_ =>
   have:=hs.rd 0 0 .nils .nils rfl rfl
   simp at this
   rw [(VR.rd (g:=g) this).nils_inv]
 have helem:∀x∈[V.nils],x.cells.length=1:=fun x hx=>by simp at hx;subst hx;rfl
 obtain ⟨news,hsr⟩:=a88 hR hob vy hsrc hvl helem
 have:=one hsr;subst this
 have grow:∀(ba:Option Addr) (n cap0:Nat) (xss:List (List V)) (so:Nat→Option (Nat×Nat)) (dr:List Nat) (olds:List Value),a.eval u=.slice ba n cap0→xss.length=n→olds.length=n→(Builtin.firstCells 1 n (.slice ba n cap0)).run P w.drew=.ok olds.toArray w.drew →
   (∀j xs,xss[j]?=some xs→b2c g.S w k (so j) (olds.getD j undef) xs)→cap0<n+1→(n+1)*bytes≤140737488355328→(xss=[]∨∃z,z∈dr∧find z σ.heap=some (.rws k xss)∧¬g.nil z∧so=g.sub (g.ρ z)) →
   K ⟨.osl d 1 0 (n+1),dr,[(d,.rws k (xss++[[]]))]⟩→o.wp P a w K' Q':=by
  intro ba n cap0 xss so dr olds eu hxl hol hof hcells hlt hbd hold hk
  obtain ⟨news2,hsr2⟩:=a88 (hR.drew) hob (vy.mono (g':=g) (w:=w) (w':=w.drew) (fun b _=>rfl) (fun _ h=>h) fun _ _=>Gh.agree.refl _ _) hsrc hvl helem
  have:=one hsr2;subst this
  have hn1:n+1≤(n+1)*bytes:=Nat.le_mul_of_pos_right _ hbp
  have hrun:=b2r (P:=P) (w:=w) (t:=t) (t':=t') (ty:=o.type) hu hu' hi hz (base:=ba) (n:=n) (cap:=cap0) (m:=1) (y:=a.eval v) (olds:=olds.toArray) (news:=#[.slice none 0 0]) hsr.lenOf (by rw [hsz];exact hof) (by rw [hsz];exact hsr2.first) hlt (by omega) (growslice_fits hlt (by rw [hby];exact hbd))
  obtain ⟨gc,hgc⟩:∃gc,gc=grownCap w (n+1) cap0 e:=⟨_,rfl⟩
  rw [←hgc] at hrun
  have hge:n+1≤gc:=by rw [hgc];exact grownCap_ge w _ cap0 e
  have hgm:gc≤maxLen:=by rw [hgc];exact grownCap_le_maxLen w _ cap0 e (by rw [maxLen];omega)
  obtain ⟨cur,hcur⟩:∃cur:Array Value,cur=olds.toArray++#[.slice none 0 0]++Builtin.zeroCells zv.cells (gc - (n+1)):=⟨_,rfl⟩
  rw [←hcur] at hrun
  have hcs:cur.size=0+gc:=by
   rw [hcur]
   simp only [Array.size_append,List.size_toArray,c5z,hzs,hol,xU,wD]
   simp;omega
  have hat:∀j,j<n→cur.getD (0+j) undef=olds.getD j undef:=fun j hj=>by
   rw [hcur,wU,zC,Array.append_assoc,Array.getElem?_append_left (by simp [hol];exact hj)]
   simp [zE]
  have hatn:cur.getD (0+n) undef=.slice none 0 0:=by
   rw [hcur,wU,zC,Array.getElem?_append_left (by simp [hol]),Array.getElem?_append_right (by simp [hol])]
   simp [hol]
  rw [←eu] at hrun
  obtain ⟨g',k1,k2,k3,k4,k5⟩:=q9.apr (d:=d) (k:=k) (B:=w.heap.size) (base:=0) (cap:=gc) (xss:=xss) (dr:=dr) (so:=so) (cur':=cur) (te:=e) (fz:=(0,0)) (w:=w) (w':=w.drew.alloc (.cells cur e)) (.osl d 1 0 (n+1)) hR.hp rfl rfl rfl (by show w.heap.size≤(w.heap.push _).size;simp) (fun b hb _=>by
    show (w.heap.push _)[b]?=_
    rw [Array.getElem?_push,if_neg (by omega)]) (.inl (w8 _)) hold (heap_alloc_new w.drew _) hcs (a3b _) (fun j xs hj=>by
     rw [hat j (by rw [←hxl];exact (zG.1 hj).1)];exact hcells j xs hj) (by rw [hxl];exact hatn) (by omega) (by omega)
  unfold Oper.wp
  rw [hexec hrun]
  refine hF _ (.inl hk) g' _ _ k1 (a0l.of_clean hcl) ?_
  have:=VR.osl (g:=g') (w:=w.drew.alloc (.cells cur e)) d 1 0 (n+1) 0 gc k5 (.inr (by rw [k3])) (by rw [k4];omega) hge hgm
  rw [k2] at this
  exact this
 split at h
 ·rename_i hxn
  rw [hxn] at vx
  obtain ⟨hbd,hk⟩:=h
  have eu:=vx.nils_inv
  exact grow none 0 0 [] (fun _=>none) [] [] eu rfl rfl (by simp [Builtin.firstCells]) (fun j xs hj=>by simp at hj) (by omega) (b6c.1 hbd) (.inl rfl) hk
 ·rename_i z q n hxo
  rw [hxo] at vx
  split at h
  case h_2=>exact h.elim
  rename_i k' xss hobj
  cases hkk:Nat.beq q 1&&Nat.beq k k'&&Nat.beq n xss.length with
  | false=>rw [hkk] at h;exact h.elim
  | true =>
  rw [hkk] at h
  simp only [xY] at hkk
  have:=zR hkk.1.1;subst this
  have:=zR hkk.1.2;subst this
  have:=zR hkk.2;subst this
  obtain ⟨hbd,hk⟩:=h
  have hbd:=b6c.1 hbd
  have hfd:=hob _ _ hobj
  rcases vx.osl_inv with ⟨hnil,eu,hn0⟩|⟨hnn,o',cc,eu,ho',hcap,hlc,hm⟩
  ·have hx0:xss=[]:=zB hn0
   subst hx0
   exact grow none 0 0 [] (fun _=>none) [z] [] eu rfl rfl (by simp [Builtin.firstCells]) (fun j xs hj=>by simp at hj) (by omega) hbd (.inl rfl) hk
  ·rcases hR.hp.obj _ _ hfd with ⟨hnil,_⟩|⟨_,⟨⟨cur,e',fz,h1,h2,h3,h4⟩,h5,h6⟩⟩
   ·exact absurd hnil hnn
   have hsome:xss=[]∨∃z',z'∈[z]∧find z' σ.heap=some (.rws k xss)∧¬g.nil z'∧g.sub (g.ρ z)=g.sub (g.ρ z'):=.inr ⟨z,by simp,hfd,hnn,rfl⟩
   by_cases hroom:xss.length+1≤cc
   ·have ho'':o'=g.base z:=by
     rcases ho' with h|h
     ·omega
     ·simpa using h
    subst ho''
    obtain ⟨w',cur',r1,r2,r3,r4,r5,r6,r7,r8,r9⟩:=a1k (P:=P) (g.ρ z) (g.base z+xss.length*1) e' fz [.slice none 0 0] 0 cur w h1 h3 (by simp;omega) hsr.one
    have hrun:=a7t (P:=P) (w:=w) (t:=t) (t':=t') (ty:=o.type) hu hu' hi (ad:=⟨g.ρ z,g.base z,none⟩) (n:=xss.length) (cap:=cc) (m:=1) (y:=a.eval v) (news:=[.slice none 0 0]) hsr.lenOf (by rw [hsz];exact hsr.first) hroom (w':=w')
     (by rw [hsz,show (⟨g.ρ z,g.base z,none⟩:Addr).add (xss.length*1)=⟨g.ρ z,g.base z+xss.length*1,none⟩ from Addr.add_lit _ _ _];exact r1)
    rw [←eu] at hrun
    obtain ⟨g',k1,k2,k3,k4,k5⟩:=q9.apr (d:=d) (k:=k) (B:=g.ρ z) (base:=g.base z) (cap:=g.cap z) (xss:=xss) (dr:=[z]) (so:=g.sub (g.ρ z)) (cur':=cur') (te:=e') (fz:=fz) (w:=w) (w':=w') (.osl d 1 0 (xss.length+1)) hR.hp r2 r3 r4 (by omega) (fun b _ hb=>r6 b hb)
     (.inr ⟨z,by simp,hfd,hnn,rfl⟩) hsome r7 (by rw [r8];exact h2) (by rw [r8];exact h3) (fun j xs hj=>by
      have hjl:=(zG.1 hj).1
      have:=r9 (g.base z+j)
      rw [if_neg (by simp;omega)] at this
      rw [zC,this,←zC];exact h4 j xs hj) (by
      have:=r9 (g.base z+xss.length)
      rw [if_pos (by simp)] at this
      rw [zC,this];simp) (by omega) h6
    unfold Oper.wp
    rw [hexec hrun]
    refine hF _ (.inl hk) g' _ _ k1 (a0l.of_clean hcl) ?_
    have:=VR.osl (g:=g') (w:=w') d 1 0 (xss.length+1) (g.base z) cc k5 (.inr (by rw [k3];simp)) (by rw [k4];omega) hroom hm
    rw [k2] at this
    exact this
   ·obtain ⟨olds,hof,hol,hoc⟩:∃olds:List Value,(Builtin.firstCells 1 xss.length (.slice (some ⟨g.ρ z,o',none⟩) xss.length cc)).run P w.drew=.ok olds.toArray w.drew∧olds.length=xss.length∧∀j,j<xss.length→olds.getD j undef=cur.getD (g.base z+j) undef:=by
     by_cases h0:xss.length=0
     ·refine ⟨[],?_,by simp [h0],fun j hj=>by omega⟩
      simp [Builtin.firstCells,loadCells,loadCellsFrom,h0]
     ·have ho'':o'=g.base z:=by
       rcases ho' with h|h
       ·omega
       ·simpa using h
      subst ho''
      have hle:g.base z+xss.length≤cur.size:=by omega
      refine ⟨(cur.toList.drop (g.base z)).take xss.length,?_,by simp;omega,fun j hj=>?_⟩
      ·simp only [Builtin.firstCells,Nat.mul_one]
       exact c66 (P:=P) (w:=w.drew) h1 hle
      ·rw [zE,b4i hj hle];rfl
    exact grow (some ⟨g.ρ z,o',none⟩) xss.length cc xss (g.sub (g.ρ z)) [z] olds eu rfl hol hof (fun j xs hj=>by
     rw [hoc j (zG.1 hj).1];exact h4 j xs hj) (by omega) hbd hsome hk
 ·exact h.elim
end
end Go.Ab