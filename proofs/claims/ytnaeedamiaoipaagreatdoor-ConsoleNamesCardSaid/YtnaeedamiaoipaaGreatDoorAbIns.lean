/- The abstract layer, part 3: instructions, how they match the model's operations, and what they do to abstract values. -/
import Derived.Test.YtnaeedamiaoipaaGreatDoorAbStep
set_option linter.all false
namespace Go.Ab
open Go.RowKit
def callable (P:Program) (f:FuncId):Bool :=
 match P.funcs[f]? with
 | some fn=>!(fn.name == "runtime.NumGoroutine")&&fn.body.isSome
 | none=>false
def ACall (P:Program) (f:FuncId) (args:List V) (H:Heap) (Q:V→Heap→Prop):Prop :=
 callable P f=true∧∀(g:Gh) (w:World) (vals:Array Value),HRel P g w H→vals.size=args.length→(∀(i:Nat) (x:V),args[i]?=some x→VR g w (vals.getD i undef) x) →
  Calls P f vals w fun e w'=>∃v r H' g',e=.returned v∧Q r H'∧HRel P g' w' H'∧VR g' w' v r∧Frm ⟨w,g,H,0,[],[],H,g,w⟩ g' w' H' ∧
   (∀id,find id H'=none→g.agree g' id)
inductive Opd where
 | t (n:Nat)
 | c (v:V)
 | f (n:Nat)
def get (n:Nat):List (Nat×V)→V
 | []=>.any
 | (m,x)::r=>bif Nat.beq n m then x else get n r
theorem get_find (n:Nat):∀l:List (Nat×V),get n l=(find n l).getD .any
 | []=>rfl
 | (m,x)::r=>by
  have:=get_find n r
  simp only [get,find,cond_eq_ite]
  split<;>simp [this]
def Opd.ev (env:List (Nat×V)):Opd→V
 | .t n=>get n env
 | .c v=>v
 | .f n=>.fn (.func n) []
def kEq:IntKind→IntKind→Bool
 | .i8,.i8|.i16,.i16|.i32,.i32|.i64,.i64|.u8,.u8|.u16,.u16|.u32,.u32|.u64,.u64=>true
 | _,_=>false
theorem kEq_eq {a b:IntKind} (h:kEq a b=true):a=b:=by cases a<;>cases b<;>first|rfl|(simp [kEq] at h)
def rng:IntKind→Int→Prop
 | .i8,n=>-128≤n∧n≤127
 | .i16,n=>-32768≤n∧n≤32767
 | .i32,n=>-2147483648≤n∧n≤2147483647
 | .i64,n=>-9223372036854775808≤n∧n≤9223372036854775807
 | .u8,n=>0≤n∧n≤255
 | .u16,n=>0≤n∧n≤65535
 | .u32,n=>0≤n∧n≤4294967295
 | .u64,n=>0≤n∧n≤18446744073709551615
theorem rng_iff {k:IntKind} {n:Int}:inR k n↔rng k n:=by
 cases k<;>simp [inR,rng,IntKind.min,IntKind.max,IntKind.signed,IntKind.bits]
mutual
def cOK:V→Value→Bool
 | .bool b,.bool b'=>b==b'
 | .int k n,.int k' n'=>kEq k k'&&(n==n')&&decide (k.min≤n)&&decide (n≤k.max)
 | .str s,.string s'=>(s==s'.data.toList)&&decide (s.length≤4611686018427387904)
 | .nils,.slice none 0 0=>true
 | .sl [],.slice none 0 0=>true
 | .nilp,.pointer none=>true
 | .nilm,.map none=>true
 | .nilf,.nilFunc=>true
 | .nili,.nilIface=>true
 | .ifc true,.nilIface=>true
 | .agg cs,.agg vs=>cOKs cs vs.toList
 | _,_=>false
def cOKs:List V→List Value→Bool
 | [],[]=>true
 | c::cs,v::vs=>cOK c v&&cOKs cs vs
 | _,_=>false
end
def Opd.ok:Opd→Operand→Bool
 | .t n,.tmp m=>Nat.beq n m
 | .c v,.const u=>cOK v u
 | .f n,.func m=>Nat.beq n m
 | _,_=>false
def opdsOK:List Opd→List Operand→Bool
 | [],[]=>true
 | a::r,b::s=>a.ok b&&opdsOK r s
 | _,_=>false
def optOK:Option Opd→Option Operand→Bool
 | none,none=>true
 | some a,some b=>a.ok b
 | _,_=>false
inductive MapOp where
 | mk (kd:KD)
 | lku (kd:KD) (ok:Bool) (z:V)
 | up (kd:KD)
 | del (kd:KD)
 | len
 | rng
 | nxt
 | ent
 | isn (ng:Bool)
 | tab (i:Nat)
 | ups (kd:KD)
 | uss
 | lss
 | mx3
 | ifz (ng:Bool)
 | fnz (ng:Bool)
 | r2s
 | cpy (k:Nat)
 | bnd (f:Nat)
 | apc (k bytes:Nat)
inductive MIns where
 | mv (x:Opd)
 | pick (c a b:Opd)
 | alloc (zs:List V) (t:Option TypeId:=none)
 | box (x:Opd)
 | build (zs:List V) (parts:List (Nat×Nat×Opd))
 | bslice (k:Nat) (xs:List Opd) (uv:Bool:=false)
 | ld (n:Option Nat) (a:Opd)
 | st (n:Nat) (a v:Opd)
 | nck (a:Opd)
 | bin (chk:Bool) (op:BinOp) (x y:Opd)
 | mask (m:Nat) (x:Opd) (k:IntKind)
 | beq (neg:Bool) (x y:Opd)
 | eqs (neg:Bool) (ks:List Nat) (x y:Opd)
 | not (x:Opd)
 | neg (chk:Bool) (x:Opd)
 | i2i (chk:Bool) (k:IntKind) (x:Opd)
 | idc (x:Opd)
 | s2b (x:Opd)
 | mks (x:Opd)
 | b2s (x:Opd)
 | mkfn (f:Nat) (cap:List Opd)
 | mksl (k bytes:Nat) (z:V) (l c:Opd)
 | sls (x:Opd) (lo hi:Option Opd)
 | slc (k:Nat) (x:Opd) (lo hi:Option Opd)
 | fad (off:Nat) (x:Opd)
 | fld (n:Option Nat) (off:Nat) (x:Opd)
 | iad (k:Nat) (x i:Opd)
 | idx (x i:Opd)
 | aix (n:Option Nat) (k cnt:Nat) (x i:Opd)
 | aad (k cnt:Nat) (x i:Opd)
 | barr (k:Nat) (zs:List V) (xs:List Opd)
 | lsl (k:Nat) (xs:List Opd)
 | ls2b (x:Opd)
 | ext (i:Nat) (x:Opd)
 | len (s:Bool) (x:Opd)
 | app (k bytes:Nat) (x y:Opd) (ty:Option TypeId:=none)
 | mm (mx:Bool) (x y:Opd)
 | mp (m:MapOp) (xs:List Opd)
 | call (f:Opd) (args:List Opd) (ids news:List Nat)
def optOpd:Option Opd→List Opd
 | some x=>[x]
 | none=>[]
def MIns.opds:MIns→List Opd
 | .mv x|.box x|.ld _ x|.nck x|.mask _ x _|.not x|.neg _ x|.i2i _ _ x|.idc x|.s2b x|.mks x|.b2s x|.ls2b x|.fad _ x|.fld _ _ x|.ext _ x|.len _ x=>[x]
 | .pick c a b=>[c,a,b]
 | .alloc ..=>[]
 | .build _ ps=>ps.map fun p=>p.2.2
 | .bslice _ xs _=>xs
 | .barr _ _ xs=>xs
 | .lsl _ xs=>xs
 | .st _ a v|.bin _ _ a v|.eqs _ _ a v|.beq _ a v|.mksl _ _ _ a v|.iad _ a v|.idx a v|.aix _ _ _ a v|.aad _ _ a v|.app _ _ a v _|.mm _ a v=>[a,v]
 | .mkfn _ cap=>cap
 | .mp _ xs=>xs
 | .sls x lo hi|.slc _ x lo hi=>x::(optOpd lo++optOpd hi)
 | .call f args _ _=>f::args
def vid:V→List Nat
 | .ptr id _|.osl id _ _ _|.optr id _ _ _|.omap id|.bptr id=>[id]
 | _=>[]
def MIns.touch:MIns→List V→List Nat
 | .ld ..,a::_=>vid a
 | .st ..,a::_=>vid a
 | .b2s _,a::_=>vid a
 | .mks _,a::_=>vid a
 | .app ..,a::b::_=>vid a++vid b
 | .mp (.ups _) _,a::_::v::_=>vid a++vid v
 | .mp .uss _,a::v::_=>vid a++vid v
 | .mp .lss _,vs=>vs.flatMap vid
 | .mp (.apc _ _) _,a::v::_=>vid a++vid v
 | .mp ..,a::_=>vid a
 | .call _ _ ids _,_=>ids
 | _,_=>[]
def MIns.creates:MIns→Nat→List Nat
 | .alloc ..,d|.box _,d|.bslice ..,d|.s2b _,d|.mksl ..,d|.app ..,d=>[d]
 | .mp (.mk _) _,d|.mp .rng _,d|.mp (.apc _ _) _,d=>[d]
 | .call _ _ _ news,_=>news
 | _,_=>[]
def strl (n:Nat):Bool:=decide (n≤9223372036854775807)
theorem strl_iff {n:Nat}:strl n=true↔n≤9223372036854775807:=by simp [strl]
attribute [irreducible] strl
def u8 (n:Int):UInt8:=UInt8.ofNat (n % 256).toNat
def asc (n:Int):Bool:=decide (0≤n)&&decide (n<128)
theorem asc_iff {n:Int}:asc n=true↔0≤n∧n<128:=by simp [asc]
def eqn (a b:Nat):Bool:=Nat.beq a b
theorem eqn_iff {a b:Nat}:eqn a b=true↔a=b:=by simp [eqn]
attribute [irreducible] asc eqn
def sBin (chk:Bool) (op:BinOp) (x y:V) (K:V→Prop):Prop :=
 match x,y with
 | .int k a,.int k' b =>
  match op with
  | .add=>bif kEq k k' then (bif chk then rng k (a+b)∧K (.int k (a+b)) else K (.int k (k.wrap (a+b)))) else False
  | .sub=>bif kEq k k' then (bif chk then rng k (a - b)∧K (.int k (a - b)) else K (.int k (k.wrap (a - b)))) else False
  | .mul=>bif kEq k k' then (bif chk then rng k (a*b)∧K (.int k (a*b)) else K (.int k (k.wrap (a*b)))) else False
  | .quo=>bif kEq k k' then (bif chk then (0≤a∧0<b)∧K (.int k (a / b)) else b≠0∧K (.int k (k.wrap (a.tdiv b)))) else False
  | .rem=>bif kEq k k' then (bif chk then (0≤a∧0<b)∧K (.int k (a % b)) else b≠0∧K (.int k (a.tmod b))) else False
  | .and=>bif kEq k k' then K (.int k (bits .and k a b)) else False
  | .or=>bif kEq k k' then K (.int k (bits .or k a b)) else False
  | .xor=>bif kEq k k' then K (.int k (bits .xor k a b)) else False
  | .andNot=>bif kEq k k' then K (.int k (bits .andNot k a b)) else False
  | .eql=>bif kEq k k' then K (.bool (decide (a=b))) else False
  | .neq=>bif kEq k k' then K (.bool (!decide (a=b))) else False
  | .lss=>bif kEq k k' then K (.bool (decide (a<b))) else False
  | .leq=>bif kEq k k' then K (.bool (decide (a≤b))) else False
  | .gtr=>bif kEq k k' then K (.bool (decide (b<a))) else False
  | .geq=>bif kEq k k' then K (.bool (decide (b≤a))) else False
  | .shl=>(0≤b∧b≤k.bits)∧K (.int k (k.wrap (a*2^b.toNat)))
  | .shr=>(0≤b∧b≤k.bits)∧K (.int k (a / 2^b.toNat))
 | .str a,.str b =>
  match op with
  | .add=>strl (a.length+b.length)=true∧K (.str (a++b))
  | .eql=>K (.bool (decide (a=b)))
  | .neq=>K (.bool (!decide (a=b)))
  | .lss=>K (.bool (Op.bytesLess a b))
  | .leq=>K (.bool (Op.bytesLess a b||decide (a=b)))
  | .gtr=>K (.bool (!(Op.bytesLess a b||decide (a=b))))
  | .geq=>K (.bool (!Op.bytesLess a b))
  | _=>False
 | _,_=>False
def eqCells:List Nat→List V→List V→Option Bool
 | [],[],[]=>some true
 | 0::q,.int k a::r,.int k' b::s=>bif kEq k k' then (eqCells q r s).map fun t=>decide (a=b)&&t else none
 | 1::q,.str a::r,.str b::s=>(eqCells q r s).map fun t=>decide (a=b)&&t
 | 2::q,.bool a::r,.bool b::s=>(eqCells q r s).map fun t=>(a==b)&&t
 | _,_,_=>none
def setCells (cs:List V) (off:Nat) (ys:List V):List V:=cs.take off++ys++cs.drop (off+ys.length)
def V.nany:V→Bool
 | .any|.at_ _ _=>false
 | _=>true
def fillV:List V→List (Nat×Nat×V)→Option (List V)
 | cs,[]=>some cs
 | cs,(off,n,x)::r=>bif x.nany&&Nat.beq x.cells.length n&&Nat.ble (off+n) cs.length then fillV (setCells cs off x.cells) r else none
def part (n:Option Nat) (off:Nat) (cs:List V) (K:V→Prop):Prop :=
 match n with
 | none=>match cs.drop off with
  | c::_=>K c
  | []=>False
 | some n=>bif Nat.ble (off+n) cs.length then K (.agg ((cs.drop off).take n)) else False
def okElem (k:Nat) (x:V):Bool:=Nat.beq x.cells.length k&&x.cells.all V.one&&x.sealed
def V.elems:V→Option (List V)
 | .nils=>some []
 | .sl xs=>some xs
 | _=>none
def bounds (lo hi:Bool) (len:Nat) (r:List V):Option (Int×Int) :=
 match lo,hi,r with
 | true,true,[.int _ a,.int _ b]=>some (a,b)
 | true,false,[.int _ a]=>some (a,(len:Int))
 | false,true,[.int _ b]=>some (0,b)
 | false,false,[]=>some (0,(len:Int))
 | _,_,_=>none
def subH:List Nat→(Nat→Option Obj')→Option Heap
 | [],_=>some []
 | n::r,ob=>match ob n with
  | some o=>(subH r ob).map fun H=>(n,o)::H
  | none=>none
def mem (n:Nat):List Nat→Bool
 | []=>false
 | m::r=>Nat.beq n m||mem n r
def inIds:Heap→List Nat→List Nat→Bool
 | [],_,_=>true
 | (n,_)::r,ids,news=>(mem n ids||mem n news)&&(match find n r with|none=>true|some _=>false)&&inIds r ids news
def sPick (c a b:V) (K:V→Prop):Prop :=
 match c with
 | .bool t=>match a,b with
  | .bool x,.bool y=>K (.bool (bif t then x else y))
  | _,_=>bif t then K a else K b
 | _=>False
def sLd (n:Option Nat) (a:V) (ob:Nat→Option Obj') (K L:V→Prop):Prop :=
 match a with
 | .ptr id off=>match ob id with
  | some (.cells cs _)=>part n off cs K
  | _=>False
 | .eptr x off=>part n off x.cells K
 | .optr id k i off=>match ob id with
  | some (.arr k' xs _)=>bif Nat.beq k k' then ∃x,xs[i]?=some x∧part n off x.cells L else False
  | _=>False
 | _=>False
def sSt (n:Nat) (a v:V) (ob:Nat→Option Obj') (K L:Nat→Obj'→Prop):Prop :=
 bif Nat.beq v.cells.length n&&v.cells.all V.one then
  match a with
  | .ptr id off=>match ob id with
   | some (.cells cs t)=>bif Nat.ble (off+n) cs.length then K id (.cells (setCells cs off v.cells) t) else False
   | _=>False
  | .optr id k i off=>match ob id with
   | some (.arr k' xs t)=>bif Nat.beq k k'&&v.sealed then
     (bif Nat.beq off 0&&Nat.beq n k then i<xs.length∧K id (.arr k (xs.set i v) t)
      else ∃cs,xs[i]?=some (.agg cs)∧off+n≤k∧L id (.arr k (xs.set i (.agg (setCells cs off v.cells))) t)) else False
   | _=>False
  | _=>False
 else False
def sNck (a:V) (K:V→Prop):Prop :=
 match a with
 | .ptr ..|.eptr ..|.optr ..=>K a
 | _=>False
def sMask (m:Nat) (k:IntKind) (x:V) (K:V→Prop):Prop :=
 match x with
 | .int k' a=>bif kEq k k' then K (.int k (a % 2^m)) else False
 | _=>False
def sBeq (ng:Bool) (x y:V) (K:V→Prop):Prop :=
 match x,y with
 | .bool a,.bool b=>K (.bool (bif ng then !(a==b) else a==b))
 | _,_=>False
def sEqs (ng:Bool) (ks:List Nat) (x y:V) (K:V→Prop):Prop :=
 match x,y with
 | .agg cs,.agg ds=>match eqCells ks cs ds with
  | some t=>K (.bool (bif ng then !t else t))
  | none=>False
 | _,_=>False
def sNot (x:V) (K:V→Prop):Prop :=
 match x with
 | .bool t=>K (.bool (!t))
 | _=>False
def sNeg (chk:Bool) (x:V) (K:V→Prop):Prop :=
 match x with
 | .int k a=>bif chk then rng k (-a)∧K (.int k (-a)) else K (.int k (k.wrap (0 - a)))
 | _=>False
def sI2i (chk:Bool) (k:IntKind) (x:V) (K:V→Prop):Prop :=
 match x with
 | .int _ a=>bif chk then rng k a∧K (.int k a) else K (.int k (k.wrap a))
 | _=>False
def sIdc (x:V) (K:V→Prop):Prop :=
 match x with
 | .str _=>K x
 | _=>False
def byteV (c:UInt8):V:=.int .u8 c.toNat
def sS2b (d:Nat) (x:V) (K:Eff→Prop):Prop :=
 match x with
 | .str s=>K ⟨.osl d 1 0 s.length,[],[(d,.arr 1 (s.map byteV))]⟩
 | _=>False
def sB2s (x:V) (ob:Nat→Option Obj') (K L:V→Prop):Prop :=
 match x with
 | .nils=>K (.str [])
 | .sl xs=>∃s:List UInt8,xs=s.map byteV∧L (.str s)
 | .osl id k lo n=>match ob id with
  | some (.arr k' xs _)=>bif Nat.beq k k'&&Nat.beq k 1 then ∃s:List UInt8,(xs.drop lo).take n=s.map byteV∧s.length=n∧L (.str s) else False
  | _=>False
 | _=>False
def uvT:Bool→Option TypeId
 | true=>some tyUV
 | false=>none
def sMks (x:V) (ob:Nat→Option Obj') (K:Eff→Prop):Prop :=
 match x with
 | .osl id k lo n=>match ob id with
  | some (.arr k' xs t)=>bif Nat.beq k k'&&Nat.beq k 1&&Nat.blt 0 n then K ⟨.osl id k lo n,[],[(id,.arr k' xs (tyF t))]⟩ else False
  | _=>False
 | _=>False
def sMksl (k bytes d:Nat) (z l c:V) (K:Eff→Prop):Prop :=
 match l,c with
 | .int .i64 a,.int .i64 b=>(0≤a∧a≤b∧b*bytes≤140737488355328)∧K ⟨.osl d k 0 a.toNat,[],[(d,.arr k (List.replicate a.toNat z))]⟩
 | _,_=>False
def sSls (lo hi:Bool) (x:V) (r:List V) (K:V→Prop):Prop :=
 match x with
 | .str s=>match bounds lo hi s.length r with
  | some (a,b)=>(0≤a∧a≤b∧b≤s.length)∧K (.str ((s.take b.toNat).drop a.toNat))
  | none=>False
 | _=>False
def sSlc (k:Nat) (lo hi:Bool) (x:V) (r:List V) (K:V→Prop):Prop :=
 match x with
 | .sl xs=>match bounds lo hi xs.length r with
  | some (a,b)=>(0≤a∧a≤b∧b≤xs.length)∧(∀x∈xs,x.cells.length=k)∧K (.sl ((xs.take b.toNat).drop a.toNat))
  | none=>False
 | .osl id k' l n=>match bounds lo hi n r with
  | some (a,b)=>bif Nat.beq k k' then (0≤a∧a≤b∧b≤n)∧K (.osl id k (l+a.toNat) (b.toNat - a.toNat)) else False
  | none=>False
 | _=>False
def sFad (off:Nat) (x:V) (K:V→Prop):Prop :=
 match x with
 | .ptr id o=>K (.ptr id (o+off))
 | .eptr y o=>K (.eptr y (o+off))
 | .optr id k i o=>K (.optr id k i (o+off))
 | _=>False
def sFld (n:Option Nat) (off:Nat) (x:V) (K:V→Prop):Prop :=
 match x with
 | .agg cs=>part n off cs K
 | _=>False
def sIad (k:Nat) (x i:V) (K L:V→Prop):Prop :=
 match i with
 | .int _ n=>match x with
  | .sl xs=>0≤n∧∃y,xs[n.toNat]?=some y∧y.cells.length=k∧L (.eptr y 0)
  | .osl id k' lo m=>bif Nat.beq k k' then (0≤n∧n<m)∧K (.optr id k (lo+n.toNat) 0) else False
  | _=>False
 | _=>False
def sIdx (x i:V) (K:V→Prop):Prop :=
 match x,i with
 | .str s,.int _ n=>(0≤n∧n<s.length)∧K (.int .u8 (s.getD n.toNat 0).toNat)
 | _,_=>False
def sAix (n:Option Nat) (k cnt:Nat) (x i:V) (K:V→Prop):Prop :=
 match x,i with
 | .agg cs,.int _ m=>(0≤m∧m<cnt)∧part n (m.toNat*k) cs K
 | _,_=>False
def sAad (k cnt:Nat) (x i:V) (K:V→Prop):Prop :=
 match x,i with
 | .ptr id o,.int _ m=>(0≤m∧m<cnt)∧K (.ptr id (o+m.toNat*k))
 | .eptr y o,.int _ m=>(0≤m∧m<cnt)∧K (.eptr y (o+m.toNat*k))
 | _,_=>False
def arrParts (k:Nat):Nat→List V→List (Nat×Nat×V)
 | _,[]=>[]
 | n,x::r=>(n*k,k,x)::arrParts k (n+1) r
def sLs2b (x:V) (K:V→Prop):Prop :=
 match x with
 | .str s=>K (.sl (s.map byteV))
 | _=>False
def sExt (i:Nat) (x:V) (K:V→Prop):Prop :=
 match x with
 | .tup cs=>match cs.drop i with
  | c::_=>K c
  | []=>False
 | _=>False
def sLen (s:Bool) (x:V) (K:V→Prop):Prop :=
 match x with
 | .str t=>bif s then K (.int .i64 t.length) else False
 | .nils=>bif s then False else K (.int .i64 0)
 | .sl xs=>bif s then False else K (.int .i64 xs.length)
 | .osl _ _ _ n=>bif s then False else K (.int .i64 n)
 | _=>False
def appSrc (k:Nat) (y:V) (ob:Nat→Option Obj'):Option (List V) :=
 match y with
 | .nils=>some []
 | .sl ys=>some ys
 | .osl id k' lo n=>match ob id with
  | some (.arr k'' ys _)=>bif Nat.beq k k'&&Nat.beq k k'' then some ((ys.drop lo).take n) else none
  | _=>none
 | .str s=>bif Nat.beq k 1 then some (s.map byteV) else none
 | _=>none
def vlen:V→Nat
 | .osl _ _ _ n=>n
 | _=>0
def tyJ:Option TypeId→Option TypeId→Option TypeId
 | some a,some b=>bif Nat.beq a b then some a else none
 | _,_=>none
def sApp (k bytes d:Nat) (ty:Option TypeId) (x y:V) (ob:Nat→Option Obj') (K:Eff→Prop):Prop :=
 match appSrc k y ob with
 | some ys=>vlen y≤ys.length∧match x with
  | .nils=>(ys.length*bytes≤140737488355328∧∀y∈ys,y.cells.length=k)∧K ⟨.osl d k 0 ys.length,[],[(d,.arr k ys ty)]⟩
  | .osl id k' lo n=>match ob id with
   | some (.arr k'' xs t0)=>bif Nat.beq k k'&&Nat.beq k k'' then (lo+n=xs.length∧(n+ys.length)*bytes≤140737488355328∧∀y∈ys,y.cells.length=k)∧K ⟨.osl d k 0 (n+ys.length),[id],[(d,.arr k (xs.drop lo++ys) (tyJ t0 ty))]⟩ else False
   | _=>False
  | _=>False
 | none=>False
def sMm (mx:Bool) (x y:V) (K:V→Prop):Prop :=
 match x,y with
 | .int k a,.int k' b=>bif kEq k k' then K (.int k (bif mx then max a b else min a b)) else False
 | _,_=>False
def sCall (P:Program) (f:V) (args:List V) (ids news:List Nat) (ob:Nat→Option Obj') (L:Eff→Prop):Prop :=
 match f with
 | .fn (.func n) cap=>match subH ids ob with
  | some H=>ACall P n (args++cap) H fun r H'=>(bif inIds H' ids news then L ⟨r,ids,H'⟩ else False)
  | none=>False
 | .fn (.yield n) fs=>match subH ids ob with
  | some H=>ACall P n (fs++args) H fun r H'=>(bif inIds H' ids news then L ⟨r,ids,H'⟩ else False)
  | none=>False
 | _=>False
def sBox (d:Nat) (x:V) (K:Eff→Prop):Prop :=
 match x with
 | .any=>False
 | .at_ _ _=>False
 | .agg cs=>K ⟨.ptr d 0,[],[(d,.cells cs)]⟩
 | x=>K ⟨.ptr d 0,[],[(d,.cells [x])]⟩
def evl (x:V):Eff:=⟨x,[],[]⟩
def eup (id:Nat) (o:Obj'):Eff:=⟨.any,[],[(id,o)]⟩
def keq:V→V→Bool
 | .int _ a,.int _ b=>decide (a=b)
 | .str a,.str b=>decide (a=b)
 | .bool a,.bool b=>a==b
 | _,_=>false
def mget (k:V):List (V×V)→Option V
 | []=>none
 | (a,b)::r=>bif keq k a then some b else mget k r
def mput (k v:V):List (V×V)→List (V×V)
 | []=>[(k,v)]
 | (a,b)::r=>bif keq k a then (a,v)::r else (a,b)::mput k v r
def mdel (k:V):List (V×V)→List (V×V)
 | []=>[]
 | (a,b)::r=>bif keq k a then r else (a,b)::mdel k r
def ments (x:V) (ob:Nat→Option Obj') (K:KD→List (V×V)→Prop):Prop :=
 match x with
 | .smap kd es=>K kd es
 | .omap id=>match ob id with
  | some (.map kd es)=>K kd es
  | some (.nmap _ _ kd es)=>K kd es
  | _=>False
 | _=>False
def lkuRes (ok:Bool) (z:V):Option V→V
 | none=>bif ok then .tup [z,.bool false] else z
 | some v=>bif ok then .tup [v,.bool true] else v
def nslV (m p:Nat):Option V→V
 | some (.sl xs)=>.nsl m p xs
 | _=>.nsl m p []
def lknRes (ok:Bool) (m p:Nat) (o:Option V):V:=bif ok then .tup [nslV m p o,.bool o.isSome] else nslV m p o
def V.isNilS:V→Bool
 | .nils|.sl []=>true
 | _=>false
def shutV (ob:Nat→Option Obj'):List V→Option (List V×List Nat)
 | []=>some ([],[])
 | .osl j q 0 n::r=>match ob j with
  | some (.arr q' ys _)=>bif Nat.beq q q'&&Nat.beq n ys.length then (match shutV ob r with|some p=>some (.sl ys::p.1,j::p.2)|none=>none) else none
  | _=>none
 | x::r=>bif okElem 1 x then (match shutV ob r with|some p=>some (x::p.1,p.2)|none=>none) else none
def fnz1 (ng:Bool) (x:V) (K:Eff→Prop):Prop:=match x with
 | .nilf=>K (evl (.bool (!ng)))
 | .fn (.func _) _=>K (evl (.bool ng))
 | _=>False
def roomc (lo n len m bytes:Nat):Bool:=decide (lo+n≤len)&&decide ((n+m)*bytes≤140737488355328)
theorem roomc_iff {lo n len m bytes:Nat}:roomc lo n len m bytes=true↔lo+n≤len∧(n+m)*bytes≤140737488355328:=by simp [roomc]
attribute [irreducible] roomc
def sMap (op:MapOp) (d:Nat) (vs:List V) (ob:Nat→Option Obj') (K L:Eff→Prop):Prop :=
 match op,vs with
 | .mk kd,[]=>K ⟨.omap d,[],[(d,.map kd [])]⟩
 | .lku kd ok z,[x,k]=>match x with
  | .nilm=>bif kd.is k then K (evl (lkuRes ok z none)) else False
  | .nsmap m p kd' es=>bif kd.is k&&kd'.is k&&z.isNilS then K (evl (lknRes ok m p (mget k es))) else False
  | x=>ments x ob fun kd' es=>bif kd.is k&&kd'.is k then K (evl (lkuRes ok z (mget k es))) else False
 | .up kd',[.omap id,k,v]=>match ob id with
  | some (.map kd es)=>bif kd'.is k&&kd.is k&&v.sealed then K (eup id (.map kd (mput k v es))) else False
  | _=>False
 | .del kd',[.omap id,k]=>match ob id with
  | some (.map kd es)=>bif kd'.is k&&kd.is k then K ⟨.tup [],[],[(id,.map kd (mdel k es))]⟩ else False
  | _=>False
 | .len,[x]=>match x with
  | .nilm=>K (evl (.int .i64 0))
  | x=>ments x ob fun _ es=>(es.length:Int)≤9223372036854775807∧K (evl (.int .i64 es.length))
 | .rng,[x]=>match x with
  | .nilm=>K ⟨.ptr d 0,[],[(d,.iter [] none)]⟩
  | .smap _ es=>K ⟨.ptr d 0,[],[(d,.iter es none)]⟩
  | _=>False
 | .nxt,[.ptr id 0]=>match ob id with
  | some (.iter rem _)=>(rem=[]→L ⟨.tup [.bool false],[],[(id,.iter [] none)]⟩)∧∀(i:Nat) (e:V×V),rem[i]?=some e→L ⟨.tup [.bool true,e.1,e.2],[],[(id,.iter (rem.eraseIdx i) (some e))]⟩
  | _=>False
 | .ent,[.ptr id 0]=>match ob id with
  | some (.iter _ (some e))=>K (evl (.tup [e.1,e.2]))
  | _=>False
 | .isn ng,[x]=>match x with
  | .nils=>L (evl (.bool (!ng)))
  | .sl xs=>(xs=[]→L (evl (.bool (!ng))))∧L (evl (.bool ng))
  | .osl _ _ _ n=>(n=0→L (evl (.bool (!ng))))∧L (evl (.bool ng))
  | _=>False
 | .tab i,[]=>match tabs0[i]? with
  | some d=>K (evl (.agg (d.2.2.map (V.int d.2.1))))
  | none=>False
 | .ups kd',[.omap id,k,.osl j q 0 n]=>match ob id,ob j with
  | some (.map kd es),some (.arr q' xs _)=>bif kd'.is k&&kd.is k&&(Nat.beq q q'&&Nat.beq n xs.length&&!Nat.beq id j) then K ⟨.any,[j],[(id,.map kd (mput k (.sl xs) es))]⟩ else False
  | some (.nmap z p kd es),some (.arr q' xs _)=>bif kd'.is k&&kd.is k&&(Nat.beq q q'&&Nat.beq n xs.length&&!Nat.beq id j)&&Nat.beq q p then K ⟨.any,[j],[(id,.nmap z p kd (mput k (.sl xs) es))]⟩ else False
  | _,_=>False
 | .uss,[.optr id k i 0,.osl j q 0 n]=>match ob id,ob j with
  | some (.arr k' xs t),some (.arr q' ys _)=>bif Nat.beq k 1&&Nat.beq k' 1&&(Nat.beq q q'&&Nat.beq n ys.length&&!Nat.beq id j) then i<xs.length∧K ⟨.any,[j],[(id,.arr 1 (xs.set i (.sl ys)) t)]⟩ else False
  | _,_=>False
 | .lss,vs=>match shutV ob vs with
  | some p=>K ⟨.sl p.1,p.2,[]⟩
  | none=>False
 | .ifz ng,[.ifc b]=>K (evl (.bool (bif ng then !b else b)))
 | .r2s,[.int _ a]=>asc a=true∧K (evl (.str [u8 a]))
 | .cpy q,[.osl id k 0 n,.sl ys]=>match ob id with
  | some (.arr k' xs t)=>bif Nat.beq k q&&Nat.beq k k'&&Nat.beq n xs.length then (eqn ys.length n=true∧∀y∈ys,y.cells.length=k)∧K ⟨.int .i64 n,[],[(id,.arr k ys t)]⟩ else False
  | _=>False
 | .bnd f,vs=>K (evl (.fn (.yield f) vs))
 | .fnz ng,[x]=>fnz1 ng x K
 | .mx3,[.int k a,.int k' b,.int k'' e]=>bif kEq k k'&&kEq k k'' then K (evl (.int k (max (max a b) e))) else False
 | .apc k bytes,[.osl id k' lo n,y]=>match appSrc k y ob with
  | some ys=>vlen y≤ys.length∧match ob id with
   | some (.arr k'' xs _)=>bif Nat.beq k k'&&Nat.beq k k''&&!y.has id then (roomc lo n xs.length ys.length bytes=true∧∀y∈ys,y.cells.length=k)∧K ⟨.osl d k 0 (n+ys.length),[id],[(d,.arr k ((xs.drop lo).take n++ys))]⟩ else False
   | _=>False
  | none=>False
 | _,_=>False
def stepV (P:Program) (i:MIns) (d:Nat) (vs:List V) (ob:Nat→Option Obj') (K L:Eff→Prop):Prop :=
 match i,vs with
 | .mv _,[x]=>K (evl x)
 | .pick ..,[c,a,b]=>sPick c a b fun x=>K (evl x)
 | .alloc zs t,_=>K ⟨.ptr d 0,[],[(d,.cells zs t)]⟩
 | .box _,[x]=>sBox d x K
 | .build zs ps,vs=>match fillV zs ((ps.zip vs).map fun p=>(p.1.1,p.1.2.1,p.2)) with
  | some cs=>K (evl (.agg cs))
  | none=>False
 | .bslice k _ uv,vs=>bif vs.all (okElem k) then K ⟨.osl d k 0 vs.length,[],[(d,.arr k vs (uvT uv))]⟩ else False
 | .ld n _,[a]=>sLd n a ob (fun x=>K (evl x)) (fun x=>L (evl x))
 | .st n _ _,[a,v]=>sSt n a v ob (fun id o=>K (eup id o)) (fun id o=>L (eup id o))
 | .nck _,[a]=>sNck a fun x=>K (evl x)
 | .bin chk op _ _,[x,y]=>sBin chk op x y fun r=>K (evl r)
 | .mask m _ k,[x]=>sMask m k x fun r=>K (evl r)
 | .beq ng _ _,[x,y]=>sBeq ng x y fun r=>K (evl r)
 | .eqs ng ks _ _,[x,y]=>sEqs ng ks x y fun r=>K (evl r)
 | .not _,[x]=>sNot x fun r=>K (evl r)
 | .neg chk _,[x]=>sNeg chk x fun r=>K (evl r)
 | .i2i chk k _,[x]=>sI2i chk k x fun r=>K (evl r)
 | .idc _,[x]=>sIdc x fun r=>K (evl r)
 | .s2b _,[x]=>sS2b d x K
 | .mks _,[x]=>sMks x ob K
 | .b2s _,[x]=>sB2s x ob (fun r=>K (evl r)) (fun r=>L (evl r))
 | .mkfn f _,vs=>K (evl (.fn (.func f) vs))
 | .mksl k bytes z _ _,[l,c]=>sMksl k bytes d z l c K
 | .sls _ lo hi,x::r=>sSls lo.isSome hi.isSome x r fun r=>K (evl r)
 | .slc k _ lo hi,x::r=>sSlc k lo.isSome hi.isSome x r fun r=>K (evl r)
 | .fad off _,[x]=>sFad off x fun r=>K (evl r)
 | .fld n off _,[x]=>sFld n off x fun r=>K (evl r)
 | .iad k _ _,[x,i]=>sIad k x i (fun r=>K (evl r)) (fun r=>L (evl r))
 | .idx _ _,[x,i]=>sIdx x i fun r=>K (evl r)
 | .aix n k cnt _ _,[x,i]=>sAix n k cnt x i fun r=>K (evl r)
 | .aad k cnt _ _,[x,i]=>sAad k cnt x i fun r=>K (evl r)
 | .lsl k _,vs=>bif vs.all (okElem k) then K (evl (.sl vs)) else False
 | .ls2b _,[x]=>sLs2b x fun r=>K (evl r)
 | .barr k zs _,vs=>match fillV zs (arrParts k 0 vs) with
  | some cs=>K (evl (.agg cs))
  | none=>False
 | .ext i _,[x]=>sExt i x fun r=>K (evl r)
 | .len s _,[x]=>sLen s x fun r=>K (evl r)
 | .app k bytes _ _ ty,[x,y]=>sApp k bytes d ty x y ob K
 | .mm mx _ _,[x,y]=>sMm mx x y fun r=>K (evl r)
 | .mp op _,vs=>sMap op d vs ob K L
 | .call _ _ ids news,f::args=>sCall P f args ids news ob L
 | _,_=>False
end Go.Ab
