/- The abstract layer, part 4: which instruction stands for which operation of the model. -/
import Derived.Test.YtnaeedamiaoipaaGreatDoorAbIns
set_option linter.all false
namespace Go.Ab
open Go.RowKit
def aggN (P:Program) (t:TypeId):Option (Option Nat) :=
 match P.underlying t,P.info? t with
 | some (.struct _),some i=>some (some i.size)
 | some (.array _ _),some i=>some (some i.size)
 | some _,some _=>some none
 | _,_=>none
def sizeIs (P:Program) (t:TypeId) (n:Nat):Bool :=
 match P.info? t with
 | some i=>Nat.beq i.size n
 | none=>false
def isSlice (P:Program) (t:TypeId) (k:Nat):Bool :=
 match P.underlying t with
 | some (.slice e)=>sizeIs P e k
 | _=>false
def isStrT (P:Program) (t:TypeId):Bool :=
 match P.underlying t with
 | some .string=>true
 | _=>false
def isBoolT (P:Program) (t:TypeId):Bool :=
 match P.underlying t with
 | some .bool=>true
 | _=>false
def isByteSlice (P:Program) (t:TypeId):Bool :=
 match P.underlying t with
 | some (.slice e)=>(match P.underlying e with|some (.int .u8)=>true|_=>false)&&sizeIs P e 1
 | _=>false
def partsOK (P:Program) (fs:Array Field):List (Nat×Nat×Opd)→List (Nat×Operand)→Bool
 | [],[]=>true
 | (off,n,x)::r,(i,y)::s=>(match fs[i]? with|some f=>Nat.beq f.offset off&&sizeIs P f.type n|none=>false)&&x.ok y&&partsOK P fs r s
 | _,_=>false
def elsOK:Nat→List Opd→List (Nat×Operand)→Bool
 | _,[],[]=>true
 | n,x::r,(i,y)::s=>Nat.beq i n&&x.ok y&&elsOK (n+1) r s
 | _,_,_=>false
def zeroOK (P:Program) (t:TypeId) (zs:List V):Bool :=
 match P.info? t with
 | some i=>match i.zero with
  | some z=>cOKs zs z.cells.toList
  | none=>false
 | none=>false
def flatF (rec:List Nat→List Field→Bool) (go:Nat→List Nat→Bool) (P:Program) (n:Nat) (t:TypeId) (ks:List Nat):Bool:=match P.underlying t,ks with
  | some (.int _),0::qs=>go (n+1) qs
  | some .string,1::qs=>go (n+1) qs
  | some .bool,2::qs=>go (n+1) qs
  | some (.struct fs'),qs=>match P.info? t with
   | some i=>Nat.ble i.size qs.length&&rec (qs.take i.size) fs'.toList&&!P.stoodInHeld t&&go (n+i.size) (qs.drop i.size)
   | none=>false
  | _,_=>false
def flatL (rec:List Nat→List Field→Bool) (P:Program):Nat→List Nat→List Field→Bool
 | _,ks,[]=>ks.isEmpty
 | n,ks,f::r=>Nat.beq f.offset n&&!(f.name == "_")&&flatF rec (fun n ks=>flatL rec P n ks r) P n f.type ks
def flatN (P:Program):Nat→List Nat→List Field→Bool
 | 0=>flatL (fun _ _=>false) P 0
 | d+1=>flatL (flatN P d) P 0
def eqStruct (P:Program) (ks:List Nat) (t:TypeId):Bool :=
 match P.underlying t with
 | some (.struct fs)=>flatN P 3 ks fs.toList&&!P.stoodInHeld t&&!P.eqGuardType P.depth t
 | _=>false
def sliceElem (P:Program) (t:TypeId) (k bytes:Nat):Bool :=
 match P.underlying t with
 | some (.slice e)=>match P.info? e with
  | some i=>Nat.beq i.size k&&Nat.beq i.bytes bytes&&Nat.blt 0 k&&Nat.blt 0 bytes&&(match i.zero with|some z=>Nat.beq z.cells.size k|none=>false)
  | none=>false
 | _=>false
def sliceZero (P:Program) (t:TypeId) (z:V):Bool :=
 match P.underlying t with
 | some (.slice e)=>zeroOK P e z.cells
 | _=>false
def fieldIs (P:Program) (t:TypeId) (f off:Nat):Bool :=
 match P.underlying t with
 | some (.struct fs)=>match fs[f]? with
  | some fl=>Nat.beq fl.offset off&&(match P.info? fl.type with|some i=>!Nat.beq i.size 0|none=>false)
  | none=>false
 | _=>false
def fieldAgg (P:Program) (t:TypeId) (f off:Nat) (n:Option Nat):Bool :=
 match P.underlying t with
 | some (.struct fs)=>match fs[f]? with
  | some fl=>Nat.beq fl.offset off&&decide (aggN P fl.type=some n)
  | none=>false
 | _=>false
def appType (P:Program) (t:TypeId):Bool :=
 match P.underlying t with
 | some (.slice _)|some .string=>true
 | _=>false
def appTy (P:Program) (t:TypeId):Option TypeId→Bool
 | none=>true
 | some u=>match P.underlying t with
  | some (.slice e)=>Nat.beq e u&&!Nat.beq u tyUV
  | _=>false
def arrIs (P:Program) (t:TypeId) (cnt k:Nat):Bool :=
 match P.underlying t with
 | some (.array n e)=>Nat.beq n cnt&&sizeIs P e k
 | _=>false
def isMap (P:Program) (t:TypeId) (kd:Option KD) (z:Option V):Bool :=
 match P.underlying t with
 | some (.map k e) =>
  (match kd with
   | none=>true
   | some kd=>match P.underlying k,kd with
    | some (.int i),.int j=>kEq i j
    | some .string,.str=>true
    | some .bool,.bool=>true
    | _,_=>false) &&
  (match P.underlying k with|some (.int _)|some .string|some .bool=>true|_=>false) &&
  (match z with
   | none=>true
   | some z=>match P.info? e with
    | some i=>match i.zero with
     | some u=>cOK z u
     | none=>false
    | none=>false)
 | _=>false
def Opd.isT:Opd→Bool
 | .t _=>true
 | _=>false
def mapOK (P:Program) (m:MapOp) (xs:List Opd) (op:Op):Bool :=
 match m,op with
 | .mk kd,.makeMap t none=>isMap P t (some kd) none&&(match xs with|[]=>true|_=>false)
 | .lku kd ok z,.lookup t x k c=>(match xs with|[a,b]=>a.ok x&&b.ok k|_=>false)&&(ok==c)&&isMap P t (some kd) (some z)
 | .isn ng,.binOp b t x y _=>(match xs with|[a]=>a.ok x|_=>false)&&(match b with|.eql=>!ng|.neq=>ng|_=>false)&&(match y with|.const (.slice none _ _)=>true|_=>false)&&(match P.underlying t with|some (.slice _)=>true|_=>false)
 | .tab i,.load t (.global q)=>(match xs with|[]=>true|_=>false)&&(match tabs0[i]? with|some d=>decide (P.globalNamed d.1=some q)&&decide (aggN P t=some (some d.2.2.length))|none=>false)
 | .ups kd,.mapUpdate t x k v=>(match xs with|[a,b,c]=>a.ok x&&b.ok k&&c.ok v|_=>false)&&isMap P t (some kd) none
 | .ups kd,.insert t x k v=>(match xs with|[a,b,c]=>a.ok x&&b.ok k&&c.ok v|_=>false)&&isMap P t (some kd) none
 | .uss,.store t x v=>(match xs with|[a,b]=>a.ok x&&b.ok v|_=>false)&&sizeIs P t 1
 | .lss,.buildSlice t n parts=>((match P.underlying t with
   | some (.slice e)=>sizeIs P e 1&&(match P.info? e with|some i=>i.zero.isSome|none=>false)
   | _=>false)&&Nat.blt 0 1&&Nat.beq n xs.length&&decide (n*1≤16777216)&&elsOK 0 xs parts.toList)&&xs.all Opd.isT
 | .ifz ng,.binOp b t x y _=>(match xs with|[a]=>a.ok x|_=>false)&&(match b with|.eql=>!ng|.neq=>ng|_=>false)&&(match y with|.const .nilIface=>true|_=>false)&&(match P.underlying t with|some (.interface _)=>true|_=>false)
 | .fnz ng,.binOp b t x y _=>(match xs with|[a]=>a.ok x|_=>false)&&(match b with|.eql=>!ng|.neq=>ng|_=>false)&&(match y with|.const .nilFunc=>true|_=>false)&&(match P.underlying t with|some (.func _ _ _)=>true|_=>false)
 | .bnd f,.makeFunc (.func f') first cap=>Nat.beq f f'&&Nat.beq cap.size 0&&opdsOK xs first.toList
 | .r2s,.convert s t x=>(match xs with|[a]=>a.ok x|_=>false)&&(match P.underlying s with|some (.int _)=>true|_=>false)&&isStrT P t
 | .cpy k,.call { callee:=.builtin .copy,args,argTypes }=>(match xs,args.toList,argTypes.toList with
   | [a,b],[x,y],[t,_]=>a.ok x&&b.ok y&&isSlice P t k
   | _,_,_=>false)
 | .apc k bytes,.call { callee:=.builtin .append,args,argTypes }=>(match xs,args.toList,argTypes.toList with
   | [a,b],[x,y],[t,t']=>a.ok x&&b.ok y&&sliceElem P t k bytes&&appType P t'&&appTy P t none
   | _,_,_=>false)
 | .mx3,.call { callee:=.builtin .max,args,.. }=>(match xs,args.toList with
   | [a,b,e],[x,y,z]=>a.ok x&&b.ok y&&e.ok z
   | _,_=>false)
 | .up kd,.insert t x k v=>(match xs with|[a,b,c]=>a.ok x&&b.ok k&&c.ok v|_=>false)&&isMap P t (some kd) none
 | .up kd,.mapUpdate t x k v=>(match xs with|[a,b,c]=>a.ok x&&b.ok k&&c.ok v|_=>false)&&isMap P t (some kd) none
 | .del kd,.call { callee:=.builtin .delete,args,argTypes }=>(match xs,args.toList,argTypes.toList with
   | [a,b],[x,k],[t,_]=>a.ok x&&b.ok k&&isMap P t (some kd) none
   | _,_,_=>false)
 | .len,.call { callee:=.builtin .len,args,argTypes }=>(match xs,args.toList,argTypes.toList with
   | [a],[x],[t]=>a.ok x&&isMap P t none none
   | _,_,_=>false)
 | .rng,.range t x=>(match xs with|[a]=>a.ok x|_=>false)&&isMap P t none none
 | .nxt,.next x s=>(match xs with|[a]=>a.ok x|_=>false)&&!s
 | .ent,.entry x=>(match xs with|[a]=>a.ok x|_=>false)
 | _,_=>false
def MIns.ok (P:Program) (i:MIns) (op:Op):Bool :=
 match i,op with
 | .mv x,.move y|.mv x,.assign y=>x.ok y
 | .pick c a b,.pick c' a' b'=>c.ok c'&&a.ok a'&&b.ok b'
 | .alloc zs t,.alloc e=>zeroOK P e zs&&(match t with|none=>true|some u=>Nat.beq e u&&!Nat.beq u tyUV)
 | .box x,.box _ y=>x.ok y
 | .build zs ps,.build t parts=>zeroOK P t zs&&(match P.underlying t with|some (.struct fs)=>fs.all (fun f=>(P.info? f.type).isSome)&&partsOK P fs ps parts.toList|_=>false)
 | .bslice k xs _,.buildSlice t n parts=>(match P.underlying t with
   | some (.slice e)=>sizeIs P e k&&(match P.info? e with|some i=>i.zero.isSome|none=>false)
   | _=>false)&&Nat.blt 0 k&&Nat.beq n xs.length&&decide (n*k≤16777216)&&elsOK 0 xs parts.toList
 | .lsl k xs,.buildSlice t n parts=>(match P.underlying t with
   | some (.slice e)=>sizeIs P e k&&(match P.info? e with|some i=>i.zero.isSome|none=>false)
   | _=>false)&&Nat.blt 0 k&&Nat.beq n xs.length&&decide (n*k≤16777216)&&elsOK 0 xs parts.toList
 | .ld n a,.load t b=>a.ok b&&decide (aggN P t=some n)
 | .st n a v,.store t b u=>a.ok b&&v.ok u&&sizeIs P t n
 | .nck a,.nilCheck b=>a.ok b
 | .bin _ op x y,.binOp op' _ a b _=>decide (op=op')&&x.ok a&&y.ok b
 | .mask m x k,.binOp .and _ a (.const (.int k' n)) _=>x.ok a&&kEq k k'&&decide (n=2^m - 1)&&Nat.blt m k.bits
 | .beq ng x y,.binOp op t a b _=>decide (op=if ng then .neq else .eql)&&x.ok a&&y.ok b&&isBoolT P t
 | .eqs ng ks x y,.binOp op t a b _=>decide (op=if ng then .neq else .eql)&&x.ok a&&y.ok b&&eqStruct P ks t
 | .not x,.unOp .not _ a=>x.ok a
 | .neg _ x,.unOp .neg _ a=>x.ok a
 | .i2i _ k x,.convert s d a=>x.ok a&&(P.underlying s).isSome&&(match P.underlying d with|some (.int k')=>kEq k k'|_=>false)
 | .idc x,.convert s d a=>x.ok a&&(P.underlying s).isSome&&isStrT P d
 | .s2b x,.convert s d a=>x.ok a&&isStrT P s&&isByteSlice P d
 | .ls2b x,.convert s d a=>x.ok a&&isStrT P s&&isByteSlice P d
 | .mks x,.convert s d a=>x.ok a&&Nat.beq s d&&isByteSlice P s
 | .b2s x,.convert s d a=>x.ok a&&isByteSlice P s&&isStrT P d
 | .mkfn f cap,.makeFunc (.func f') first cap'=>Nat.beq f f'&&Nat.beq first.size 0&&opdsOK cap cap'.toList
 | .mksl k bytes z l c,.makeSlice t l' c'=>l.ok l'&&c.ok c'&&sliceElem P t k bytes&&sliceZero P t z&&okElem k z
 | .sls x lo hi,.slice t a lo' hi' none=>x.ok a&&optOK lo lo'&&optOK hi hi'&&isStrT P t
 | .slc k x lo hi,.slice t a lo' hi' none=>x.ok a&&optOK lo lo'&&optOK hi hi'&&isSlice P t k
 | .fad off x,.fieldAddr t a f=>x.ok a&&fieldIs P t f off
 | .fld n off x,.field t a f=>x.ok a&&fieldAgg P t f off n
 | .iad k x i,.indexAddr t a b=>x.ok a&&i.ok b&&isSlice P t k
 | .idx x i,.index t a b=>x.ok a&&i.ok b&&isStrT P t
 | .aix n k cnt x i,.index t a b=>x.ok a&&i.ok b&&arrIs P t cnt k&&(match P.underlying t with|some (.array _ e)=>decide (aggN P e=some n)|_=>false)
 | .aad k cnt x i,.indexAddr t a b=>x.ok a&&i.ok b&&arrIs P t cnt k&&Nat.blt 1 cnt
 | .barr k zs xs,.build t parts=>zeroOK P t zs&&(match P.underlying t with|some (.array _ e)=>sizeIs P e k|_=>false)&&elsOK 0 xs parts.toList
 | .ext i x,.extract a j=>x.ok a&&Nat.beq i j
 | .len s x,.call { callee:=.builtin .len,args,argTypes }=>(match args.toList,argTypes.toList with
   | [a],[t]=>x.ok a&&(match P.underlying t with|some .string=>s|some (.slice _)=>!s|_=>false)
   | _,_=>false)
 | .app k bytes x y ty,.call { callee:=.builtin .append,args,argTypes }=>(match args.toList,argTypes.toList with
   | [a,b],[t,t']=>x.ok a&&y.ok b&&sliceElem P t k bytes&&appType P t'&&appTy P t ty
   | _,_=>false)
 | .mm mx x y,.call { callee:=.builtin b,args,.. }=>(match args.toList with
   | [u,v]=>x.ok u&&y.ok v&&decide (b=if mx then .max else .min)
   | _=>false)
 | .mp m xs,op=>mapOK P m xs op
 | .call f args _ _,.call { callee:=.value f',args:=args',.. }=>f.ok f'&&opdsOK args args'.toList
 | _,_=>false
theorem cOK_rd {S:Nat→Prop} {w:World}:∀{x:V} {v:Value},cOK x v=true→Rd S w v x
 | .bool b,v,h=>by
  cases v<;>simp [cOK] at h
  subst h;exact .bool _
 | .int k n,v,h=>by
  cases v<;>simp [cOK] at h
  rename_i k' n'
  obtain ⟨⟨⟨h1,h2⟩,h3⟩,h4⟩:=h
  have:=kEq_eq h1;subst this;subst h2
  exact .int _ _ ⟨h3,h4⟩
 | .str s,v,h=>by
  cases v<;>simp [cOK] at h
  rename_i s'
  obtain ⟨h1,h2⟩:=h
  subst h1
  refine .str s' ?_
  have e1:s'.size=s'.data.toList.length:=by rw [Array.length_toList];rfl
  rw [e1,maxLen]
  exact Nat.le_trans h2 (by decide)
 | .nils,v,h=>by
  unfold cOK at h
  split at h<;>simp_all
  exact .nils
 | .ifc b,v,h=>by
  unfold cOK at h
  split at h<;>simp_all
  exact .ifcn
 | .nilp,v,h=>by
  unfold cOK at h
  split at h<;>simp_all
  exact .nilp
 | .nilm,v,h=>by
  unfold cOK at h
  split at h<;>simp_all
  exact .nilm
 | .nilf,v,h=>by
  unfold cOK at h
  split at h<;>simp_all
  exact .nilf
 | .nili,v,h=>by
  unfold cOK at h
  split at h<;>simp_all
  exact .nili
 | .agg cs,v,h=>by
  cases v<;>simp [cOK] at h
  rename_i vs
  have key:∀(cs:List V) (vs:List Value),cOKs cs vs=true→vs.length=cs.length∧∀(i:Nat) (c:V),cs[i]?=some c→∃u,vs[i]?=some u∧cOK c u=true:=by
   intro cs
   induction cs with
   | nil=>intro vs h;cases vs<;>simp [cOKs] at h ⊢
   | cons c cs ih =>
    intro vs h
    cases vs with
    | nil=>simp [cOKs] at h
    | cons u vs =>
     simp only [cOKs,Bool.and_eq_true] at h
     obtain ⟨h1,h2⟩:=ih vs h.2
     refine ⟨by simp [h1],fun i c' hc=>?_⟩
     cases i with
     | zero=>simp at hc;subst hc;exact ⟨u,rfl,h.1⟩
     | succ i=>simp at hc ⊢;exact h2 i c' hc
  obtain ⟨h1,h2⟩:=key cs vs.toList h
  refine .agg vs cs (by simpa using h1) fun i c hc=>?_
  obtain ⟨u,hu,hok⟩:=h2 i c hc
  have hm:c∈cs:=List.mem_of_getElem? hc
  have:vs.getD i undef=u:=by
   simp only [Array.getElem?_toList] at hu
   simp [Array.getD_eq_getD_getElem?,hu]
  rw [this]
  exact cOK_rd hok
 | .tup _,v,h=>by simp [cOK] at h
 | .sl [],v,h=>by
  unfold cOK at h
  split at h<;>simp_all
  exact .nilsl
 | .sl (_::_),v,h=>by simp [cOK] at h
 | .ptr _ _,v,h=>by simp [cOK] at h
 | .eptr _ _,v,h=>by simp [cOK] at h
 | .osl _ _ _ _,v,h=>by simp [cOK] at h
 | .optr _ _ _ _,v,h=>by simp [cOK] at h
 | .omap _,v,h=>by simp [cOK] at h
 | .bptr _,v,h=>by simp [cOK] at h
 | .fn _ _,v,h=>by simp [cOK] at h
 | .any,v,h=>by simp [cOK] at h
termination_by x=>(SizeOf.sizeOf x:Nat)
decreasing_by
 have:=List.sizeOf_lt_of_mem hm
 simp_all
 omega
end Go.Ab
