/- What the functions of this seat that lie on the laws' road compute (part XM), each for every input. By AI agents. -/
import Derived.Test.YtnaeedamiaoipaaGreatDoorProg
import Derived.KernelRfl
import Derived.Test.YtnaeedamiaoipaaGreatDoorSL
import Derived.Test.YtnaeedamiaoipaaGreatDoorAbMC
import Derived.RangeFuncBox
import Derived.RangeFuncLeaves
import Derived.Shelf.Abstract
import Derived.WalkKit
import Derived.OwnWalkIn
import Derived.TacticsInMore
import Derived.LoopNIn
import Derived.LoopIn
import Derived.Lib.Bytealg
import Derived.Deep.LoopGhost
import Derived.Laws.RangeAny
import Derived.Lib.OthersKept
import Derived.Deep.OwnRows
set_option linter.all false
namespace Go.Ab
def a1g:Str→List Str
 | []=>[]
 | c::r=>bif c==10 then [c]::a1g r else match a1g r with
  | []=>[[c]]
  | l::q=>(c::l)::q
theorem indexByte_ge (c:UInt8):∀s:Str,-1≤Lib.indexByte s c∧(Lib.indexByte s c)<s.length
 | []=>by simp [Lib.indexByte]
 | b::r=>by
  have ih:=indexByte_ge c r
  simp only [Lib.indexByte]
  split
  ·simp
  ·split<;>simp<;>omega
theorem b4j:∀{s:Str},s≠[]→a1g s=bif decide (0≤Lib.indexByte s 10) then s.take (Lib.indexByte s 10+1).toNat::a1g (s.drop (Lib.indexByte s 10+1).toNat) else [s]
 | [],h=>absurd rfl h
 | c :: r,_=>by
  have hge:=indexByte_ge 10 r
  simp only [a1g,Lib.indexByte]
  by_cases hc:c=10
  ·subst hc;simp
  ·have hc':(c==10)=false:=by simpa using hc
   simp only [hc',cond_false,Bool.false_eq_true,if_false]
   by_cases hr:r=[]
   ·subst hr;simp [a1g,Lib.indexByte]
   ·rw [b4j hr]
    by_cases hi:Lib.indexByte r 10=-1
    ·simp [hi]
    ·have h0:0≤Lib.indexByte r 10:=by omega
     have e1:(Lib.indexByte r 10==-1)=false:=by simpa using hi
     have e2:(Lib.indexByte r 10+1+1).toNat=(Lib.indexByte r 10+1).toNat+1:=by omega
     simp only [e1,if_false,h0,Bool.false_eq_true]
     have h1:0≤Lib.indexByte r 10+1:=by omega
     simp only [h0,h1,decide_true,cond_true,e2,List.take_succ_cons,List.drop_succ_cons]
def d1f (b:Nat) (W:World):Nat:=((W.heap[b]?).bind fun o=>match o with|.cells cur _ _=>some (match cur.getD 0 undef with|.string x=>x.size|_=>0)|_=>none).getD 0
theorem b0u {b:Nat} {W:World} {x:ByteArray} {e:TypeId} {fz:Nat×Nat} (h:W.heap[b]?=some (.cells #[.string x] e fz)):d1f b W=x.size:=by simp [d1f,h]
end Go.Ab
namespace Go.Proofs
open Go.RowKit Go.Shelf Go.Ab
attribute [local go_sem] Oper.semAt_some
set_option maxRecDepth 100000 in
set_option maxHeartbeats 2000000 in
theorem c9n (F0:Fence) (n:Nat) (h8:F0.fn 112) (h9:F0.fn 113) (hn:1≤n) (l b:Nat) (e:TypeId) (fz:Nat×Nat) (s:Str) (J:Nat→World→Prop) (Jx:World→Prop)
  (hix:∀(s:ByteArray) (w:World),CallsIn { F0 with round:=none } (n - 1) Tryz.prog 113 #[.string s,.int .u8 10] w fun e w'=>e=.returned (.int .i64 (Lib.indexByte s.data.toList 10))∧w'=w)
  (hfz:∀(W:World) cur,W.heap[b]?=some (.cells cur e fz)→W.frozen? ⟨b,0,none⟩=false)
  (hst:∀k W W',J k W→W'.os=W.os→W'.tape=W.tape→W'.output=W.output→W'.heap.size=W.heap.size→(∀c,c≠b→W'.heap[c]?=W.heap[c]?)→J k W')
  (hY:∀k x W,(a1g s)[k]?=some x→J k W→YieldAt { F0 with round:=none } (n - 1) Tryz.prog l #[.string ⟨x.toArray⟩] W fun e W' =>
   (e=.returned (.bool true)∧J (k+1) W'∧W'.heap[b]?=W.heap[b]?)∨(e=.returned (.bool false)∧Jx W'))
  (W:World) (h0:J 0 W) (hsm:s.length≤9223372036854775807) (hb:W.heap[b]?=some (.cells #[.string ⟨s.toArray⟩] e fz)) :
  CallsIn { F0 with round:=none } n Tryz.prog 112 #[.func (.yield l) #[] #[],.pointer (some ⟨b,0,none⟩)] W fun e W'=>(∃v,e=.returned v)∧(J (a1g s).length W'∨Jx W'):=by
 refine callsIn_of_wp Tryz.func112 rfl h8 ?_ rfl
 simp only [Tryz.ntmps112,List.size_toArray,List.length_cons,List.length_nil,Nat.reduceAdd,Nat.reduceSub,Array.replicate_succ,Array.replicate_zero,List.push_toArray,List.append_toArray,List.nil_append,List.cons_append]
 gi_wp2
 gi_loopw [] (fun wr=>∃(k:Nat) (rest:Str),wr.heap[b]?=some (.cells #[.string ⟨rest.toArray⟩] e fz)∧rest.length≤s.length∧k≤(a1g s).length∧a1g rest=(a1g s).drop k∧J k wr) (fun wr=>d1f b wr)
 case atStart =>
  exact ⟨0,s,hb,Nat.le_refl _,Nat.zero_le _,by simp,h0⟩
 case round =>
  obtain ⟨k,rest,hbk,hrl,hkl,hrk,hJk⟩:=hrel
  have hcell:wr.cell? ⟨b,0,none⟩=some (.string ⟨rest.toArray⟩):=by simp [World.cell?,hbk]
  have hfr:=hfz wr _ hbk
  by_cases hr:rest=[]
  ·subst hr
   gi_wp2
   go_end0
   have hk:k=(a1g s).length:=by
    have:=congrArg List.length hrk
    simp [a1g] at this
    omega
   subst hk
   exact ⟨⟨_,rfl⟩,.inl hJk⟩
  ·have hpos:0<rest.length:=List.length_pos_iff.2 hr
   have hw3:∀v:Value,(wr.setCell ⟨b,0,none⟩ v).heap[b]?=some (.cells #[v] e fz):=fun v=>by
    simp [World.setCell,Array.getElem?_modify,hbk]
   have hJ3:∀v:Value,J k (wr.setCell ⟨b,0,none⟩ v):=fun v=>hst k wr _ hJk rfl rfl rfl (by simp) fun c hc=>by
    simp only [World.setCell,Array.getElem?_modify]
    rw [if_neg fun e=>hc e.symm]
   have hstep:=b4j hr
   rw [hrk] at hstep
   have hge:=indexByte_ge 10 rest
   by_cases hi:0≤Lib.indexByte rest 10
   ·obtain ⟨j,hj⟩:∃j:Nat,Lib.indexByte rest 10=j:=⟨_,(Int.toNat_of_nonneg hi).symm⟩
    have hjl:j<rest.length:=by omega
    have hj1:(j:Int)+1≤rest.length:=by omega
    have hj2:(0:Int)≤(j:Int)+1:=by omega
    have hj3:j+1≤rest.length:=by omega
    have hjm:(j:Int)+1≤9223372036854775807:=by omega
    have hjt:((j:Int)+1).toNat=j+1:=by omega
    have hix':∀w:World,CallsIn { F0 with round:=none } (n - 1) Tryz.prog 113 #[.string ⟨rest.toArray⟩,.int .u8 10] w fun e w'=>e=.returned (.int .i64 (j:Int))∧w'=w:=fun w=>by
     have:=hix ⟨rest.toArray⟩ w
     simp only [hj] at this
     exact this
    gi_wp2_with (gi_at_call 113;refine (hix' _).mono ?_;rintro e w' ⟨rfl,rfl⟩)
    gi_region
    have e1:(⟨rest.toArray⟩:ByteArray).extract 0 (j+1)=⟨(rest.take (j+1)).toArray⟩:=by
     apply ByteArray.ext
     simp
    have e2:(⟨rest.toArray⟩:ByteArray).extract (j+1) (List.length rest)=⟨(rest.drop (j+1)).toArray⟩:=by
     apply ByteArray.ext
     simp only [ByteArray.data_extract,List.extract_toArray,List.extract_eq_take_drop]
     rw [List.take_of_length_le (by simp)]
    rw [e1,e2]
    have hst2:(a1g s).drop k=rest.take (j+1)::a1g (rest.drop (j+1)):=by
     rw [hstep,decide_eq_true hi,hj,hjt];rfl
    have hx:(a1g s)[k]?=some (rest.take (j+1)):=by
     have:((a1g s).drop k)[0]?=some (rest.take (j+1)):=by rw [hst2];rfl
     simpa using this
    have hd:(a1g s).drop (k+1)=a1g (rest.drop (j+1)):=by
     rw [←List.drop_drop,hst2];rfl
    have hJ5:J k (w'.setCell ⟨b,0,none⟩ (.string ⟨(rest.drop (j+1)).toArray⟩)).drew:=hst k _ _ (hJ3 _) rfl rfl rfl rfl fun c hc=>rfl
    have hw5:(w'.setCell ⟨b,0,none⟩ (.string ⟨(rest.drop (j+1)).toArray⟩)).drew.heap[b]?=some (.cells #[.string ⟨(rest.drop (j+1)).toArray⟩] e fz):=hw3 _
    obtain ⟨fn,tmps,assign,body,hy,hR⟩:=hY k _ _ hx hJ5
    generalize hWW:(w'.setCell ⟨b,0,none⟩ (.string ⟨(rest.drop (j+1)).toArray⟩)).drew=WW at *
    gi_wp2
    refine hR.mono ?_
    rintro en W3 (⟨rfl,hJ4,hb4⟩|⟨rfl,hJx4⟩)
    ·rw [hw5] at hb4
     gi_wp2
     go_roundw
     case rel =>
      refine ⟨k+1,rest.drop (j+1),hb4,by simp;omega,?_,hd.symm,hJ4⟩
      exact (List.getElem?_eq_some_iff.1 hx).1
     case measure =>
      rw [b0u hb4,b0u hbk]
      show (rest.drop (j+1)).toArray.size<rest.toArray.size
      simp;omega
    ·gi_wp2
     refine bodyPost_ret (results_none rfl _ _ _) rfl ?_
     exact ⟨⟨_,rfl⟩,.inr hJx4⟩
   ·have hx:(a1g s)[k]?=some rest:=by
     have:((a1g s).drop k)[0]?=some rest:=by rw [hstep];simp [hi]
     simpa using this
    have hd:(a1g s).drop (k+1)=[]:=by
     rw [←List.drop_drop,hstep];simp [hi]
    obtain ⟨fn,tmps,assign,body,hy,hR⟩:=hY k rest _ hx (hJ3 (.string ⟨#[]⟩))
    gi_wp2_with (gi_at_call 113;refine (hix _ _).mono ?_;rintro e w' ⟨rfl,rfl⟩)
    refine hR.mono ?_
    rintro en W3 (⟨rfl,hJ4,hb4⟩|⟨rfl,hJx4⟩)
    ·rw [hw3] at hb4
     gi_wp2
     go_roundw
     case rel =>
      refine ⟨k+1,[],hb4,Nat.zero_le _,?_,by rw [hd];rfl,hJ4⟩
      exact (List.getElem?_eq_some_iff.1 hx).1
     case measure =>
      rw [b0u hb4,b0u hbk]
      show (#[]:Array UInt8).size<rest.toArray.size
      simpa using hpos
    ·gi_wp2
     refine bodyPost_ret (results_none rfl _ _ _) rfl ?_
     exact ⟨⟨_,rfl⟩,.inr hJx4⟩
end Go.Proofs
namespace Go.Ab
open Go.RowKit Go.Proofs
theorem b4k:∀{s x:Str},x∈a1g s→x.length≤s.length
 | [],x,h=>by cases h
 | c::r,x,h=>by
  simp only [a1g] at h
  by_cases hc:(c==10)=true
  ·rw [hc,cond_true] at h
   rcases List.mem_cons.1 h with rfl|h
   ·simp
   ·have:=b4k h;simp;omega
  ·rw [Bool.not_eq_true] at hc
   rw [hc,cond_false] at h
   have ih:=fun z hz=>b4k (s:=r) (x:=z) hz
   generalize a1g r=q at h ih
   cases q with
   | nil=>simp at h;subst h;simp
   | cons l t =>
    rcases List.mem_cons.1 h with rfl|h
    ·have:=ih l (by simp);simp;omega
    ·have:=ih x (by simp [h]);simp;omega
theorem g8s (id:Nat) (s:Str):b8k Tryz.prog 112 [.ptr id 0] [(id,.cells [.str s])] ((a1g s).map fun a=>[.str a]):=by
 refine ⟨by kernel_rfl,fun g w lb hH hlb hv l J Jx hJ hJx hY h0=>a6n (r:=none) (n:=0) (a8w (r:=none) (n:=1) ?_)⟩
 have hv0:=(hv 0 _ rfl).ptr_inv
 have hlbe:lb=#[lb.getD 0 undef]:=by
  have:lb.size=1:=hlb
  apply Array.ext
  ·simp [this]
  ·intro i h1 h2
   have:i=0:=by omega
   subst this
   simp only [List.getElem_toArray,List.getElem_cons_zero]
   rw [Array.getD_eq_getD_getElem?,Array.getElem?_eq_getElem h1,Option.getD_some]
 rw [hlbe,hv0]
 have hfind:find id ([(id,.cells [.str s])]:Heap)=some (.cells [.str s]):=by simp [find]
 obtain ⟨hn,cur,e,fz,h1,h2,⟨h3,h4⟩,h5⟩:=hH.obj id _ hfind
 have hp0:=h5 0 _ rfl
 have hblk:∀b,d5s g [(id,.cells [.str s])] b↔b=g.ρ id:=fun b=>by
  constructor
  ·rintro ⟨i,o,hi,hni,rfl⟩
   have:i=id:=by
    simp only [find] at hi
    cases hb:Nat.beq i id with
    | true=>exact Nat.eq_of_beq_eq_true hb
    | false=>rw [hb] at hi;cases hi
   rw [this]
  ·rintro rfl;exact ⟨id,_,hfind,hn,rfl⟩
 have hS:¬g.S (g.ρ id):=hH.sep id _ hfind hn
 simp only [List.length_cons,List.length_nil,Nat.zero_add] at h2
 obtain ⟨ba,hba,hsz,hbs⟩:∃ba:ByteArray,cur.getD 0 undef=.string ba∧ba.size≤maxLen∧ba=⟨s.toArray⟩:=by
  obtain ⟨t,e1,e2,e3⟩:=hp0.str_inv
  exact ⟨t,e1,e3,by subst e2;simp⟩
 have hcur:cur=#[.string ⟨s.toArray⟩]:=by
  apply Array.ext
  ·simp [h2]
  ·intro i q1 q2
   have:i=0:=by omega
   subst this
   rw [Array.getD_eq_getD_getElem?,Array.getElem?_eq_getElem q1,Option.getD_some] at hba
   rw [hba,hbs];rfl
 subst hcur
 have hlen:s.length≤maxLen:=by
  rw [hbs] at hsz
  have:(⟨s.toArray⟩:ByteArray).size=s.length:=by show s.toArray.size=_;simp
  omega
 have hK:∀W W',a2d g.S w W→(∀c,c≠g.ρ id→W'.heap[c]?=W.heap[c]?)→a2d g.S w W':=fun W W' h hc b hb=>(hc b fun e=>hS (e▸hb)).trans (h b hb)
 rw [List.length_map]
 refine (c9n Fence.wide 1 trivial trivial (Nat.le_refl _) l (g.ρ id) e fz s (fun k W=>J k W∧a2d g.S w W) Jx ?_ ?_ ?_ ?_ w ⟨h0,fun _ _=>rfl⟩ (by unfold maxLen at hlen;omega) h1).mono fun e W' ⟨h1,h2⟩=>⟨h1,h2.imp And.left fun h=>h⟩
 ·intro q W
  refine (a6n (r:=none) (n:=0) (Tryz.strings_IndexByte q 10 W)).mono ?_
  rintro en W' ⟨rfl,rfl⟩
  exact ⟨rfl,rfl⟩
 ·intro W cur' hc
  have:=h3.at (i:=0) (by omega)
  simp only [World.frozen?,hc]
  exact this
 ·rintro k W W' ⟨hj,hk⟩ a1 a2 a3 a4 a5
  exact ⟨hJ k W W' hj ⟨a1,a2,a3,by omega,fun b _ hb=>a5 b fun e=>hb ((hblk b).2 e)⟩,hK W W' hk a5⟩
 ·rintro k x W hx ⟨hj,hk⟩
  obtain ⟨fn,tmps,assign,body,hy,hR⟩:=(hY k [.str x] W #[.string ⟨x.toArray⟩] (by rw [List.getElem?_map,hx];rfl) rfl (fun i y hy=>by
   match i with
   | 0 =>
    simp at hy;subst hy
    have hm:x.length≤s.length:=b4k (List.mem_of_getElem? hx)
    exact c3c x (Nat.le_trans hm hlen)
   | i+1=>simp at hy) hj)
  refine ⟨fn,tmps,assign,body,hy,hR.mono ?_⟩
  ·rintro en W' (⟨rfl,hj',hkp,hb⟩|⟨rfl,hx'⟩)
   ·exact .inl ⟨rfl,⟨hj',fun b hb=>(hkp b hb).trans (hk b hb)⟩,hb _ ((hblk _).2 rfl)⟩
   ·exact .inr ⟨rfl,hx'⟩
def g0a (_:Str):Option Unit:=some ()
set_option maxRecDepth 100000 in
theorem c62 (s:ByteArray) (w:World):Calls Tryz.prog 74 #[.string s] w fun e w'=>e=.returned (.func (.func 112) #[] #[.pointer (some ⟨w.heap.size,0,none⟩)])∧w'=w.alloc (.cells #[.string s] 9):=by
 go_enter Tryz.func74,Tryz.ntmps74
 go_wp2
 go_ret
 exact ⟨rfl,rfl⟩
theorem g8r {s:Str} {y:Unit} (hy:g0a s=some y):a0o Tryz.prog 74 [.str s] [] (fun r H=>r=.fn (.func 112) [.ptr 1900 0]∧H=[(1900,.cells [.str s])]):=by
 refine a1y ⟨.fn (.func 112) [.ptr 1900 0],[],[(1900,.cells [.str s])]⟩ (by kernel_rfl) fun g w vals hH hl hv=>?_
 obtain ⟨t,e1,e2,e3⟩:=(hv 0 _ rfl).str_inv
 rw [e5v hl,e1]
 refine (c62 t w).mono ?_
 rintro en w' ⟨rfl,rfl⟩
 have hg:(g.set 1900 w.heap.size 0 0).ρ 1900=w.heap.size:=by simp [Gh.set]
 refine ⟨_,g.set 1900 w.heap.size 0 0,rfl,a07.alloc _ 1900 0 0 _ (.cells #[.string t] 9) hH.lt rfl rfl rfl rfl ?_,a15.one rfl rfl (fun m o' hm _=>by cases hm),?_⟩
 ·refine ⟨by simp [Gh.set],#[.string t],9,(0,0),?_,rfl,⟨?_,trivial⟩,fun i c hc=>?_⟩
  ·rw [hg];exact World.alloc_heap_new w _
  ·exact .inl rfl
  ·match i with
   | 0 =>
    simp at hc;subst hc;subst e2
    exact .rd (.str t e3)
   | i+1=>simp at hc
 ·refine .fn _ _ _ rfl fun i c hc=>?_
  match i with
  | 0 =>
   simp at hc;subst hc
   have:=VR.ptr (g:=g.set 1900 w.heap.size 0 0) (w:=w.alloc (.cells #[.string t] 9)) 1900 0
   rw [hg] at this
   exact this
  | i+1=>simp at hc
theorem g0d {id:Nat} {o:a0g} {h:Heap} (e:find id h=none):∀q∈([(id,o)]:Heap),find q.1 h=none:=fun q hq=>by
 rw [List.mem_singleton] at hq
 subst hq;exact e
end Go.Ab
namespace Go.Ab
def letters (s:Str):Bool:=s.all fun c=>decide (97≤c.toNat)&&decide (c.toNat≤122)
def a2x (s:Str) (m:Int):Bool:=letters s&&(decide (1≤(s.length:Int))&&decide ((s.length:Int)≤m))
def b98 (s:Str) (m:Int):Option Bool:=some (a2x s m)
theorem b9h {s:Str} {c:UInt8}:letters (s++[c])=(letters s&&(decide (97≤c.toNat)&&decide (c.toNat≤122))):=by simp [letters]
theorem a9f {s r:Str} {c:UInt8} (h:c.toNat<97∨122<c.toNat):letters (s++c::r)=false:=by
 simp only [letters,List.all_append,List.all_cons]
 have:(decide (97≤c.toNat)&&decide (c.toNat≤122))=false:=by
  rcases h with h|h
  ·rw [decide_eq_false (by omega),Bool.false_and]
  ·rw [decide_eq_false (p:=c.toNat≤122) (by omega),Bool.and_false]
 rw [this];simp
end Go.Ab
namespace Go.Proofs
open Go.Shelf Go.RowKit Go.Ab
theorem d1b (s:ByteArray) (pos:Nat) (h:pos<s.size):s.data.toList=s.data.toList.take pos++(s[pos]'h)::s.data.toList.drop (pos+1):=by
 have hl:pos<s.data.toList.length:=by rw [Array.length_toList];exact h
 conv=>lhs;rw [←List.take_append_drop pos s.data.toList,List.drop_eq_getElem_cons hl]
 rfl
theorem c6q (s:ByteArray) (pos:Nat) (h:pos<s.size):s.data.toList.take (pos+1)=s.data.toList.take pos++[s[pos]'h]:=by
 have hl:pos<s.data.toList.length:=by rw [Array.length_toList];exact h
 rw [List.take_succ_eq_append_getElem hl];rfl
set_option maxHeartbeats 6400000 in
set_option maxRecDepth 1000000 in
theorem Tryz.named_walk (s:ByteArray) (m:Int) (w:World) :
  Calls Tryz.prog 110 #[.string s,.int .i64 m] w fun e w'=>e=.returned (.bool (a2x s.data.toList m))∧Below w.heap.size w w':=by
 have hsl:s.data.toList.length=s.size:=Array.length_toList
 go_enter Tryz.func110,Tryz.ntmps110
 go_wp2
 go_loopw [6] (fun _ wr=>∃pos:Nat,wr.heap[w.heap.size]?=some (.stringIter s pos)∧Below w.heap.size w wr∧pos≤s.size∧letters (s.data.toList.take pos)=true) (fun _ wr=>s.size - wr.iterPos w.heap.size)
 case atStart =>
  exact ⟨0,World.iter_heap w s 0,((Below.refl _ w).alloc (Nat.le_refl _) _),Nat.zero_le _,by simp [letters]⟩
 case round =>
  obtain ⟨pos,hit,hbw,hps,hlt⟩:=hrel
  have hsz:w.heap.size<wr.heap.size:=(Array.getElem?_eq_some_iff.1 hit).1
  by_cases hp:pos<s.size
  ·have hcut:=d1b s pos hp
   have htk:=c6q s pos hp
   have hit2:=fun p=>Lib.iterAt_heap wr w.heap.size s pos p hit
   have hbw2:=fun p=>Lib.below_iterAt hbw (k:=w.heap.size) (Nat.le_refl _) s p
   by_cases ha:(s[pos]'hp).toNat<128
   ·have hnx:∀ty,(Instr.next (.pointer (some ⟨w.heap.size,0,none⟩)) true ty).run Tryz.prog wr=_:=fun ty=>Lib.run_next_ascii_at wr w.heap.size s pos ty hit hp ha
    by_cases h1:(s[pos]'hp).toNat<97
    ·have e1:decide (((s[pos]'hp).toNat:Int)<97)=true:=decide_eq_true (by omega)
     go_wp2
     go_ret
     exact ⟨by rw [a2x,hcut,a9f (.inl h1)];rfl,hbw2 _⟩
    ·have e1:decide (((s[pos]'hp).toNat:Int)<97)=false:=decide_eq_false (by omega)
     by_cases h2:122<(s[pos]'hp).toNat
     ·have e2:decide (((s[pos]'hp).toNat:Int) > 122)=true:=decide_eq_true (by omega)
      go_wp2
      go_ret
      exact ⟨by rw [a2x,hcut,a9f (.inr h2)];rfl,hbw2 _⟩
     ·have e2:decide (((s[pos]'hp).toNat:Int) > 122)=false:=decide_eq_false (by omega)
      go_wp2
      go_roundw
      case rel=>exact ⟨pos+1,hit2 _,hbw2 _,by omega,by rw [htk,b9h,hlt,decide_eq_true (p:=97≤(s[pos]'hp).toNat) (by omega),decide_eq_true (p:=(s[pos]'hp).toNat≤122) (by omega)];rfl⟩
      case measure =>
       simp only [World.iterPos,hit2,hit]
       omega
   ·have hnx:∀ty,(Instr.next (.pointer (some ⟨w.heap.size,0,none⟩)) true ty).run Tryz.prog wr=_:=fun ty=>Lib.run_next_any_at wr w.heap.size s pos ty hit hp
    obtain ⟨hr,_⟩:=decode_high s pos hp (by omega)
    generalize Utf8.decode s pos=d at hnx hr
    have e1:decide ((d.1:Int)<97)=false:=decide_eq_false (by omega)
    have e2:decide ((d.1:Int) > 122)=true:=decide_eq_true (by omega)
    go_wp2
    go_ret
    exact ⟨by rw [a2x,hcut,a9f (.inr (by omega))];rfl,hbw2 _⟩
  ·have hnx:∀ty,(Instr.next (.pointer (some ⟨w.heap.size,0,none⟩)) true ty).run Tryz.prog wr=_:=fun ty=>Lib.run_next_end_at wr w.heap.size s pos ty hit hp
   have hall:letters s.data.toList=true:=by
    rw [List.take_of_length_le (by omega)] at hlt;exact hlt
   by_cases h1:1≤s.size
   ·have e1:decide ((s.size:Int)≥1)=true:=decide_eq_true (by omega)
    go_wp2
    go_ret
    exact ⟨by rw [a2x,hall,hsl,decide_eq_true (p:=1≤(s.size:Int)) (by omega)];rfl,hbw⟩
   ·have e1:decide ((s.size:Int)≥1)=false:=decide_eq_false (by omega)
    go_wp2
    go_ret
    exact ⟨by rw [a2x,hall,hsl,decide_eq_false (p:=1≤(s.size:Int)) (by omega)];rfl,hbw⟩
end Go.Proofs
namespace Go.Ab
open Go.Proofs
theorem g8q {s:Str} {m:Int} {y:Bool} (hy:b98 s m=some y):a0o Tryz.prog 110 [.str s,.int .i64 m] [] (fun r H=>r=.bool y∧H=[]):=by
 obtain rfl:=Option.some.inj hy
 refine a1y ⟨.bool (a2x s m),[],[]⟩ (by kernel_rfl) fun g w vals hH hl hv=>?_
 obtain ⟨t,e1,e2,e3⟩:=(hv 0 _ rfl).str_inv
 have ha:vals=#[vals.getD 0 undef,vals.getD 1 undef]:=by
  apply Array.ext
  ·simpa using hl
  ·intro i h1 h2
   have:i=0∨i=1:=by simp at h2;omega
   rcases this with rfl|rfl<;>simp [Array.getD_eq_getD_getElem?,h1]
 rw [ha,e1,(hv 1 _ rfl).int_inv.1]
 refine (Tryz.named_walk t m w).mono ?_
 rintro en w' ⟨rfl,hb⟩
 refine ⟨_,g,rfl,a07.grown _ [] hH.lt hb.os hb.tape hb.output hb.size (fun b h _=>hb.block b h),a15.none _ _,?_⟩
 rw [e2];exact .rd (.bool _)
instance f6h {s:Str} {m:Int}:WI (b98 s m) Tryz.prog 110 [.str s,.int .i64 m] [] (fun y=>.bool y) (fun y=>[]):=⟨fun Q Q' h hQ=>by obtain ⟨y,hy,hq⟩:=h;exact (g8q hy).mono fun r H' e=>by rw [e.1,e.2];exact hQ y hq⟩
end Go.Ab
namespace Go.Proofs
open Go.RowKit Go.Shelf
attribute [local go_sem] Oper.semAt_some
set_option maxRecDepth 100000 in
set_option maxHeartbeats 1000000 in
theorem d8d (F:Fence) (n:Nat) (h5:F.fn 39) (hro:F.round=none) (a:Option Addr) (len cap:Nat) (w:World) :
  CallsIn F n Tryz.prog 39 #[.slice a len cap] w fun e w'=>e=.returned (.func (.func 84) #[] #[.pointer (some ⟨w.heap.size,0,none⟩)])∧w'=w.alloc (.cells #[.slice a len cap] 43):=by
 refine callsIn_of_wp Tryz.func39 rfl h5 ?_ hro
 simp only [Tryz.ntmps39,List.size_toArray,List.length_cons,List.length_nil,Nat.reduceAdd,Nat.reduceSub,Array.replicate_succ,Array.replicate_zero,List.push_toArray,List.append_toArray,List.nil_append,List.cons_append]
 gi_wp2
 go_ret
 exact ⟨rfl,rfl⟩
set_option maxRecDepth 100000 in
set_option maxHeartbeats 2000000 in
theorem d2g (F:Fence) (n:Nat) (h8:F.fn 84) (hro:F.round=none) (hn:1≤n) (l bb bo b off len cap:Nat) (cs:Nat→Value) (hlen:len≤9223372036854775807) (J:Nat→World→Prop) (Jx:World→Prop)
  (hbox:∀k W,J k W→W.cell? ⟨bb,bo,none⟩=some (.slice (some ⟨b,off,none⟩) len cap))
  (hld:∀k W,J k W→∀i,i<len→W.cell? ⟨b,off+i,none⟩=some (cs i))
  (hY:∀k W,J k W→k<len→YieldAt F (n - 1) Tryz.prog l #[cs k] W fun e W' =>
   (e=.returned (.bool true)∧J (k+1) W')∨(e=.returned (.bool false)∧Jx W'))
  (W:World) (h0:J 0 W) :
  CallsIn F n Tryz.prog 84 #[.func (.yield l) #[] #[],.pointer (some ⟨bb,bo,none⟩)] W fun e W'=>(∃v,e=.returned v)∧(J len W'∨Jx W'):=by
 refine callsIn_of_wp Tryz.func84 rfl h8 ?_ hro
 simp only [Tryz.ntmps84,List.size_toArray,List.length_cons,List.length_nil,Nat.reduceAdd,Nat.reduceSub,Array.replicate_succ,Array.replicate_zero,List.push_toArray,List.append_toArray,List.nil_append,List.cons_append]
 have hb0:=hbox 0 W h0
 gi_wp2
 gi_loopw [4,7] (fun _ i wr=>∃k:Nat,k≤len∧i=.int .i64 (k:Int)∧J k wr) (fun _ i _=>((len:Int) - intOf i).toNat)
 case atStart =>
  exact ⟨0,Nat.zero_le _,by simp,h0⟩
 case round =>
  obtain ⟨k,hk,rfl,hJk⟩:=hrel
  by_cases hlt:k<len
  ·obtain ⟨fn,tmps,assign,body,hy,hR⟩:=hY k _ hJk hlt
   have c0:=hld k _ hJk k hlt
   have hpos:(0:Int)≤(k:Int):=by omega
   have hkb:(k:Int)<(len:Int):=by omega
   gi_wp2
   refine hR.mono ?_
   rintro e W3 (⟨rfl,hJ3⟩|⟨rfl,hJx3⟩)
   ·gi_wp2
    go_roundw
    case rel=>exact ⟨k+1,by omega,by simp,hJ3⟩
    case measure=>simp [intOf];omega
   ·gi_wp2
    refine bodyPost_ret (results_none rfl _ _ _) rfl ?_
    exact ⟨⟨_,rfl⟩,.inr hJx3⟩
  ·obtain rfl:k=len:=by omega
   gi_wp2
   go_end0
   exact ⟨⟨_,rfl⟩,.inl hJk⟩
set_option maxRecDepth 100000 in
set_option maxHeartbeats 1000000 in
theorem b8o (F:Fence) (n:Nat) (h8:F.fn 84) (hro:F.round=none) (l bb bo cap:Nat) (a:Option Addr) (J:World→Prop) (W:World)
  (hb0:W.cell? ⟨bb,bo,none⟩=some (.slice a 0 cap)) (h0:J W) :
  CallsIn F n Tryz.prog 84 #[.func (.yield l) #[] #[],.pointer (some ⟨bb,bo,none⟩)] W fun e W'=>(∃v,e=.returned v)∧J W':=by
 refine callsIn_of_wp Tryz.func84 rfl h8 ?_ hro
 simp only [Tryz.ntmps84,List.size_toArray,List.length_cons,List.length_nil,Nat.reduceAdd,Nat.reduceSub,Array.replicate_succ,Array.replicate_zero,List.push_toArray,List.append_toArray,List.nil_append,List.cons_append]
 gi_wp2
 gi_loopw [4,7] (fun _ i wr=>i=.int .i64 0∧J wr) (fun _ _ _=>0)
 case atStart=>exact ⟨rfl,h0⟩
 case round =>
  obtain ⟨rfl,hJs⟩:=hrel
  gi_wp2
  go_end0
  exact ⟨⟨_,rfl⟩,hJs⟩
end Go.Proofs
namespace Go.Ab
open Go.RowKit Go.Proofs
theorem c6t (ss:List Str):b8k Tryz.prog 84 [.eptr (.agg [.sl (ss.map V.str)]) 0] [] (ss.map fun a=>[.str a]):=by
 refine ⟨by kernel_rfl,fun g w lb hH hlb hv l J Jx hJ hJx hY h0=>a6n (r:=none) (n:=0) (a8w (r:=none) (n:=1) ?_)⟩
 have hv0:=hv 0 _ rfl
 have hlbe:lb=#[lb.getD 0 undef]:=by
  have:lb.size=1:=hlb
  apply Array.ext
  ·simp [this]
  ·intro i h1 h2
   have:i=0:=by omega
   subst this
   simp only [List.getElem_toArray,List.getElem_cons_zero]
   rw [Array.getD_eq_getD_getElem?,Array.getElem?_eq_getElem h1,Option.getD_some]
 rw [hlbe]
 generalize lb.getD 0 undef=v at hv0
 rw [List.length_map]
 generalize hxs:ss.map V.str=xs at hv0
 have hlen:xs.length=ss.length:=by rw [←hxs,List.length_map]
 cases hv0 with
 | rd h=>cases h
 | eptr b o off cur e fz x hS hg hb hr =>
  have hrd:=hr 0 (.sl xs) (by simp [V.cells])
  have hsz:o<cur.size:=by simp [V.cells] at hb;omega
  have hbox:∀W,a2d g.S w W→W.cell? ⟨b,o+0,none⟩=some (cur.getD (o+0) undef):=fun W hk=>by
   simp only [World.cell?,hk b hS,hg]
   simp [Array.getD_eq_getD_getElem?,hsz]
  generalize cur.getD (o+0) undef=sv at hrd hbox
  have qG:∀(a:Option Addr) (cap:Nat),ss=[]→sv=.slice a 0 cap→CallsIn (WF none) 1 Tryz.prog 84 #[.func (.yield l) #[] #[],.pointer (some ⟨b,o+0,none⟩)] w fun e W'=>(∃v,e=.returned v)∧(J ss.length W'∨Jx W'):=fun a cap h1 h2=>by
   subst h1;subst h2
   exact (b8o (WF none) 1 trivial rfl l b (o+0) cap a (J 0) w (hbox w fun _ _=>rfl) h0).mono fun e W' ⟨h1,h2⟩=>⟨h1,.inl h2⟩
  cases hrd with
  | nilsl=>exact qG none 0 (List.map_eq_nil_iff.1 hxs) rfl
  | slz a cap=>exact qG (some a) cap (List.map_eq_nil_iff.1 hxs) rfl
  | sl g' o' len cap k cur2 e2 fz2 xs hS2 hg2 hl hm hc hb2 hk hr2 =>
   by_cases h0l:len=0
   ·subst h0l
    exact qG _ cap (List.length_eq_zero_iff.1 (by omega)) rfl
   have hk1:k=1:=by
    obtain ⟨x,r,rfl⟩:=List.exists_cons_of_ne_nil (show xs≠[] from fun e=>by rw [e] at hl;simp at hl;omega)
    have h1:=(hk x (by simp)).1
    have h2:x∈ss.map V.str:=by rw [hxs];simp
    obtain ⟨s,_,rfl⟩:=List.mem_map.1 h2
    simpa [V.cells] using h1.symm
   subst hk1
   have hsz2:o'+len*1≤cur2.size:=hb2.resolve_left h0l
   have hcell:∀W,a2d g.S w W→∀i,i<len→W.cell? ⟨g',o'+i,none⟩=some (cur2.getD (o'+i) undef):=fun W hkW i hi=>by
    have hlt:o'+i<cur2.size:=by omega
    simp only [World.cell?,hkW g' hS2,hg2]
    simp [Array.getD_eq_getD_getElem?,hlt]
   have hll:len=ss.length:=by omega
   subst hll
   refine (d2g (WF none) 1 trivial rfl (Nat.le_refl _) l b (o+0) g' o' ss.length cap (fun i=>cur2.getD (o'+i) undef) (by unfold maxLen at hm;omega) (fun k W=>J k W∧a2d g.S w W) Jx (fun k W h=>hbox W h.2)
    (fun k W h i hi=>hcell W h.2 i hi) (fun k W h hlt=>?_) w ⟨h0,fun _ _=>rfl⟩).mono fun e W' ⟨h1,h2⟩=>⟨h1,h2.imp And.left id⟩
   have hvals:∀(i:Nat) (x:V),[V.str (ss[k])][i]?=some x→VR g W ((#[cur2.getD (o'+k) undef]).getD i undef) x:=by
    intro i x hi
    match i with
    | 0 =>
     simp at hi;subst hi
     have h1:xs[k]?=some (V.str ss[k]):=by rw [←hxs];simp [hlt]
     have:=(hr2 k 0 _ (V.str ss[k]) h1 rfl).mono (S':=g.S) (w':=W) h.2 fun _ h=>h
     simp only [Nat.mul_one,Nat.add_zero] at this
     exact .rd this
    | i+1=>simp at hi
   obtain ⟨fn,tmps,asg,body,hy,hR⟩:=hY k [V.str ss[k]] W #[cur2.getD (o'+k) undef] (by simp [hlt]) rfl hvals h.1
   refine ⟨fn,tmps,asg,body,hy,hR.mono ?_⟩
   rintro e W' (⟨e1,j1,k1⟩|h3)
   ·exact .inl ⟨e1,j1,fun q hq=>(k1.1 q hq).trans (h.2 q hq)⟩
   ·exact .inr h3
def d2f (_:List Str):Option Unit:=some ()
theorem g8p {l:List Str} {y:Unit} (_:d2f l=some y):a0o Tryz.prog 39 [.sl (l.map V.str)] [] (fun r H'=>r=.fn (.func 84) [.eptr (.agg [.sl (l.map V.str)]) 0]∧H'=[]) :=
 a96 (by kernel_rfl) (fun a len cap w=>a8w (r:=none) (n:=1) (d8d (WF none) 1 trivial rfl a len cap w)) _
end Go.Ab
namespace Go.Proofs
open Go.Deep Go.Ab Go.RowKit
theorem Tryz.i4:(Tryz.prog.info? 4).map (fun i=>(i.zero,i.size,i.bytes))=some (some (.bool false),1,1):=by kernel_rfl
theorem Tryz.i89:(Tryz.prog.info? 168).map (fun i=>(i.zero,i.size,i.bytes))=some (some (.slice none 0 0),1,24):=by kernel_rfl
def d8h (N n c:Nat):Nat→Value:=fun j=>if j<c then .slice (some ⟨N+2+j,0,none⟩) n n else .slice none 0 0
structure d1t (w wr:World) (n c:Nat) (v0 v1:Value):Prop where
 since:w.Since w.heap.size wr
 size:wr.heap.size=w.heap.size+2+c
 box:wr.heap[w.heap.size]?=some (.cells #[v0,v1] 39)
 top:wr.rowIs (w.heap.size+1) 168 n (d8h w.heap.size n c)
 done:∀j,j<c→wr.rowIs (w.heap.size+2+j) 4 n (fun _=>.bool false)
theorem c5h (w:World) (n:Nat) (v0 v1:Value):d1t w ((w.alloc (.cells #[v0,v1] 39)).alloc (.cells (madeCells #[.slice none 0 0] n) 168)) n 0 v0 v1:=by
 have hnew:=World.rowIs_made (w.alloc (.cells #[v0,v1] 39)) (.slice none 0 0) n 168
 rw [World.size_alloc] at hnew
 have hb:((w.alloc (.cells #[v0,v1] 39)).alloc (.cells (madeCells #[.slice none 0 0] n) 168)).heap[w.heap.size]?=some (.cells #[v0,v1] 39):=by
  rw [Below.heap_alloc _ _ _ (by simp)];exact World.alloc_heap_new w _
 refine ⟨((World.Since.refl _ _).alloc (Nat.le_refl _) _).alloc (by simp) _,by simp,hb,hnew.congr (fun j _=>by simp [d8h]),fun j hj=>absurd hj (Nat.not_lt_zero _)⟩
theorem c8c {w wr:World} {n c:Nat} {v0 v1:Value} (h:d1t w wr n c v0 v1) :
  d1t w ((wr.alloc (.cells (madeCells #[.bool false] n) 4)).setCell ⟨w.heap.size+1,c,none⟩ (.slice (some ⟨w.heap.size+2+c,0,none⟩) n n)) n (c+1) v0 v1:=by
 have hnew:=World.rowIs_made wr (.bool false) n 4
 rw [h.size] at hnew
 refine ⟨(h.since.alloc (by rw [h.size];omega) _).setCell (by show w.heap.size≤w.heap.size+1;omega) _,by simp [h.size];omega,((blk_setCell_other _ _ _ _ (by show w.heap.size≠w.heap.size+1;omega)).trans (blk_alloc_lt _ _ _ (by rw [h.size];omega))).trans h.box,((h.top.alloc _).set c _).congr (fun j _=>?_),fun j hj=>?_⟩
 ·simp only [d8h]
  by_cases e:j=c
  ·subst e;simp
  ·rw [if_neg e]
   by_cases hlt:j<c
   ·rw [if_pos hlt,if_pos (by omega)]
   ·rw [if_neg hlt,if_neg (by omega)]
 ·by_cases e:j=c
  ·subst e
   exact (hnew.setOther (by show w.heap.size+2+j≠w.heap.size+1;omega) _)
  ·exact ((h.done j (by omega)).alloc _).setOther (by show w.heap.size+2+j≠w.heap.size+1;omega) _
def b36 (ev:Nat→Nat→Int) (t:Int) (Z:Nat→Nat→Bool) (k:Nat):Nat→Nat→Bool:=fun j i=>if ev k 0≤t∧(j:Int)=ev k 2∧(i:Int)=ev k 3 then decide (ev k 1=1) else Z j i
def zk (ev:Nat→Nat→Int) (t:Int):Nat→Nat→Nat→Bool
 | 0=>fun _ _=>false
 | k+1=>b36 ev t (zk ev t k) k
structure b5v (w wr:World) (n:Nat) (Z:Nat→Nat→Bool):Prop where
 since:w.Since w.heap.size wr
 size:w.heap.size+2+n≤wr.heap.size
 top:wr.rowIs (w.heap.size+1) 168 n (d8h w.heap.size n n)
 rows:∀j,j<n→wr.rowIs (w.heap.size+2+j) 4 n (fun i=>.bool (Z j i))
theorem c1k {w wr:World} {n:Nat} {v0 v1:Value} (h:d1t w wr n n v0 v1):b5v w wr n (fun _ _=>false):=⟨h.since,by rw [h.size];omega,h.top,h.done⟩
theorem c5j {w wr:World} {n k:Nat} {ev:Nat→Nat→Int} {t:Int} {Z:Nat→Nat→Bool} (h:b5v w wr n Z) (hn:¬ev k 0≤t) (o:Obj):b5v w (wr.alloc o) n (b36 ev t Z k) :=
 ⟨h.since.alloc (by have:=h.size;omega) _,by have:=h.size;simp;omega,h.top.alloc _,fun j hj=>((h.rows j hj).alloc _).congr fun i _=>by simp [b36,hn]⟩
theorem c5i {w wr:World} {n k p q:Nat} {ev:Nat→Nat→Int} {t:Int} {Z:Nat→Nat→Bool} (h:b5v w wr n Z) (hle:ev k 0≤t) (hp:ev k 2=p) (hq:ev k 3=q) (o:Obj) (b:Bool) (hb:b=decide (ev k 1=1)) :
  b5v w (((wr.alloc o).setCell ⟨w.heap.size+2+p,q,none⟩ (.bool b))) n (b36 ev t Z k):=by
 refine ⟨(h.since.alloc (by have:=h.size;omega) _).setCell (by show w.heap.size≤w.heap.size+2+p;omega) _,by have:=h.size;simp;omega,(h.top.alloc _).setOther (by show w.heap.size+1≠w.heap.size+2+p;omega) _,fun j hj=>?_⟩
 by_cases e:j=p
 ·subst e
  refine (((h.rows j hj).alloc o).set q _).congr fun i _=>?_
  by_cases ei:i=q
  ·subst ei;simp [b36,hle,hp,hq,hb]
  ·have:¬(i:Int)=(q:Int):=by omega
   simp [b36,hle,hp,hq,ei,this]
 ·refine (((h.rows j hj).alloc o).setOther (by show w.heap.size+2+j≠w.heap.size+2+p;omega) _).congr fun i _=>?_
  have:¬(j:Int)=(p:Int):=by omega
  simp [b36,hp,this]
theorem b5v.drew {w wr:World} {n:Nat} {Z:Nat→Nat→Bool} (h:b5v w wr n Z):b5v w wr.drew n Z:=⟨h.since.drew,h.size,h.top.drew,fun j hj=>(h.rows j hj).drew⟩
set_option maxHeartbeats 3200000 in
set_option maxRecDepth 1000000 in
theorem e3i (n kc m ec be oe:Nat) (ka ea:Option Addr) (ev:Nat→Nat→Int) (t:Int) (w:World) (hn:24*n≤281474976710656) (hm:m≤9223372036854775807) (hea:0<m→ea=some ⟨be,oe,none⟩)
  (hP:∀k,k<m→ev k 0≤t→∃p q:Nat,p<n∧q<n∧ev k 2=p∧ev k 3=q)
  (hcell:∀k,k<m→w.cell? ⟨be,oe+k*4,none⟩=some (.int .i64 (ev k 0))∧w.cell? ⟨be,oe+k*4+1,none⟩=some (.int .i64 (ev k 1))∧w.cell? ⟨be,oe+k*4+2,none⟩=some (.int .i64 (ev k 2))∧w.cell? ⟨be,oe+k*4+3,none⟩=some (.int .i64 (ev k 3))) :
  Calls Tryz.prog 217 #[.agg #[.slice ka n kc,.slice ea m ec],.int .i64 t] w fun e w'=>e=.returned (.slice (some ⟨w.heap.size+1,0,none⟩) n n)∧b5v w w' n (zk ev t m):=by
 have hmk86:=run_make_row' (P:=Tryz.prog) 232 168 (.slice none 0 0) 24 Tryz.underlying232 Tryz.i89 rfl .i64 .i64 n hn (by omega)
 go_enter Tryz.func217,Tryz.ntmps217
 go_wp2
 go_loopg [15] n (fun g i wr=>∃c:Nat,c≤n∧g=n - c∧i=.int .i64 c∧d1t w wr n c (.slice ka n kc) (.slice ea m ec))
 case atStart=>exact ⟨0,Nat.zero_le _,rfl,rfl,c5h w n _ _⟩
 case round =>
  obtain ⟨c,hc,rfl,rfl,hO⟩:=hrel
  have hsize:=hO.size
  have hb0:wr.cell? ⟨w.heap.size,0,none⟩=some (.slice ka n kc):=by simp [World.cell?,hO.box]
  have hb1:wr.cell? ⟨w.heap.size,1,none⟩=some (.slice ea m ec):=by simp [World.cell?,hO.box]
  have hmk89:=run_make_row' (P:=Tryz.prog) 168 4 (.bool false) 1 Tryz.underlying168 Tryz.i4 rfl .i64 .i64 n (by omega) (by omega)
  have hst1:c<n→∀o,(wr.alloc o).cell? ⟨w.heap.size+1,c,none⟩=some (d8h w.heap.size n c c):=fun h o=>(hO.top.alloc o).cell h
  have hst2:∀o,(wr.alloc o).frozen? ⟨w.heap.size+1,c,none⟩=false:=fun o=>(hO.top.alloc o).frozen c
  go_wp2
  ·have hc':c<n:=by assumption
   go_roundg (n - (c+1))
   case measure=>omega
   case rel=>exact ⟨c+1,by omega,rfl,by simp,c8c hO⟩
  ·have hcc:c=n:=by omega
   subst hcc
   have hB:=c1k hO
   clear hO hst1 hst2 hmk89 hb0 hb1 hsize hmk86 hc
   rw [show decide (c<c)=false by simp]
   go_loopg [29] m (fun g i wq=>∃k:Nat,k≤m∧g=m - k∧i=.int .i64 k∧b5v w wq c (zk ev t k))
   case atStart=>exact ⟨0,Nat.zero_le _,rfl,rfl,hB⟩
   case round =>
    clear hB
    obtain ⟨k,hk,rfl,rfl,hB⟩:=hrel
    by_cases hkm:k<m
    ·obtain rfl:=hea (by omega)
     obtain ⟨c0,c1,c2,c3⟩:=hcell k hkm
     have hbe:be<w.heap.size:=World.block_lt_of_cell? _ _ c0
     have e0:wr.cell? ⟨be,oe+k*4,none⟩=some (.int .i64 (ev k 0)):=by rw [hB.since.cell (a:=⟨be,oe+k*4,none⟩) hbe];exact c0
     have e1:wr.cell? ⟨be,oe+k*4+1,none⟩=some (.int .i64 (ev k 1)):=by rw [hB.since.cell (a:=⟨be,oe+k*4+1,none⟩) hbe];exact c1
     have e2:wr.cell? ⟨be,oe+k*4+2,none⟩=some (.int .i64 (ev k 2)):=by rw [hB.since.cell (a:=⟨be,oe+k*4+2,none⟩) hbe];exact c2
     have e3:wr.cell? ⟨be,oe+k*4+3,none⟩=some (.int .i64 (ev k 3)):=by rw [hB.since.cell (a:=⟨be,oe+k*4+3,none⟩) hbe];exact c3
     have hP':=hP k hkm
     clear hP hcell c0 c1 c2 c3
     go_wp2
     ·have hle:ev k 0≤t:=by assumption
      obtain ⟨p,q,hp,hq,e2',e3'⟩:=hP' hle
      have ht1:∀o,(wr.alloc o).cell? ⟨w.heap.size+1,p,none⟩=some (.slice (some ⟨w.heap.size+2+p,0,none⟩) c c):=fun o=>by
       have:=(hB.top.alloc o).cell hp
       simpa [d8h,hp] using this
      have ht2:∀o,(wr.alloc o).cell? ⟨w.heap.size+2+p,q,none⟩=some (.bool (zk ev t k p q)):=fun o=>((hB.rows p hp).alloc o).cell hq
      have ht3:∀o,(wr.alloc o).frozen? ⟨w.heap.size+2+p,q,none⟩=false:=fun o=>((hB.rows p hp).alloc o).frozen q
      clear e0 e1 e2 e3 hP'
      rw [e2',e3']
      go_region
      all_goals go_wp2
      go_roundg (m - (k+1))
      case measure=>omega
      case rel=>exact ⟨k+1,by omega,rfl,by simp,(c5i hB hle e2' e3' _ _ rfl).drew⟩
     ·go_roundg (m - (k+1))
      case measure=>omega
      case rel=>exact ⟨k+1,by omega,rfl,by simp,c5j hB (by first|assumption|omega) _⟩
    ·have hkm:k=m:=by omega
     subst hkm
     go_wp2
     go_ret
     exact ⟨rfl,hB⟩
end Go.Proofs
namespace Go.Ab
open Go.RowKit Go.Proofs Go.Deep
def ev4 (es:List (Int×Int×Int×Int)) (k j:Nat):Int:=match j with
 | 0=>(es.getD k (0,0,0,0)).1
 | 1=>(es.getD k (0,0,0,0)).2.1
 | 2=>(es.getD k (0,0,0,0)).2.2.1
 | _=>(es.getD k (0,0,0,0)).2.2.2
def atF (n:Nat) (es:List (Int×Int×Int×Int)) (t:Int):Option (List (List Bool)) :=
 chk (decide (24*n≤281474976710656)) (chk (es.all fun e=>!decide (e.1≤t)||(inb e.2.2.1 n&&inb e.2.2.2 n)) (some ((List.range n).map fun j=>(List.range n).map fun i=>zk (ev4 es) t es.length j i)))
theorem c3g {g:Gh} {w:World} {v:Value} {ys:List V} (h:VR g w v (.sl ys)):∃a cap,v=.slice a ys.length cap∧ys.length≤maxLen:=by
 cases h with
 | rd h =>
  cases h with
  | nilsl=>exact ⟨_,_,rfl,Nat.zero_le _⟩
  | slz a cap=>exact ⟨_,_,rfl,Nat.zero_le _⟩
  | sl g o len cap k cur e fz xs hS hg hl hm hc hb hk hr=>exact ⟨some ⟨g,o,none⟩,cap,by rw [hl],by rw [hl];exact hm⟩
theorem b8u {g:Gh} {w:World} {v:Value} {es:List (Int×Int×Int×Int)} (h:VR g w v (.sl (es.map fun e=>.agg [.int .i64 e.1,.int .i64 e.2.1,.int .i64 e.2.2.1,.int .i64 e.2.2.2]))) :
  ∃be oe a cap,v=.slice a es.length cap∧(0<es.length→a=some ⟨be,oe,none⟩)∧∀k,k<es.length→w.cell? ⟨be,oe+k*4,none⟩=some (.int .i64 (ev4 es k 0))∧w.cell? ⟨be,oe+k*4+1,none⟩=some (.int .i64 (ev4 es k 1))∧w.cell? ⟨be,oe+k*4+2,none⟩=some (.int .i64 (ev4 es k 2))∧w.cell? ⟨be,oe+k*4+3,none⟩=some (.int .i64 (ev4 es k 3)):=by
 generalize hys:(es.map fun e=>V.agg [.int .i64 e.1,.int .i64 e.2.1,.int .i64 e.2.2.1,.int .i64 e.2.2.2])=ys at h
 have hlen:ys.length=es.length:=by rw [←hys];simp
 cases h with
 | rd h =>
  cases h with
  | nilsl =>
   have:es.length=0:=by simpa using hlen.symm
   exact ⟨0,0,none,0,by rw [this],fun h=>by omega,fun k hk=>by omega⟩
  | slz a cap =>
   have:es.length=0:=by simpa using hlen.symm
   exact ⟨0,0,some a,cap,by rw [this],fun h=>by omega,fun k hk=>by omega⟩
  | sl b o len cap k cur e fz xs hS hg hl hm hc hb hk hr =>
   refine ⟨b,o,some ⟨b,o,none⟩,cap,by rw [←hl,hlen],fun _=>rfl,fun i hi=>?_⟩
   have hyi:ys[i]?=some (V.agg [.int .i64 (ev4 es i 0),.int .i64 (ev4 es i 1),.int .i64 (ev4 es i 2),.int .i64 (ev4 es i 3)]):=by
    rw [←hys,List.getElem?_map,List.getElem?_eq_getElem hi]
    simp [ev4,hi]
   have hk4:k=4:=by
    have:=(hk _ (List.mem_of_getElem? hyi)).1
    simpa [V.cells] using this.symm
   subst hk4
   have hsz:o+len*4≤cur.size:=by
    rcases hb with hb|hb
    ·omega
    ·exact hb
   have hi4:(i+1)*4≤len*4:=Nat.mul_le_mul_right 4 (by omega)
   have cellOf:∀(j:Nat) (z:Int),j<4→(V.agg [.int .i64 (ev4 es i 0),.int .i64 (ev4 es i 1),.int .i64 (ev4 es i 2),.int .i64 (ev4 es i 3)]).cells[j]?=some (.int .i64 z)→w.cell? ⟨b,o+i*4+j,none⟩=some (.int .i64 z):=by
    intro j z hj hz
    have hrd:=hr i j _ _ hyi hz
    have hlt:o+i*4+j<cur.size:=by omega
    rw [Array.getD_eq_getD_getElem?,Array.getElem?_eq_getElem hlt,Option.getD_some] at hrd
    have hv:cur[o+i*4+j]=.int .i64 z:=by
     generalize cur[o+i*4+j]=u at hrd
     cases hrd;rfl
    simp only [World.cell?,hg]
    rw [Array.getElem?_eq_getElem hlt,hv]
    simp
   exact ⟨cellOf 0 _ (by omega) rfl,cellOf 1 _ (by omega) rfl,cellOf 2 _ (by omega) rfl,cellOf 3 _ (by omega) rfl⟩
theorem g8m {ks:List Int} {α:Type} {es:List α} {f:α→V} {e4:α→Int×Int×Int×Int} (hf:∀a,f a=.agg [.int .i64 (e4 a).1,.int .i64 (e4 a).2.1,.int .i64 (e4 a).2.2.1,.int .i64 (e4 a).2.2.2]) {t:Int} {y:List (List Bool)} (hy:atF ks.length (es.map e4) t=some y) :
  a0o Tryz.prog 217 [.agg [.sl (ks.map (V.int .i64)),.sl (es.map f)],.int .i64 t] [] (fun r H'=>r=.sl (y.map (slV V.bool))∧H'=[]):=by
 have hes:es.map f=(es.map e4).map fun e=>.agg [.int .i64 e.1,.int .i64 e.2.1,.int .i64 e.2.2.1,.int .i64 e.2.2.2]:=by
  rw [List.map_map];exact List.map_congr_left fun a _=>hf a
 rw [hes]
 generalize es.map e4=es at hy
 unfold atF at hy
 have hn:24*ks.length≤281474976710656:=by
  by_cases hn:24*ks.length≤281474976710656
  ·exact hn
  ·simp [chk,hn] at hy
 rw [o5 (decide_eq_true hn)] at hy
 cases hall:(es.all fun e=>!decide (e.1≤t)||(inb e.2.2.1 ks.length&&inb e.2.2.2 ks.length)) with
 | false=>rw [hall] at hy;simp [chk] at hy
 | true =>
 rw [hall] at hy
 simp only [chk,cond_true,Option.some.injEq] at hy
 refine a9l (by kernel_rfl) fun g w vals hH hsz hv=>?_
 have hd:=hv 0 _ rfl
 have ht:=hv 1 _ rfl
 have hvals:vals=#[vals.getD 0 undef,vals.getD 1 undef]:=by
  have h2:vals.size=2:=hsz
  apply Array.ext
  ·simp [h2]
  ·intro i h1 h3
   have:i=0∨i=1:=by omega
   rcases this with rfl|rfl<;>simp [Array.getD_eq_getD_getElem?,h1]
 rw [hvals]
 generalize vals.getD 0 undef=dv at hd
 generalize vals.getD 1 undef=tv at ht
 obtain ⟨vs,rfl,hvl,hvr⟩:=hd.agg_inv
 have hk:=hvr 0 _ rfl
 have he:=hvr 1 _ rfl
 have hvs:vs=#[vs.getD 0 undef,vs.getD 1 undef]:=by
  have h2:vs.size=2:=hvl
  apply Array.ext
  ·simp [h2]
  ·intro i h1 h3
   have:i=0∨i=1:=by omega
   rcases this with rfl|rfl<;>simp [Array.getD_eq_getD_getElem?,h1]
 rw [hvs]
 generalize vs.getD 0 undef=kv at hk
 generalize vs.getD 1 undef=ev at he
 obtain ⟨ka,kc,rfl,hkm⟩:=c3g hk
 rw [List.length_map] at hkm ⊢
 obtain ⟨be,oe,ea,ec,rfl,hea,hcell⟩:=b8u he
 obtain ⟨_,_,e2,hem⟩:=c3g he
 rw [List.length_map] at hem
 rw [ht.int_inv.1]
 have hm:es.length≤9223372036854775807:=by unfold maxLen at hem;omega
 refine (e3i ks.length kc es.length ec be oe ka ea (ev4 es) t w hn hm hea (fun k hk hle=>?_) hcell).mono ?_
 ·have hmem:es.getD k (0,0,0,0)∈es:=by
   rw [List.getD_eq_getElem?_getD,List.getElem?_eq_getElem hk];exact List.getElem_mem hk
  have:=List.all_eq_true.1 hall _ hmem
  have hle':decide ((es.getD k (0,0,0,0)).1≤t)=true:=decide_eq_true hle
  simp only [hle',Bool.not_true,Bool.false_or,Bool.and_eq_true] at this
  obtain ⟨h1,h2⟩:=this
  have h1:=p8.1 h1
  have h2:=p8.1 h2
  exact ⟨((es.getD k (0,0,0,0)).2.2.1).toNat,((es.getD k (0,0,0,0)).2.2.2).toNat,by omega,by omega,by show (es.getD k (0,0,0,0)).2.2.1=_;omega,by show (es.getD k (0,0,0,0)).2.2.2=_;omega⟩
 ·rintro en w' ⟨rfl,hB⟩
  refine ⟨_,rfl,hB.since,?_⟩
  have hsz:=hB.size
  have htop:=hB.top.congr (g:=fun j=>.slice (some ⟨w.heap.size+2+j,0,none⟩) ks.length ks.length) fun i hi=>by simp [d8h,hi]
  have:=d9n (S:=fun b=>g.S b∨(w.heap.size≤b∧b<w'.heap.size)) htop hB.rows (.inr ⟨by omega,htop.lt⟩) (fun j hj=>.inr ⟨by omega,(hB.rows j hj).lt⟩) (by unfold maxLen;omega) (by unfold maxLen;omega)
  rw [←hy]
  simpa [List.map_map,slV,Function.comp_def] using this
end Go.Ab
namespace Go.Proofs
open Go.Deep Go.Ab Go.RowKit
theorem Tryz.z106:Tryz.zeroCells220=Array.replicate 576 (.bool false):=by kernel_rfl
structure PN (w wr:World) (Z:Nat→Nat→Bool) (v0 v1:Value):Prop where
 since:w.Since w.heap.size wr
 size:w.heap.size+2≤wr.heap.size
 box:wr.heap[w.heap.size]?=some (.cells #[v0,v1] 39)
 tab:wr.rowIs (w.heap.size+1) 220 576 (fun i=>.bool (Z (i / 24) (i % 24)))
theorem d3e (w:World) (v0 v1:Value):PN w ((w.alloc (.cells #[v0,v1] 39)).alloc (.cells Tryz.zeroCells220 220)) (fun _ _=>false) v0 v1:=by
 have hb:((w.alloc (.cells #[v0,v1] 39)).alloc (.cells Tryz.zeroCells220 220)).heap[w.heap.size]?=some (.cells #[v0,v1] 39):=by
  rw [blk_alloc_lt _ _ _ (by simp)];exact World.alloc_heap_new w _
 refine ⟨((World.Since.refl _ _).alloc (Nat.le_refl _) _).alloc (by simp) _,by simp,hb,_,by
  have:=World.alloc_heap_new (w.alloc (.cells #[v0,v1] 39)) (.cells Tryz.zeroCells220 220)
  rw [World.size_alloc] at this;exact this,by rw [Tryz.z106];simp,fun i hi=>by rw [Tryz.z106];simp [hi]⟩
theorem PN.skip {w wr:World} {k:Nat} {ev:Nat→Nat→Int} {t:Int} {Z:Nat→Nat→Bool} {v0 v1:Value} (h:PN w wr Z v0 v1) (hn:¬ev k 0≤t) (o:Obj):PN w (wr.alloc o) (b36 ev t Z k) v0 v1 :=
 ⟨h.since.alloc (by have:=h.size;omega) _,by have:=h.size;simp;omega,(blk_alloc_lt _ _ _ (by have:=h.size;omega)).trans h.box,(h.tab.alloc _).congr fun i _=>by simp [b36,hn]⟩
theorem PN.drew {w wr:World} {Z:Nat→Nat→Bool} {v0 v1:Value} (h:PN w wr Z v0 v1):PN w wr.drew Z v0 v1:=⟨h.since.drew,h.size,h.box,h.tab.drew⟩
theorem PN.step {w wr:World} {k p q:Nat} {ev:Nat→Nat→Int} {t:Int} {Z:Nat→Nat→Bool} {v0 v1:Value} (h:PN w wr Z v0 v1) (hle:ev k 0≤t) (hp:ev k 2=p) (hq:ev k 3=q) (h1:p<24) (h2:q<24) (o:Obj) (b:Bool) (hb:b=decide (ev k 1=1)) :
  PN w ((wr.alloc o).setCell ⟨w.heap.size+1,p*24+q,none⟩ (.bool b)) (b36 ev t Z k) v0 v1:=by
 have hs:=h.size
 refine ⟨(h.since.alloc (by omega) _).setCell (by show w.heap.size≤w.heap.size+1;omega) _,by simp;omega,((blk_setCell_other _ _ _ _ (by show w.heap.size≠w.heap.size+1;omega)).trans (blk_alloc_lt _ _ _ (by omega))).trans h.box,((h.tab.alloc o).set (p*24+q) _).congr fun i hi=>?_⟩
 by_cases e:i=p*24+q
 ·subst e
  rw [if_pos rfl]
  have e1:(p*24+q) / 24=p:=by omega
  have e2:(p*24+q) % 24=q:=by omega
  rw [e1,e2]
  simp [b36,hle,hp,hq,hb]
 ·rw [if_neg e]
  have:¬(((i / 24:Nat):Int)=(p:Int)∧((i % 24:Nat):Int)=(q:Int)):=by omega
  simp only [b36,hp,hq,hle,true_and,if_neg this]
structure PV (w wr:World) (n:Nat) (Z:Nat→Nat→Bool) (v0 v1:Value) (ob:Nat) (f:Nat→Bool):Prop where
 pn:PN w wr Z v0 v1
 out:wr.rowIs ob 4 n (fun i=>.bool (f i))
 lo:w.heap.size+1<ob
theorem d3c {w wr:World} {n p:Nat} {Z:Nat→Nat→Bool} {v0 v1:Value} (h:PN w wr Z v0 v1) :
  PV w ((wr.alloc (.cells (madeCells #[.bool false] n) 4)).setCell ⟨wr.heap.size,p,none⟩ (.bool true)) n Z v0 v1 wr.heap.size (fun i=>decide (i=p)):=by
 have hnew:=World.rowIs_made wr (.bool false) n 4
 have hs:=h.size
 refine ⟨⟨(h.since.alloc (by omega) _).setCell (by show w.heap.size≤wr.heap.size;omega) _,by simp;omega,((blk_setCell_other _ _ _ _ (by show w.heap.size≠wr.heap.size;omega)).trans (blk_alloc_lt _ _ _ (by omega))).trans h.box,(h.tab.alloc _).setOther (by show w.heap.size+1≠wr.heap.size;omega) _⟩,(hnew.set p _).congr fun i _=>?_,by omega⟩
 by_cases e:i=p
 ·subst e;simp
 ·simp [e]
theorem PV.set {w wr:World} {n:Nat} {Z:Nat→Nat→Bool} {v0 v1:Value} {ob:Nat} {f:Nat→Bool} (h:PV w wr n Z v0 v1 ob f) {a b:Nat} (hc:(f a&&Z a b&&!f b)=true) :
  PV w (wr.setCell ⟨ob,b,none⟩ (.bool true)) n Z v0 v1 ob (stp Z a b f):=by
 have hlo:=h.lo
 have hs:=h.pn.size
 refine ⟨⟨h.pn.since.setCell (by show w.heap.size≤ob;omega) _,by simp;omega,(blk_setCell_other _ _ _ _ (by show w.heap.size≠ob;omega)).trans h.pn.box,h.pn.tab.setOther (by show w.heap.size+1≠ob;omega) _⟩,(h.out.set b _).congr fun i _=>?_,hlo⟩
 simp only [stp]
 by_cases e:i=b
 ·subst e
  simp only [Bool.and_eq_true] at hc
  simp [hc.1.1,hc.1.2]
 ·simp [e]
theorem PV.look {w wr:World} {n:Nat} {Z:Nat→Nat→Bool} {v0 v1:Value} {ob:Nat} {f:Nat→Bool} (h:PV w wr n Z v0 v1 ob f) {a b:Nat} (ha:a<n) (hb:b<n) (hn:n≤24) :
  wr.cell? ⟨w.heap.size+1,a*24+b,none⟩=some (.bool (Z a b))∧wr.cell? ⟨ob,a,none⟩=some (.bool (f a))∧wr.cell? ⟨ob,b,none⟩=some (.bool (f b))∧wr.frozen? ⟨ob,b,none⟩=false∧wr.cell? ⟨w.heap.size,0,none⟩=some v0:=by
 refine ⟨?_,h.out.cell ha,h.out.cell hb,h.out.frozen b,by simp [World.cell?,h.pn.box]⟩
 have:=h.pn.tab.cell (i:=a*24+b) (by omega)
 rw [show (a*24+b) / 24=a by omega,show (a*24+b) % 24=b by omega] at this
 exact this
def mSt (n:Nat) (f g:Nat→Bool) (m:Bool):Prop:=(∀i,f i=true→g i=true)∧(m=true→cnt f n<cnt g n)∧(m=false→g=f)
theorem mSt.set {n:Nat} {L:Nat→Nat→Bool} {f g:Nat→Bool} {m:Bool} {a b:Nat} (h:mSt n f g m) (hb:b<n) (hc:(g a&&L a b&&!g b)=true):mSt n f (stp L a b g) true:=by
 obtain ⟨h1,h2,h3⟩:=h
 simp only [Bool.and_eq_true,Bool.not_eq_true'] at hc
 have hm:∀i,g i=true→stp L a b g i=true:=fun i hi=>b79 hi
 refine ⟨fun i hi=>hm i (h1 i hi),fun _=>?_,fun h=>by cases h⟩
 have hlt:cnt g n<cnt (stp L a b g) n:=cnt_lt hm hc.2 (by simp [stp,hc.1.1,hc.1.2]) n hb
 have:=cnt_mono h1 n
 omega
set_option maxHeartbeats 3200000 in
set_option maxRecDepth 1000000 in
theorem d8e (n kc m ec be oe p:Nat) (ka ea:Option Addr) (ev:Nat→Nat→Int) (t:Int) (w:World) (hp:p<n) (hn:n≤24) (hm:m≤9223372036854775807) (hea:0<m→ea=some ⟨be,oe,none⟩)
  (hP:∀k,k<m→ev k 0≤t→∃p q:Nat,p<24∧q<24∧ev k 2=p∧ev k 3=q)
  (hcell:∀k,k<m→w.cell? ⟨be,oe+k*4,none⟩=some (.int .i64 (ev k 0))∧w.cell? ⟨be,oe+k*4+1,none⟩=some (.int .i64 (ev k 1))∧w.cell? ⟨be,oe+k*4+2,none⟩=some (.int .i64 (ev k 2))∧w.cell? ⟨be,oe+k*4+3,none⟩=some (.int .i64 (ev k 3))) :
  Calls Tryz.prog 175 #[.agg #[.slice ka n kc,.slice ea m ec],.int .i64 p,.int .i64 t] w fun e w'=>∃ob,e=.returned (.slice (some ⟨ob,0,none⟩) n n)∧PV w w' n (zk ev t m) (.slice ka n kc) (.slice ea m ec) ob (oul (zk ev t m) n (fun i=>decide (i=p)) n):=by
 have hmk:=run_make_row' (P:=Tryz.prog) 168 4 (.bool false) 1 Tryz.underlying168 Tryz.i4 rfl .i64 .i64 n (by omega) (by omega)
 go_enter Tryz.func175,Tryz.ntmps175
 go_wp2
 go_loopg [17] m (fun g i wq=>∃k:Nat,k≤m∧g=m - k∧i=.int .i64 k∧PN w wq (zk ev t k) (.slice ka n kc) (.slice ea m ec))
 case atStart=>exact ⟨0,Nat.zero_le _,rfl,rfl,d3e w _ _⟩
 case round =>
  obtain ⟨k,hk,rfl,rfl,hB⟩:=hrel
  by_cases hkm:k<m
  ·obtain rfl:=hea (by omega)
   obtain ⟨c0,c1,c2,c3⟩:=hcell k hkm
   have hbe:be<w.heap.size:=World.block_lt_of_cell? _ _ c0
   have e0:wr.cell? ⟨be,oe+k*4,none⟩=some (.int .i64 (ev k 0)):=by rw [hB.since.cell (a:=⟨be,oe+k*4,none⟩) hbe];exact c0
   have e1:wr.cell? ⟨be,oe+k*4+1,none⟩=some (.int .i64 (ev k 1)):=by rw [hB.since.cell (a:=⟨be,oe+k*4+1,none⟩) hbe];exact c1
   have e2:wr.cell? ⟨be,oe+k*4+2,none⟩=some (.int .i64 (ev k 2)):=by rw [hB.since.cell (a:=⟨be,oe+k*4+2,none⟩) hbe];exact c2
   have e3:wr.cell? ⟨be,oe+k*4+3,none⟩=some (.int .i64 (ev k 3)):=by rw [hB.since.cell (a:=⟨be,oe+k*4+3,none⟩) hbe];exact c3
   have hP':=hP k hkm
   clear hP hcell c0 c1 c2 c3 hmk
   go_wp2
   ·have hle:ev k 0≤t:=by assumption
    obtain ⟨x,y,hx,hy,e2',e3'⟩:=hP' hle
    have ht2:∀o,(wr.alloc o).cell? ⟨w.heap.size+1,x*24+y,none⟩=some (.bool (zk ev t k x y)):=fun o=>by
     have:=(hB.tab.alloc o).cell (i:=x*24+y) (by omega)
     rw [show (x*24+y) / 24=x by omega,show (x*24+y) % 24=y by omega] at this
     exact this
    have ht3:∀o,(wr.alloc o).frozen? ⟨w.heap.size+1,x*24+y,none⟩=false:=fun o=>(hB.tab.alloc o).frozen _
    have hS:=fun o b hb=>hB.step hle e2' e3' hx hy o b hb
    clear e0 e1 e2 e3 hP'
    rw [e2',e3']
    go_region
    all_goals go_wp2
    go_roundg (m - (k+1))
    case measure=>omega
    case rel=>exact ⟨k+1,by omega,rfl,by simp,(hS _ _ rfl).drew⟩
   ·go_roundg (m - (k+1))
    case measure=>omega
    case rel=>exact ⟨k+1,by omega,rfl,by simp,hB.skip (by first|assumption|omega) _⟩
  ·have hkm : k=m:=by omega
   subst hkm
   clear hea hP hcell
   have hb0:wr.cell? ⟨w.heap.size,0,none⟩=some (.slice ka n kc):=by simp [World.cell?,hB.box]
   have hnew:=World.rowIs_made wr (.bool false) n 4
   have ho1:(wr.alloc (.cells (madeCells #[.bool false] n) 4)).cell? ⟨wr.heap.size,p,none⟩=some (.bool false):=hnew.cell hp
   have ho2:(wr.alloc (.cells (madeCells #[.bool false] n) 4)).frozen? ⟨wr.heap.size,p,none⟩=false:=hnew.frozen p
   have hV:=d3c (n:=n) (p:=p) hB
   clear hnew
   generalize hZ:zk ev t k=Z at hV ⊢
   go_wp2
   clear ho1 ho2 hb0 hmk hB
   have hV':PV w (wr.alloc (.cells ((madeCells #[.bool false] n).setIfInBounds p (.bool true)) 4)) n Z (.slice ka n kc) (.slice ea k ec) wr.heap.size (fun i=>decide (i=p)):=by
    rw [World.setCell_alloc_at _ _ _ _ _ rfl] at hV;exact hV
   clear hV
   generalize hob:wr.heap.size=ob at hV' ⊢
   generalize hW0:wr.alloc (.cells ((madeCells #[.bool false] n).setIfInBounds p (.bool true)) 4)=W0 at hV' ⊢
   try rw [show decide (k<k)=false by simp]
   go_loopg [11] (2*(n - cnt (fun i=>decide (i=p)) n)+1) (fun g i wq=>∃(j:Nat) (mm:Bool),g=2*(n - cnt (oul Z n (fun i=>decide (i=p)) j) n)+(bif mm then 1 else 0)∧i=.bool mm∧(mm=false→b1i Z n (oul Z n (fun i=>decide (i=p)) j) n=oul Z n (fun i=>decide (i=p)) j)∧PV w wq n Z (.slice ka n kc) (.slice ea k ec) ob (oul Z n (fun i=>decide (i=p)) j))
   case atStart=>exact ⟨0,true,rfl,rfl,fun h=>(by cases h),hV'⟩
   case round =>
    clear hV' hW0 hob
    obtain ⟨j,mm,rfl,rfl,hfix,hK⟩:=hrel
    have hb0:wr.cell? ⟨w.heap.size,0,none⟩=some (.slice ka n kc):=by simp [World.cell?,hK.pn.box]
    cases mm with
    | false =>
     have hfx:=hfix rfl
     clear hfix
     go_wp2
     go_ret
     refine ⟨ob,rfl,?_⟩
     rw [hZ,←b7o hp hfx]
     exact hK
    | true =>
     clear hfix
     generalize hF:oul Z n (fun i=>decide (i=p)) j=F at hK ⊢
     go_wp2
     go_loopg [11,46] n (fun g x y wq=>∃(a:Nat) (mm:Bool),a≤n∧g=n - a∧x=.bool mm∧y=.int .i64 a∧mSt n F (b1i Z n F a) mm∧PV w wq n Z (.slice ka n kc) (.slice ea k ec) ob (b1i Z n F a))
     case atStart=>exact ⟨0,false,Nat.zero_le _,rfl,rfl,rfl,⟨fun _ h=>h,fun h=>(by cases h),fun _=>rfl⟩,hK⟩
     case round =>
      clear hK hb0
      obtain ⟨a,mm,ha,rfl,rfl,rfl,hm1,hK⟩:=hrel
      have hb0:wr.cell? ⟨w.heap.size,0,none⟩=some (.slice ka n kc):=by simp [World.cell?,hK.pn.box]
      by_cases han:a<n
      ·go_wp2
       go_loopg [11,52] n (fun g x y wq=>∃(b:Nat) (mm:Bool),b≤n∧g=n - b∧x=.bool mm∧y=.int .i64 b∧mSt n F (inn Z a (b1i Z n F a) b) mm∧PV w wq n Z (.slice ka n kc) (.slice ea k ec) ob (inn Z a (b1i Z n F a) b))
       case atStart=>exact ⟨0,mm,Nat.zero_le _,rfl,rfl,rfl,hm1,hK⟩
       case round =>
        clear hK hb0 hm1
        obtain ⟨b,mm,hb,rfl,rfl,rfl,hm1,hK⟩:=hrel
        by_cases hbn:b<n
        ·obtain ⟨g1,g2,g3,g4,g5⟩:=hK.look han hbn hn
         have hS:=fun h=>hK.set (a:=a) (b:=b) h
         have hMs:=fun h=>hm1.set (L:=Z) (a:=a) hbn h
         have hN:=fun h=>e7b (L:=Z) (a:=a) (b:=b) (f:=inn Z a (b1i Z n F a) b) h
         have hI:inn Z a (b1i Z n F a) (b+1)=stp Z a b (inn Z a (b1i Z n F a) b):=rfl
         cases hfa:inn Z a (b1i Z n F a) b a with
         | false =>
          rw [hfa] at g2 hS hMs hN
          have hN:=hN rfl
          go_wp2
          go_roundg (n - (b+1))
          case measure=>omega
          case rel=>exact ⟨b+1,mm,by omega,rfl,rfl,by simp,by rw [hI,hN];exact hm1,by rw [hI,hN];exact hK⟩
         | true =>
          cases hza:Z a b with
          | false =>
           rw [hza] at g1 hS hMs hN
           rw [hfa] at g2 hN
           have hN:=hN rfl
           go_wp2
           go_roundg (n - (b+1))
           case measure=>omega
           case rel=>exact ⟨b+1,mm,by omega,rfl,rfl,by simp,by rw [hI,hN];exact hm1,by rw [hI,hN];exact hK⟩
          | true =>
           cases hfb:inn Z a (b1i Z n F a) b b with
           | true =>
            rw [hfb] at g3 hN
            rw [hza] at g1 hN
            rw [hfa] at g2 hN
            have hN:=hN rfl
            go_wp2
            go_roundg (n - (b+1))
            case measure=>omega
            case rel=>exact ⟨b+1,mm,by omega,rfl,rfl,by simp,by rw [hI,hN];exact hm1,by rw [hI,hN];exact hK⟩
           | false =>
            have hc:(inn Z a (b1i Z n F a) b a&&Z a b&&!inn Z a (b1i Z n F a) b b)=true:=by rw [hfa,hza,hfb];rfl
            have hS:=hS hc
            have hMs:=hMs hc
            rw [hfb] at g3
            rw [hza] at g1
            rw [hfa] at g2
            clear hN hc
            go_wp2
            go_roundg (n - (b+1))
            case measure=>omega
            case rel=>exact ⟨b+1,true,by omega,rfl,rfl,by simp,hMs,hS⟩
        ·have hbb:b=n:=by omega
         subst hbb
         go_wp2
         go_roundg (b - (a+1))
         case measure=>omega
         case rel=>exact ⟨a+1,mm,by omega,rfl,rfl,by simp,hm1,hK⟩
      ·have haa:a=n:=by omega
       subst haa
       go_wp2
       have hle:=b6s (b1i Z a F a) a
       go_roundg (2*(a - cnt (b1i Z a F a) a)+(bif mm then 1 else 0))
       case measure =>
        rw [hF]
        cases mm with
        | true=>have:=hm1.2.1 rfl;simp only [cond_true];omega
        | false=>rw [hm1.2.2 rfl];simp
       case rel =>
        refine ⟨j+1,mm,by rw [←hF];rfl,rfl,fun h=>?_,by rw [←hF] at hK;exact hK⟩
        have e:oul Z a (fun i=>decide (i=p)) (j+1)=b1i Z a F a:=by rw [←hF];rfl
        rw [e,hm1.2.2 h,hm1.2.2 h]
end Go.Proofs
namespace Go.Ab
open Go.RowKit Go.Proofs Go.Deep
def upF (n:Nat) (es:List (Int×Int×Int×Int)) (p t:Int):Option (List Bool) :=
 chk (inb p n&&decide (n≤24)) (chk (es.all fun e=>!decide (e.1≤t)||(inb e.2.2.1 24&&inb e.2.2.2 24)) (some ((List.range n).map (oul (zk (ev4 es) t es.length) n (fun i=>decide (i=p.toNat)) n))))
theorem g8l {ks:List Int} {α:Type} {es:List α} {f:α→V} {e4:α→Int×Int×Int×Int} (hf:∀a,f a=.agg [.int .i64 (e4 a).1,.int .i64 (e4 a).2.1,.int .i64 (e4 a).2.2.1,.int .i64 (e4 a).2.2.2]) {p t:Int} {y:List Bool} (hy:upF ks.length (es.map e4) p t=some y) :
  a0o Tryz.prog 175 [.agg [.sl (ks.map (V.int .i64)),.sl (es.map f)],.int .i64 p,.int .i64 t] [] (fun r H'=>r=.sl (y.map V.bool)∧H'=[]):=by
 have hes:es.map f=(es.map e4).map fun e=>.agg [.int .i64 e.1,.int .i64 e.2.1,.int .i64 e.2.2.1,.int .i64 e.2.2.2]:=by
  rw [List.map_map];exact List.map_congr_left fun a _=>hf a
 rw [hes]
 generalize es.map e4=es at hy
 unfold upF at hy
 cases hpn:(inb p ks.length&&decide (ks.length≤24)) with
 | false=>rw [hpn] at hy;simp [chk] at hy
 | true =>
 rw [o5 hpn] at hy
 rw [Bool.and_eq_true] at hpn
 have hp:=p8.1 hpn.1
 have hn:=of_decide_eq_true hpn.2
 cases hall:(es.all fun e=>!decide (e.1≤t)||(inb e.2.2.1 24&&inb e.2.2.2 24)) with
 | false=>rw [hall] at hy;simp [chk] at hy
 | true =>
 rw [hall] at hy
 simp only [chk,cond_true,Option.some.injEq] at hy
 refine a9l (by kernel_rfl) fun g w vals hH hsz hv=>?_
 have hd:=hv 0 _ rfl
 have hpv:=hv 1 _ rfl
 have ht:=hv 2 _ rfl
 rw [g5h hsz]
 generalize vals.getD 0 undef=dv at hd
 generalize vals.getD 1 undef=pv at hpv
 generalize vals.getD 2 undef=tv at ht
 obtain ⟨vs,rfl,hvl,hvr⟩:=hd.agg_inv
 have hk:=hvr 0 _ rfl
 have he:=hvr 1 _ rfl
 rw [f3c hvl]
 generalize vs.getD 0 undef=kv at hk
 generalize vs.getD 1 undef=ev at he
 obtain ⟨ka,kc,rfl,hkm⟩:=c3g hk
 rw [List.length_map] at hkm ⊢
 obtain ⟨be,oe,ea,ec,rfl,hea,hcell⟩:=b8u he
 obtain ⟨_,_,e2,hem⟩:=c3g he
 rw [List.length_map] at hem
 rw [ht.int_inv.1,hpv.int_inv.1]
 have hpn2:p=((p.toNat:Nat):Int):=by omega
 rw [hpn2]
 have hm:es.length≤9223372036854775807:=by unfold maxLen at hem;omega
 refine (d8e ks.length kc es.length ec be oe p.toNat ka ea (ev4 es) t w (by omega) hn hm hea (fun k hk hle=>?_) hcell).mono ?_
 ·have hmem:es.getD k (0,0,0,0)∈es:=by
   rw [List.getD_eq_getElem?_getD,List.getElem?_eq_getElem hk];exact List.getElem_mem hk
  have:=List.all_eq_true.1 hall _ hmem
  have hle':decide ((es.getD k (0,0,0,0)).1≤t)=true:=decide_eq_true hle
  simp only [hle',Bool.not_true,Bool.false_or,Bool.and_eq_true] at this
  obtain ⟨h1,h2⟩:=this
  have h1:=p8.1 h1
  have h2:=p8.1 h2
  exact ⟨((es.getD k (0,0,0,0)).2.2.1).toNat,((es.getD k (0,0,0,0)).2.2.2).toNat,by omega,by omega,by show (es.getD k (0,0,0,0)).2.2.1=_;omega,by show (es.getD k (0,0,0,0)).2.2.2=_;omega⟩
 ·rintro en w' ⟨ob,rfl,hB⟩
  refine ⟨_,rfl,hB.pn.since,?_⟩
  have hlo:=hB.lo
  have:=c8p (S:=fun b=>g.S b∨(w.heap.size≤b∧b<w'.heap.size)) hB.out (.inr ⟨by omega,hB.out.lt⟩) (by unfold maxLen;omega) (fun i _=>.bool _) fun i _=>⟨rfl,rfl,rfl⟩
  rw [←hy,List.map_map]
  exact this
end Go.Ab
namespace Go.Proofs
open Go.RowKit Go.Shelf
attribute [local go_sem] Oper.semAt_some
set_option maxRecDepth 100000 in
set_option maxHeartbeats 1000000 in
theorem e3g (F:Fence) (n:Nat) (h5:F.fn 152) (hro:F.round=none) (a:Option Addr) (len cap:Nat) (w:World) :
  CallsIn F n Tryz.prog 152 #[.slice a len cap] w fun e w'=>e=.returned (.func (.func 188) #[] #[.pointer (some ⟨w.heap.size,0,none⟩)])∧w'=w.alloc (.cells #[.slice a len cap] 40):=by
 refine callsIn_of_wp Tryz.func152 rfl h5 ?_ hro
 simp only [Tryz.ntmps152,List.size_toArray,List.length_cons,List.length_nil,Nat.reduceAdd,Nat.reduceSub,Array.replicate_succ,Array.replicate_zero,List.push_toArray,List.append_toArray,List.nil_append,List.cons_append]
 gi_wp2
 go_ret
 exact ⟨rfl,rfl⟩
set_option maxRecDepth 100000 in
set_option maxHeartbeats 2000000 in
theorem d5u (F:Fence) (n:Nat) (h8:F.fn 188) (hro:F.round=none) (hn:1≤n) (l bb bo b off len cap:Nat) (cs:Nat→Nat→Value) (hlen:len≤9223372036854775807) (J:Nat→World→Prop) (Jx:World→Prop)
  (hbox:∀k W,J k W→W.cell? ⟨bb,bo,none⟩=some (.slice (some ⟨b,off,none⟩) len cap))
  (hld:∀k W,J k W→∀i,i<len→W.cell? ⟨b,off+i*7,none⟩=some (cs i 0)∧W.cell? ⟨b,off+i*7+1,none⟩=some (cs i 1)∧W.cell? ⟨b,off+i*7+2,none⟩=some (cs i 2)∧W.cell? ⟨b,off+i*7+3,none⟩=some (cs i 3)∧W.cell? ⟨b,off+i*7+4,none⟩=some (cs i 4)∧W.cell? ⟨b,off+i*7+5,none⟩=some (cs i 5)∧W.cell? ⟨b,off+i*7+6,none⟩=some (cs i 6))
  (hY:∀k W,J k W→k<len→YieldAt F (n - 1) Tryz.prog l #[.int .i64 (((len - 1 - k:Nat):Int)),Value.agg #[cs (len - 1 - k) 0,cs (len - 1 - k) 1,cs (len - 1 - k) 2,cs (len - 1 - k) 3,cs (len - 1 - k) 4,cs (len - 1 - k) 5,cs (len - 1 - k) 6]] W fun e W' =>
   (e=.returned (.bool true)∧J (k+1) W')∨(e=.returned (.bool false)∧Jx W'))
  (W:World) (h0:J 0 W) :
  CallsIn F n Tryz.prog 188 #[.func (.yield l) #[] #[],.pointer (some ⟨bb,bo,none⟩)] W fun e W'=>(∃v,e=.returned v)∧(J len W'∨Jx W'):=by
 refine callsIn_of_wp Tryz.func188 rfl h8 ?_ hro
 simp only [Tryz.ntmps188,List.size_toArray,List.length_cons,List.length_nil,Nat.reduceAdd,Nat.reduceSub,Array.replicate_succ,Array.replicate_zero,List.push_toArray,List.append_toArray,List.nil_append,List.cons_append]
 have hb0:=hbox 0 W h0
 gi_wp2
 gi_loopw [3] (fun i wr=>∃k:Nat,k≤len∧i=.int .i64 ((len:Int) - 1 - k)∧J k wr) (fun i _=>(intOf i+1).toNat)
 case atStart =>
  exact ⟨0,Nat.zero_le _,by simp,h0⟩
 case round =>
  obtain ⟨k,hk,rfl,hJk⟩:=hrel
  have hbk:=hbox k _ hJk
  by_cases hlt:k<len
  ·obtain ⟨fn,tmps,assign,body,hy,hR⟩:=hY k _ hJk hlt
   obtain ⟨c0,c1,c2,c3,c4,c5,c6⟩:=hld k _ hJk (len - 1 - k) (by omega)
   have hidx:((len - 1 - k:Nat):Int)=(len:Int) - 1 - k:=by omega
   rw [hidx] at hy
   have hpos:(0:Int)≤(len:Int) - 1 - k:=by omega
   have hkb:(k:Int)≤(len:Int) - 1:=by omega
   gi_wp2
   refine hR.mono ?_
   rintro e W3 (⟨rfl,hJ3⟩|⟨rfl,hJx3⟩)
   ·gi_wp2
    go_roundw
    case rel=>exact ⟨k+1,by omega,by simp;omega,hJ3⟩
    case measure=>simp [intOf];omega
   ·gi_wp2
    refine bodyPost_ret (results_none rfl _ _ _) rfl ?_
    exact ⟨⟨_,rfl⟩,.inr hJx3⟩
  ·obtain rfl:k=len:=by omega
   gi_wp2
   go_end0
   exact ⟨⟨_,rfl⟩,.inl hJk⟩
set_option maxRecDepth 100000 in
set_option maxHeartbeats 1000000 in
theorem a8f (F:Fence) (n:Nat) (h8:F.fn 188) (hro:F.round=none) (l bb bo cap:Nat) (a:Option Addr) (J:World→Prop) (W:World)
  (hb0:W.cell? ⟨bb,bo,none⟩=some (.slice a 0 cap)) (h0:J W) :
  CallsIn F n Tryz.prog 188 #[.func (.yield l) #[] #[],.pointer (some ⟨bb,bo,none⟩)] W fun e W'=>(∃v,e=.returned v)∧J W':=by
 refine callsIn_of_wp Tryz.func188 rfl h8 ?_ hro
 simp only [Tryz.ntmps188,List.size_toArray,List.length_cons,List.length_nil,Nat.reduceAdd,Nat.reduceSub,Array.replicate_succ,Array.replicate_zero,List.push_toArray,List.append_toArray,List.nil_append,List.cons_append]
 gi_wp2
 gi_loopw [3] (fun i wr=>i=.int .i64 (-1)∧J wr) (fun _ _=>0)
 case atStart=>exact ⟨rfl,h0⟩
 case round =>
  obtain ⟨rfl,hJs⟩:=hrel
  gi_wp2
  go_end0
  exact ⟨⟨_,rfl⟩,hJs⟩
end Go.Proofs
namespace Go.Ab
open Go.RowKit Go.Proofs
def e5p (xs:List V):List (List V):=(List.range xs.length).map fun k=>[.int .i64 ((xs.length - 1 - k:Nat):Int),xs.getD (xs.length - 1 - k) .any]
theorem c6u (xs:List V) (hx:∀x∈xs,∃cs,x=.agg cs∧x.cells=cs∧cs.length=7):b8k Tryz.prog 188 [.eptr (.agg [.sl xs]) 0] [] (e5p xs):=by
 refine ⟨by kernel_rfl,fun g w lb hH hlb hv l J Jx hJ hJx hY h0=>a6n (r:=none) (n:=0) (a8w (r:=none) (n:=1) ?_)⟩
 have hv0:=hv 0 _ rfl
 have hlbe:lb=#[lb.getD 0 undef]:=by
  have:lb.size=1:=hlb
  apply Array.ext
  ·simp [this]
  ·intro i h1 h2
   have:i=0:=by omega
   subst this
   simp only [List.getElem_toArray,List.getElem_cons_zero]
   rw [Array.getD_eq_getD_getElem?,Array.getElem?_eq_getElem h1,Option.getD_some]
 rw [hlbe]
 generalize lb.getD 0 undef=v at hv0
 have hlen:(e5p xs).length=xs.length:=by simp [e5p]
 rw [hlen]
 cases hv0 with
 | rd h=>cases h
 | eptr b o off cur e fz x hS hg hb hr =>
  have hrd:=hr 0 (.sl xs) (by simp [V.cells])
  have hsz:o<cur.size:=by simp [V.cells] at hb;omega
  have hbox:∀W,a2d g.S w W→W.cell? ⟨b,o+0,none⟩=some (cur.getD (o+0) undef):=fun W hk=>by
   simp only [World.cell?,hk b hS,hg]
   simp [Array.getD_eq_getD_getElem?,hsz]
  generalize cur.getD (o+0) undef=sv at hrd hbox
  cases hrd with
  | nilsl =>
   refine (a8f (WF none) 1 trivial rfl l b (o+0) 0 none (J 0) w (hbox w fun _ _=>rfl) h0).mono fun e W' ⟨h1,h2⟩=>⟨h1,.inl h2⟩
  | slz a cap =>
   refine (a8f (WF none) 1 trivial rfl l b (o+0) cap (some a) (J 0) w (hbox w fun _ _=>rfl) h0).mono fun e W' ⟨h1,h2⟩=>⟨h1,.inl h2⟩
  | sl g' o' len cap k cur2 e2 fz2 xs hS2 hg2 hl hm hc hb2 hk hr2 =>
   by_cases h0l:len=0
   ·subst h0l
    rw [hl]
    exact (a8f (WF none) 1 trivial rfl l b (o+0) cap _ (J 0) w (hbox w fun _ _=>rfl) h0).mono fun e W' ⟨h1,h2⟩=>⟨h1,.inl h2⟩
   have hx7:∀i,(hi:i<xs.length)→∃cs,xs[i]=.agg cs∧(xs[i]).cells=cs∧cs.length=7:=fun i hi=>hx _ (List.getElem_mem hi)
   have hk7:k=7:=by
    obtain ⟨cs,e1,e2,e3⟩:=hx7 0 (by omega)
    have:=(hk _ (List.getElem_mem (show 0<xs.length by omega))).1
    rw [e2,e3] at this;exact this.symm
   subst hk7
   have hsz2:o'+len*7≤cur2.size:=hb2.resolve_left h0l
   have hcell:∀W,a2d g.S w W→∀i j,i<len→j<7→W.cell? ⟨g',o'+i*7+j,none⟩=some (cur2.getD (o'+i*7+j) undef):=fun W hkW i j hi hj=>by
    have hlt:o'+i*7+j<cur2.size:=by omega
    simp only [World.cell?,hkW g' hS2,hg2]
    simp [Array.getD_eq_getD_getElem?,hlt]
   rw [hl]
   refine (d5u (WF none) 1 trivial rfl (Nat.le_refl _) l b (o+0) g' o' len cap (fun i j=>cur2.getD (o'+i*7+j) undef) (by unfold maxLen at hm;omega) (fun k W=>J k W∧a2d g.S w W) Jx (fun k W h=>hbox W h.2)
    (fun k W h i hi=>⟨hcell W h.2 i 0 hi (by omega),hcell W h.2 i 1 hi (by omega),hcell W h.2 i 2 hi (by omega),hcell W h.2 i 3 hi (by omega),hcell W h.2 i 4 hi (by omega),hcell W h.2 i 5 hi (by omega),hcell W h.2 i 6 hi (by omega)⟩)
    (fun k W h hlt=>?_) w ⟨h0,fun _ _=>rfl⟩).mono fun e W' ⟨h1,h2⟩=>⟨h1,h2.imp And.left id⟩
   have hvals:∀(i:Nat) (x:V),[V.int .i64 ((xs.length - 1 - k:Nat):Int),xs.getD (xs.length - 1 - k) .any][i]?=some x→VR g W ((#[Value.int .i64 ((xs.length - 1 - k:Nat):Int),Value.agg #[cur2.getD (o'+(len - 1 - k)*7+0) undef,cur2.getD (o'+(len - 1 - k)*7+1) undef,cur2.getD (o'+(len - 1 - k)*7+2) undef,cur2.getD (o'+(len - 1 - k)*7+3) undef,cur2.getD (o'+(len - 1 - k)*7+4) undef,cur2.getD (o'+(len - 1 - k)*7+5) undef,cur2.getD (o'+(len - 1 - k)*7+6) undef]]).getD i undef) x:=by
    intro i x hi
    match i with
    | 0 =>
     simp at hi;subst hi
     refine .rd (.int _ _ ?_)
     unfold maxLen at hm
     simp [inR,IntKind.min,IntKind.max,IntKind.signed,IntKind.bits]
     omega
    | 1 =>
     simp at hi
     have hlt2:xs.length - 1 - k<xs.length:=by omega
     have hxe:x=xs[xs.length - 1 - k]:=by
      rw [←hi];simp [hlt2]
     obtain ⟨cs,e1,e2,e3⟩:=hx7 _ hlt2
     rw [hxe,e1]
     refine .agg _ _ (by simp [e3]) fun j c hj=>?_
     have hj7:j<7:=by rw [←e3];exact (List.getElem?_eq_some_iff.1 hj).1
     have:=(hr2 (xs.length - 1 - k) j _ c (List.getElem?_eq_getElem hlt2) (by rw [e2];exact hj)).mono (S':=g.S) (w':=W) h.2 fun _ h=>h
     rw [hl] at this
     have e7:(#[cur2.getD (o'+(len - 1 - k)*7+0) undef,cur2.getD (o'+(len - 1 - k)*7+1) undef,cur2.getD (o'+(len - 1 - k)*7+2) undef,cur2.getD (o'+(len - 1 - k)*7+3) undef,cur2.getD (o'+(len - 1 - k)*7+4) undef,cur2.getD (o'+(len - 1 - k)*7+5) undef,cur2.getD (o'+(len - 1 - k)*7+6) undef]).getD j undef=cur2.getD (o'+(len - 1 - k)*7+j) undef:=by
      match j,hj7 with
      | 0,_|1,_|2,_|3,_|4,_|5,_|6,_=>rfl
     rw [e7]
     exact .rd this
    | i+2=>simp at hi
   obtain ⟨fn,tmps,asg,body,hy,hR⟩:=hY k [.int .i64 ((xs.length - 1 - k:Nat):Int),xs.getD (xs.length - 1 - k) .any] W #[.int .i64 ((xs.length - 1 - k:Nat):Int),Value.agg #[cur2.getD (o'+(len - 1 - k)*7+0) undef,cur2.getD (o'+(len - 1 - k)*7+1) undef,cur2.getD (o'+(len - 1 - k)*7+2) undef,cur2.getD (o'+(len - 1 - k)*7+3) undef,cur2.getD (o'+(len - 1 - k)*7+4) undef,cur2.getD (o'+(len - 1 - k)*7+5) undef,cur2.getD (o'+(len - 1 - k)*7+6) undef]] (by simp [e5p,show k<xs.length from (by omega)]) rfl hvals h.1
   ·rw [hl] at hy
    refine ⟨fn,tmps,asg,body,hy,hR.mono ?_⟩
    rintro e W' (⟨e1,j1,k1⟩|h3)
    ·exact .inl ⟨e1,j1,fun q hq=>(k1.1 q hq).trans (h.2 q hq)⟩
    ·exact .inr h3
def d22 {α:Type} [Inhabited α] (l:List α):List (Int×α):=(List.range l.length).map fun k=>(((l.length - 1 - k:Nat):Int),l.getD (l.length - 1 - k) default)
def e3h {α:Type} (_:List α):Option Unit:=some ()
theorem g8o {α:Type} {f:α→V} {l:List α} {y:Unit} (_:e3h l=some y):a0o Tryz.prog 152 [.sl (l.map f)] [] (fun r H'=>r=.fn (.func 188) [.eptr (.agg [.sl (l.map f)]) 0]∧H'=[]) :=
 a96 (by kernel_rfl) (fun a len cap w=>a8w (r:=none) (n:=1) (e3g (WF none) 1 trivial rfl a len cap w)) _
theorem g8n {α:Type} [Inhabited α] {f:α→V} {l:List α} (hf:∀a,∃cs,f a=.agg cs∧(f a).cells=cs∧cs.length=7):b8k Tryz.prog 188 [.eptr (.agg [.sl (l.map f)]) 0] [] ((d22 l).map fun a=>[.int .i64 a.1,f a.2]):=by
 have h:=c6u (l.map f) (fun x hx=>by obtain ⟨a,_,rfl⟩:=List.mem_map.1 hx;exact hf a)
 have e:e5p (l.map f)=(d22 l).map fun a=>[.int .i64 a.1,f a.2]:=by
  unfold e5p d22
  rw [List.map_map,List.length_map]
  refine List.map_congr_left fun k hk=>?_
  have:=List.mem_range.1 hk
  have hl:l.length - 1 - k<l.length:=by omega
  simp [hl]
 rwa [e] at h
end Go.Ab