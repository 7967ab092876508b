/- What the functions of this seat that lie on the laws' road compute (part LN), each for every input. By AI agents. -/
import Derived.Test.YtoojdaakeiadjaaGreatDoorProg
import Derived.KernelRfl
import Derived.Test.YtoojdaakeiadjaaGreatDoorSL
import Derived.Test.YtoojdaakeiadjaaGreatDoorAbFun
import Derived.RangeFuncBox
import Derived.RangeFuncLeaves
import Derived.Shelf.Abstract
import Derived.WalkKit
import Derived.OwnWalkIn
import Derived.TacticsInMore
import Derived.LoopNIn
import Derived.LoopIn
import Derived.Lib.Bytealg
set_option linter.all false
namespace Go.Ab
def a1c:Str→List Str
 | []=>[]
 | c::r=>bif c==10 then [c]::a1c r else match a1c r with
  | []=>[[c]]
  | l::q=>(c::l)::q
theorem indexByte_ge (c:UInt8):∀s:Str,-1≤Lib.indexByte s c∧(Lib.indexByte s c)<s.length
 | []=>by simp [Lib.indexByte]
 | b::r=>by
  have ih:=indexByte_ge c r
  simp only [Lib.indexByte]
  split
  ·simp
  ·split<;>simp<;>omega
theorem b4w:∀{s:Str},s≠[]→a1c s=bif decide (0≤Lib.indexByte s 10) then s.take (Lib.indexByte s 10+1).toNat::a1c (s.drop (Lib.indexByte s 10+1).toNat) else [s]
 | [],h=>absurd rfl h
 | c :: r,_=>by
  have hge:=indexByte_ge 10 r
  simp only [a1c,Lib.indexByte]
  by_cases hc:c=10
  ·subst hc;simp
  ·have hc':(c==10)=false:=by simpa using hc
   simp only [hc',cond_false,Bool.false_eq_true,if_false]
   by_cases hr:r=[]
   ·subst hr;simp [a1c,Lib.indexByte]
   ·rw [b4w hr]
    by_cases hi:Lib.indexByte r 10=-1
    ·simp [hi]
    ·have h0:0≤Lib.indexByte r 10:=by omega
     have e1:(Lib.indexByte r 10==-1)=false:=by simpa using hi
     have e2:(Lib.indexByte r 10+1+1).toNat=(Lib.indexByte r 10+1).toNat+1:=by omega
     simp only [e1,if_false,h0,Bool.false_eq_true]
     have h1:0≤Lib.indexByte r 10+1:=by omega
     simp only [h0,h1,decide_true,cond_true,e2,List.take_succ_cons,List.drop_succ_cons]
def c8n (b:Nat) (W:World):Nat:=((W.heap[b]?).bind fun o=>match o with|.cells cur _ _=>some (match cur.getD 0 undef with|.string x=>x.size|_=>0)|_=>none).getD 0
theorem b0l {b:Nat} {W:World} {x:ByteArray} {e:TypeId} {fz:Nat×Nat} (h:W.heap[b]?=some (.cells #[.string x] e fz)):c8n b W=x.size:=by simp [c8n,h]
end Go.Ab
namespace Go.Proofs
open Go.RowKit Go.Shelf Go.Ab
attribute [local go_sem] Oper.semAt_some
set_option maxRecDepth 100000 in
set_option maxHeartbeats 2000000 in
theorem c77 (F0:Fence) (n:Nat) (h8:F0.fn 53) (h9:F0.fn 54) (hn:1≤n) (l b:Nat) (e:TypeId) (fz:Nat×Nat) (s:Str) (J:Nat→World→Prop) (Jx:World→Prop)
  (hix:∀(s:ByteArray) (w:World),CallsIn { F0 with round:=none } (n - 1) Tryz.prog 54 #[.string s,.int .u8 10] w fun e w'=>e=.returned (.int .i64 (Lib.indexByte s.data.toList 10))∧w'=w)
  (hfz:∀(W:World) cur,W.heap[b]?=some (.cells cur e fz)→W.frozen? ⟨b,0,none⟩=false)
  (hst:∀k W W',J k W→W'.os=W.os→W'.tape=W.tape→W'.output=W.output→W'.heap.size=W.heap.size→(∀c,c≠b→W'.heap[c]?=W.heap[c]?)→J k W')
  (hY:∀k x W,(a1c s)[k]?=some x→J k W→YieldAt { F0 with round:=none } (n - 1) Tryz.prog l #[.string ⟨x.toArray⟩] W fun e W' =>
   (e=.returned (.bool true)∧J (k+1) W'∧W'.heap[b]?=W.heap[b]?)∨(e=.returned (.bool false)∧Jx W'))
  (W:World) (h0:J 0 W) (hsm:s.length≤9223372036854775807) (hb:W.heap[b]?=some (.cells #[.string ⟨s.toArray⟩] e fz)) :
  CallsIn { F0 with round:=none } n Tryz.prog 53 #[.func (.yield l) #[] #[],.pointer (some ⟨b,0,none⟩)] W fun e W'=>(∃v,e=.returned v)∧(J (a1c s).length W'∨Jx W'):=by
 refine callsIn_of_wp Tryz.func53 rfl h8 ?_ rfl
 simp only [Tryz.ntmps53,List.size_toArray,List.length_cons,List.length_nil,Nat.reduceAdd,Nat.reduceSub,Array.replicate_succ,Array.replicate_zero,List.push_toArray,List.append_toArray,List.nil_append,List.cons_append]
 gi_wp2
 gi_loopw [] (fun wr=>∃(k:Nat) (rest:Str),wr.heap[b]?=some (.cells #[.string ⟨rest.toArray⟩] e fz)∧rest.length≤s.length∧k≤(a1c s).length∧a1c rest=(a1c s).drop k∧J k wr) (fun wr=>c8n b wr)
 case atStart =>
  exact ⟨0,s,hb,Nat.le_refl _,Nat.zero_le _,by simp,h0⟩
 case round =>
  obtain ⟨k,rest,hbk,hrl,hkl,hrk,hJk⟩:=hrel
  have hcell:wr.cell? ⟨b,0,none⟩=some (.string ⟨rest.toArray⟩):=by simp [World.cell?,hbk]
  have hfr:=hfz wr _ hbk
  by_cases hr:rest=[]
  ·subst hr
   gi_wp2
   go_end0
   have hk:k=(a1c s).length:=by
    have:=congrArg List.length hrk
    simp [a1c] at this
    omega
   subst hk
   exact ⟨⟨_,rfl⟩,.inl hJk⟩
  ·have hpos:0<rest.length:=List.length_pos_iff.2 hr
   have hw3:∀v:Value,(wr.setCell ⟨b,0,none⟩ v).heap[b]?=some (.cells #[v] e fz):=fun v=>by
    simp [World.setCell,Array.getElem?_modify,hbk]
   have hJ3:∀v:Value,J k (wr.setCell ⟨b,0,none⟩ v):=fun v=>hst k wr _ hJk rfl rfl rfl (by simp) fun c hc=>by
    simp only [World.setCell,Array.getElem?_modify]
    rw [if_neg fun e=>hc e.symm]
   have hstep:=b4w hr
   rw [hrk] at hstep
   have hge:=indexByte_ge 10 rest
   by_cases hi:0≤Lib.indexByte rest 10
   ·obtain ⟨j,hj⟩:∃j:Nat,Lib.indexByte rest 10=j:=⟨_,(Int.toNat_of_nonneg hi).symm⟩
    have hjl:j<rest.length:=by omega
    have hj1:(j:Int)+1≤rest.length:=by omega
    have hj2:(0:Int)≤(j:Int)+1:=by omega
    have hj3:j+1≤rest.length:=by omega
    have hjm:(j:Int)+1≤9223372036854775807:=by omega
    have hjt:((j:Int)+1).toNat=j+1:=by omega
    have hix':∀w:World,CallsIn { F0 with round:=none } (n - 1) Tryz.prog 54 #[.string ⟨rest.toArray⟩,.int .u8 10] w fun e w'=>e=.returned (.int .i64 (j:Int))∧w'=w:=fun w=>by
     have:=hix ⟨rest.toArray⟩ w
     simp only [hj] at this
     exact this
    gi_wp2_with (gi_at_call 54;refine (hix' _).mono ?_;rintro e w' ⟨rfl,rfl⟩)
    gi_region
    have e1:(⟨rest.toArray⟩:ByteArray).extract 0 (j+1)=⟨(rest.take (j+1)).toArray⟩:=by
     apply ByteArray.ext
     simp
    have e2:(⟨rest.toArray⟩:ByteArray).extract (j+1) (List.length rest)=⟨(rest.drop (j+1)).toArray⟩:=by
     apply ByteArray.ext
     simp only [ByteArray.data_extract,List.extract_toArray,List.extract_eq_take_drop]
     rw [List.take_of_length_le (by simp)]
    rw [e1,e2]
    have hst2:(a1c s).drop k=rest.take (j+1)::a1c (rest.drop (j+1)):=by
     rw [hstep,decide_eq_true hi,hj,hjt];rfl
    have hx:(a1c s)[k]?=some (rest.take (j+1)):=by
     have:((a1c s).drop k)[0]?=some (rest.take (j+1)):=by rw [hst2];rfl
     simpa using this
    have hd:(a1c s).drop (k+1)=a1c (rest.drop (j+1)):=by
     rw [←List.drop_drop,hst2];rfl
    have hJ5:J k (w'.setCell ⟨b,0,none⟩ (.string ⟨(rest.drop (j+1)).toArray⟩)).drew:=hst k _ _ (hJ3 _) rfl rfl rfl rfl fun c hc=>rfl
    have hw5:(w'.setCell ⟨b,0,none⟩ (.string ⟨(rest.drop (j+1)).toArray⟩)).drew.heap[b]?=some (.cells #[.string ⟨(rest.drop (j+1)).toArray⟩] e fz):=hw3 _
    obtain ⟨fn,tmps,assign,body,hy,hR⟩:=hY k _ _ hx hJ5
    generalize hWW:(w'.setCell ⟨b,0,none⟩ (.string ⟨(rest.drop (j+1)).toArray⟩)).drew=WW at *
    gi_wp2
    refine hR.mono ?_
    rintro en W3 (⟨rfl,hJ4,hb4⟩|⟨rfl,hJx4⟩)
    ·rw [hw5] at hb4
     gi_wp2
     go_roundw
     case rel =>
      refine ⟨k+1,rest.drop (j+1),hb4,by simp;omega,?_,hd.symm,hJ4⟩
      exact (List.getElem?_eq_some_iff.1 hx).1
     case measure =>
      rw [b0l hb4,b0l hbk]
      show (rest.drop (j+1)).toArray.size<rest.toArray.size
      simp;omega
    ·gi_wp2
     refine bodyPost_ret (results_none rfl _ _ _) rfl ?_
     exact ⟨⟨_,rfl⟩,.inr hJx4⟩
   ·have hx:(a1c s)[k]?=some rest:=by
     have:((a1c s).drop k)[0]?=some rest:=by rw [hstep];simp [hi]
     simpa using this
    have hd:(a1c s).drop (k+1)=[]:=by
     rw [←List.drop_drop,hstep];simp [hi]
    obtain ⟨fn,tmps,assign,body,hy,hR⟩:=hY k rest _ hx (hJ3 (.string ⟨#[]⟩))
    gi_wp2_with (gi_at_call 54;refine (hix _ _).mono ?_;rintro e w' ⟨rfl,rfl⟩)
    refine hR.mono ?_
    rintro en W3 (⟨rfl,hJ4,hb4⟩|⟨rfl,hJx4⟩)
    ·rw [hw3] at hb4
     gi_wp2
     go_roundw
     case rel =>
      refine ⟨k+1,[],hb4,Nat.zero_le _,?_,by rw [hd];rfl,hJ4⟩
      exact (List.getElem?_eq_some_iff.1 hx).1
     case measure =>
      rw [b0l hb4,b0l hbk]
      show (#[]:Array UInt8).size<rest.toArray.size
      simpa using hpos
    ·gi_wp2
     refine bodyPost_ret (results_none rfl _ _ _) rfl ?_
     exact ⟨⟨_,rfl⟩,.inr hJx4⟩
end Go.Proofs
namespace Go.Ab
open Go.RowKit Go.Proofs
theorem b4x:∀{s x:Str},x∈a1c s→x.length≤s.length
 | [],x,h=>by cases h
 | c::r,x,h=>by
  simp only [a1c] at h
  by_cases hc:(c==10)=true
  ·rw [hc,cond_true] at h
   rcases List.mem_cons.1 h with rfl|h
   ·simp
   ·have:=b4x h;simp;omega
  ·rw [Bool.not_eq_true] at hc
   rw [hc,cond_false] at h
   have ih:=fun z hz=>b4x (s:=r) (x:=z) hz
   generalize a1c r=q at h ih
   cases q with
   | nil=>simp at h;subst h;simp
   | cons l t =>
    rcases List.mem_cons.1 h with rfl|h
    ·have:=ih l (by simp);simp;omega
    ·have:=ih x (by simp [h]);simp;omega
theorem g58 (id:Nat) (s:Str):c9h Tryz.prog 53 [.ptr id 0] [(id,.cells [.str s])] ((a1c s).map fun a=>[.str a]):=by
 refine ⟨by kernel_rfl,fun g w lb hH hlb hv l J Jx hJ hJx hY h0=>b2a (r:=none) (n:=0) (c36 (r:=none) (n:=1) ?_)⟩
 have hv0:=(hv 0 _ rfl).ptr_inv
 have hlbe:lb=#[lb.getD 0 undef]:=by
  have:lb.size=1:=hlb
  apply Array.ext
  ·simp [this]
  ·intro i h1 h2
   have:i=0:=by omega
   subst this
   simp only [List.getElem_toArray,List.getElem_cons_zero]
   rw [Array.getD_eq_getD_getElem?,Array.getElem?_eq_getElem h1,Option.getD_some]
 rw [hlbe,hv0]
 have hfind:find id ([(id,.cells [.str s])]:Heap)=some (.cells [.str s]):=by simp [find]
 obtain ⟨hn,cur,e,fz,h1,h2,⟨h3,h4⟩,h5⟩:=hH.obj id _ hfind
 have hp0:=h5 0 _ rfl
 have hblk:∀b,d33 g [(id,.cells [.str s])] b↔b=g.ρ id:=fun b=>by
  constructor
  ·rintro ⟨i,o,hi,hni,hq⟩
   have:i=id:=by
    simp only [find] at hi
    cases hb:Nat.beq i id with
    | true=>exact Nat.eq_of_beq_eq_true hb
    | false=>rw [hb] at hi;cases hi
   subst this
   rw [hfind] at hi;cases hi
   rcases hq with hq|hq
   ·exact hq.symm
   ·exact absurd hq.rws (by simp [a03.isRws])
  ·rintro rfl;exact ⟨id,_,hfind,hn,.inl rfl⟩
 have hS:¬g.S (g.ρ id):=hH.sep id _ hfind hn
 simp only [List.length_cons,List.length_nil,Nat.zero_add] at h2
 obtain ⟨ba,hba,hsz,hbs⟩:∃ba:ByteArray,cur.getD 0 undef=.string ba∧ba.size≤maxLen∧ba=⟨s.toArray⟩:=by
  obtain ⟨t,e1,e2,e3⟩:=hp0.str_inv
  exact ⟨t,e1,e3,by subst e2;simp⟩
 have hcur:cur=#[.string ⟨s.toArray⟩]:=by
  apply Array.ext
  ·simp [h2]
  ·intro i q1 q2
   have:i=0:=by omega
   subst this
   rw [Array.getD_eq_getD_getElem?,Array.getElem?_eq_getElem q1,Option.getD_some] at hba
   rw [hba,hbs];rfl
 subst hcur
 have hlen:s.length≤maxLen:=by
  rw [hbs] at hsz
  have:(⟨s.toArray⟩:ByteArray).size=s.length:=by show s.toArray.size=_;simp
  omega
 have hK:∀W W',a1l g.S w W→(∀c,c≠g.ρ id→W'.heap[c]?=W.heap[c]?)→a1l g.S w W':=fun W W' h hc b hb=>(hc b fun e=>hS (e▸hb)).trans (h b hb)
 rw [List.length_map]
 refine (c77 Fence.wide 1 trivial trivial (Nat.le_refl _) l (g.ρ id) e fz s (fun k W=>J k W∧a1l g.S w W) Jx ?_ ?_ ?_ ?_ w ⟨h0,fun _ _=>rfl⟩ (by unfold maxLen at hlen;omega) h1).mono fun e W' ⟨h1,h2⟩=>⟨h1,h2.imp And.left fun h=>h⟩
 ·intro q W
  refine (b2a (r:=none) (n:=0) (Tryz.strings_IndexByte q 10 W)).mono ?_
  rintro en W' ⟨rfl,rfl⟩
  exact ⟨rfl,rfl⟩
 ·intro W cur' hc
  have:=h3.at (i:=0) (by omega)
  simp only [World.frozen?,hc]
  exact this
 ·rintro k W W' ⟨hj,hk⟩ a1 a2 a3 a4 a5
  exact ⟨hJ k W W' hj ⟨a1,a2,a3,by omega,fun b _ hb=>a5 b fun e=>hb ((hblk b).2 e)⟩,hK W W' hk a5⟩
 ·rintro k x W hx ⟨hj,hk⟩
  obtain ⟨fn,tmps,assign,body,hy,hR⟩:=(hY k [.str x] W #[.string ⟨x.toArray⟩] (by rw [List.getElem?_map,hx];rfl) rfl (fun i y hy=>by
   match i with
   | 0 =>
    simp at hy;subst hy
    have hm:x.length≤s.length:=b4x (List.mem_of_getElem? hx)
    exact b6a x (Nat.le_trans hm hlen)
   | i+1=>simp at hy) hj)
  refine ⟨fn,tmps,assign,body,hy,hR.mono ?_⟩
  ·rintro en W' (⟨rfl,hj',hkp,hb⟩|⟨rfl,hx'⟩)
   ·exact .inl ⟨rfl,⟨hj',fun b hb=>(hkp b hb).trans (hk b hb)⟩,hb _ ((hblk _).2 rfl)⟩
   ·exact .inr ⟨rfl,hx'⟩
def f5f (_:Str):Option Unit:=some ()
def ix1 (s t:Str):Option Int:=match t with
 | [c]=>some (Lib.indexByte s c)
 | _=>none
theorem e6s {g:Gh} {w:World} {n:Int} (h0:-9223372036854775808≤n) (h1:n≤9223372036854775807):VR g w (.int .i64 n) (.int .i64 n):=.rd (.int _ _ (by simp [inR,IntKind.min,IntKind.max,IntKind.signed,IntKind.bits];omega))
theorem e6p {g:Gh} {w:World} {s:Str} {c:UInt8} (h:s.length≤maxLen):VR g w (.int .i64 (Lib.indexByte s c)) (.int .i64 (Lib.indexByte s c)):=by
 have:=indexByte_ge c s
 unfold maxLen at h
 exact e6s (by omega) (by omega)
open Go.Sort Go.Lib in
theorem f5j (w:World):∃k os,w=grow (w.drewN k) os:=⟨0,#[],by simp [grow,World.drewN]⟩
theorem g57 {s t:Str} {y:Int} (hy:ix1 s t=some y):l9 Tryz.prog 118 [.str s,.str t] [] (fun r H=>r=.int .i64 y∧H=[]):=by
 match t,hy with
 | [c],hy =>
  cases hy
  refine b2b (by kernel_rfl) fun g w vals hH hl hv=>?_
  obtain ⟨t,e1,e2,e3⟩:=(hv 0 _ rfl).str_inv
  obtain ⟨u,f1,f2,f3⟩:=(hv 1 _ rfl).str_inv
  have hu:u=⟨#[c]⟩:=by
   apply ByteArray.ext
   apply Array.toList_inj.1
   rw [f2]
  rw [f0k hl,e1,f1,hu]
  refine (Tryz.stringslite_Index_one t c w).mono ?_
  rintro en w' ⟨rfl,rfl⟩
  rw [e2]
  have hm:s.length≤maxLen:=by
   subst e2
   have:t.data.toList.length=t.size:=Array.length_toList
   omega
  exact ⟨_,rfl,fun g w'=>e6p hm,f5j _⟩
set_option maxRecDepth 100000 in
theorem c4l (s:ByteArray) (w:World):Calls Tryz.prog 31 #[.string s] w fun e w'=>e=.returned (.func (.func 53) #[] #[.pointer (some ⟨w.heap.size,0,none⟩)])∧w'=w.alloc (.cells #[.string s] 9):=by
 go_enter Tryz.func31,Tryz.ntmps31
 go_wp2
 go_ret
 exact ⟨rfl,rfl⟩
theorem g56 {s:Str} {y:Unit} (hy:f5f s=some y):l9 Tryz.prog 31 [.str s] [] (fun r H=>r=.fn (.func 53) [.ptr 1900 0]∧H=[(1900,.cells [.str s])]):=by
 refine a2a ⟨.fn (.func 53) [.ptr 1900 0],[],[(1900,.cells [.str s])]⟩ (by kernel_rfl) fun g w vals hH hl hv=>?_
 obtain ⟨t,e1,e2,e3⟩:=(hv 0 _ rfl).str_inv
 rw [e2i hl,e1]
 refine (c4l t w).mono ?_
 rintro en w' ⟨rfl,rfl⟩
 have hg:(g.set 1900 w.heap.size 0 0).ρ 1900=w.heap.size:=by simp [Gh.set]
 refine ⟨_,g.set 1900 w.heap.size 0 0,rfl,q9.alloc _ 1900 0 0 _ (.cells #[.string t] 9) hH.lt rfl rfl rfl rfl ?_,a0l.one rfl rfl (fun m o' hm _=>by cases hm),?_⟩
 ·refine ⟨by simp [Gh.set],#[.string t],9,(0,0),?_,rfl,⟨?_,trivial⟩,fun i c hc=>?_⟩
  ·rw [hg];exact World.alloc_heap_new w _
  ·exact .inl rfl
  ·match i with
   | 0 =>
    simp at hc;subst hc;subst e2
    exact .rd (.str t e3)
   | i+1=>simp at hc
 ·refine .fn _ _ _ rfl fun i c hc=>?_
  match i with
  | 0 =>
   simp at hc;subst hc
   have:=VR.ptr (g:=g.set 1900 w.heap.size 0 0) (w:=w.alloc (.cells #[.string t] 9)) 1900 0
   rw [hg] at this
   exact this
  | i+1=>simp at hc
theorem f5i {id:Nat} {o:a03} {h:Heap} (e:find id h=none):∀q∈([(id,o)]:Heap),find q.1 h=none:=fun q hq=>by
 rw [List.mem_singleton] at hq
 subst hq;exact e
end Go.Ab