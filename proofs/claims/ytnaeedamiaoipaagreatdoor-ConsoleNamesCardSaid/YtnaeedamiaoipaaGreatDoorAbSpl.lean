/- The abstract layer: strings.Split at a separator of one byte. -/
import Derived.Test.YtnaeedamiaoipaaGreatDoorAbRows
import Derived.Test.YtnaeedamiaoipaaGreatDoorAbStr
import Derived.Shelf.Strings.Split
set_option linter.all false
set_option linter.all false
namespace Go.Ab
open Go.Proofs Go.RowKit
def glue (c:Str):List Str→List Str
 | []=>[c]
 | h::t=>(c++h)::t
def spl (b:UInt8):Str→List Str
 | []=>[[]]
 | c::r=>if c=b then []::spl b r else glue [c] (spl b r)
theorem spl_app {b:UInt8}:∀{w:Str} (r:Str),(∀c∈w,c≠b)→spl b (w++b::r)=w::spl b r
 | [],r,_=>by simp [spl]
 | c::w,r,h=>by
  have ih:=spl_app (b:=b) (w:=w) r fun k hk=>h k (by simp [hk])
  have hc:c≠b:=h c (by simp)
  simp only [List.cons_append,spl,if_neg hc,ih,glue,List.nil_append]
theorem spl_none {b:UInt8}:∀{w:Str},(∀c∈w,c≠b)→spl b w=[w]
 | [],_=>rfl
 | c::w,h=>by
  have ih:=spl_none (b:=b) (w:=w) fun k hk=>h k (by simp [hk])
  have hc:c≠b:=h c (by simp)
  simp only [spl,if_neg hc,ih,glue,List.cons_append,List.nil_append]
theorem index_cut (b:UInt8):∀s:Str,(Lib.index s [b]=-1∧∀c∈s,c≠b)∨∃i:Nat,Lib.index s [b]=i∧s=s.take i++b::s.drop (i+1)∧∀c∈s.take i,c≠b
 | []=>.inl ⟨by simp [Lib.index],by simp⟩
 | c::r=>by
  by_cases h:c=b
  ·subst h
   exact .inr ⟨0,by rw [Lib.index];simp [List.isPrefixOf],by simp,by simp⟩
  ·have hp:([b]:List UInt8).isPrefixOf (c::r)=false:=by simp [List.isPrefixOf,Ne.symm h]
   have hix:Lib.index (c::r) [b]=if Lib.index r [b]==-1 then -1 else Lib.index r [b]+1:=by rw [Lib.index,hp];simp
   rcases index_cut b r with ⟨h1,h2⟩|⟨i,h1,h2,h3⟩
   ·exact .inl ⟨by rw [hix,h1];rfl,fun x hx=>by rcases List.mem_cons.1 hx with rfl|hx;exact h;exact h2 x hx⟩
   ·refine .inr ⟨i+1,by rw [hix,h1,if_neg (by simp;try omega)];omega,by rw [List.take_succ_cons,List.drop_succ_cons,List.cons_append,←h2],fun x hx=>?_⟩
    rw [List.take_succ_cons] at hx
    rcases List.mem_cons.1 hx with rfl|hx
    ·exact h
    ·exact h3 x hx
theorem splitK_spl (b:UInt8):∀(k:Nat) (s:Str),s.count b≤k→Lib.splitK [b] 0 k s=spl b s
 | 0,s,h=>by
  have:∀c∈s,c≠b:=fun c hc e=>by subst e;have:=List.count_pos_iff.2 hc;omega
  rw [spl_none this];rfl
 | k+1,s,h=>by
  rw [Lib.splitK]
  rcases index_cut b s with ⟨h1,h2⟩|⟨i,h1,h2,h3⟩
  ·rw [h1,if_pos (by rfl),spl_none h2]
  ·have hn:s.count b=(s.drop (i+1)).count b+1:=by
    have h0:(s.take i).count b=0:=List.count_eq_zero.2 fun hm=>h3 b hm rfl
    conv=>lhs;rw [h2]
    rw [List.count_append,h0,List.count_cons_self];omega
   rw [h1,if_neg (by simp;try omega),splitK_spl b k _ (by simp;try omega)]
   conv=>rhs;rw [h2,spl_app _ h3]
   simp
theorem splitB_spl (b:UInt8) (s:ByteArray):(Lib.splitB ⟨#[b]⟩ 0 (Lib.countB s ⟨#[b]⟩) s).map (·.data.toList)=spl b s.data.toList:=by
 rw [Lib.splitB_data]
 refine splitK_spl b _ _ ?_
 show _≤Lib.count s.data.toList [b]
 rw [Lib.count_one];exact Nat.le_refl _
theorem glue_len {c:Str} {n:Nat}:∀{l:List Str},(∀z∈l,z.length+c.length≤n)→c.length≤n→∀z∈glue c l,z.length≤n
 | [],_,h,z,hz=>by simp [glue] at hz;subst hz;exact h
 | x::t,h,_,z,hz=>by
  simp only [glue,List.mem_cons] at hz
  rcases hz with rfl|hz
  ·have:=h x (by simp);rw [List.length_append];omega
  ·have:=h z (by simp [hz]);omega
theorem spl_len (b:UInt8):∀(s:Str),∀z∈spl b s,z.length≤s.length
 | [],z,hz=>by simp [spl] at hz;subst hz;simp
 | c::r,z,hz=>by
  have ih:=spl_len b r
  simp only [spl] at hz
  split at hz
  ·rcases List.mem_cons.1 hz with rfl|hz
   ·simp
   ·have:=ih z hz;simp;omega
  ·exact glue_len (fun z hz=>by have:=ih z hz;simp;omega) (by simp) z hz
def splI (s t:Str):Option (List Str):=match t with
 | [b]=>bif decide (s.length<4294967281) then some (spl b s) else none
 | _=>none
end Go.Ab
namespace Go.Proofs
open Go.Shelf Go.RowKit Go.Lib Go.Ab
variable {P:Program} {ρ:Ren}
set_option maxHeartbeats 1000000 in
theorem Any.strings_Split_one (L:Lays.n146 P ρ) (hi9:(P.info? (ρ.t 9)).map (fun i=>(i.zero,i.size,i.bytes))=some (some (.string ByteArray.empty),1,16)) (s:ByteArray) (b:UInt8) (w:World)
  (hs:s.size<4294967281) :
  Calls P (ρ.f 146) #[.string s,.string ⟨#[b]⟩] w fun e w' =>
   e=.returned (.slice (some ⟨w.heap.size,0,none⟩) (Lib.countB s ⟨#[b]⟩+1) (Lib.countB s ⟨#[b]⟩+1))∧w'=w.alloc (.cells ((Lib.splitB ⟨#[b]⟩ 0 (Lib.countB s ⟨#[b]⟩) s).map Value.string).toArray (ρ.t 9)):=by
 have h1:1≤(⟨#[b]⟩:ByteArray).size:=Nat.le_refl _
 have hle:=Lib.countB_le ⟨#[b]⟩ h1 s.size s (Nat.le_refl _)
 have hlen:=Lib.splitB_all ⟨#[b]⟩ h1 0 _ s rfl
 have c:=Any.strings_genSplit_core { L with } hi9 s ⟨#[b]⟩ 0 (-1) (Lib.countB s ⟨#[b]⟩+1) w hs h1 (Nat.zero_le _)
  (fun x c hx=>(Any.strings_Index_one { L with } x b _).mono fun e w' h=>⟨by rw [h.1];show _=Ending.returned (Value.int .i64 (Lib.index x.data.toList [b]));rw [Lib.index_one],h.2⟩)
  ((Any.strings_Count_one { L with } s b w).mono fun e w' h=>⟨by rw [h.1];show _=Ending.returned (Value.int .i64 ((Lib.count s.data.toList [b]:Nat):Int));rw [Lib.count_one];rfl,h.2⟩)
  (by decide) (by decide) (by rw [if_pos (by decide)];omega)
 rw [Nat.add_sub_cancel,hlen] at c
 have e2:Lib.cellsOf (Lib.splitB ⟨#[b]⟩ 0 (Lib.countB s ⟨#[b]⟩) s) (Lib.countB s ⟨#[b]⟩+1)=((Lib.splitB ⟨#[b]⟩ 0 (Lib.countB s ⟨#[b]⟩) s).map Value.string).toArray:=by rw [←hlen];exact Lib.cellsOf_full _
 rw [e2] at c
 have t3:=L.t3;have t9:=L.t9;have t31:=L.t31
 have a3:=L.a3;have a9:=L.a9;have a31:=L.a31
 have z3:=L.z3;have v3:=L.v3;have z9:=L.z9;have v9:=L.v9;have z31:=L.z31;have v31:=L.v31
 have e221:∀args w,(callFunc (ρ.f 221) args).run P w=.ok (.enter (ρ.f 221) args) w:=enters_of L.f221 (by kernel_rfl) rfl
 go_enter L.f146,Body.n146_ntmps ρ
 go_wp2_with (go_at_fn (ρ.f 221);refine c.mono ?_;rintro e w' ⟨rfl,hw⟩;rw [hw])
 go_ret
 exact ⟨rfl,rfl⟩
end Go.Proofs
namespace Go.Ab
open Go.Proofs Go.Shelf Go.RowKit Go.Deep
theorem acall_split {P:Program} {ρ:Ren} (L:Lays.n146 P ρ) (hc:callable P (ρ.f 146)=true) (hi9:(P.info? (ρ.t 9)).map (fun i=>(i.zero,i.size,i.bytes))=some (some (.string ByteArray.empty),1,16)) {s t:Str} {y:List Str} (hy:splI s t=some y) :
  ACall P (ρ.f 146) [.str s,.str t] [] (fun r H=>r=.sl (y.map V.str)∧H=[]):=by
 unfold splI at hy
 split at hy
 ·rename_i b
  cases hd:decide (s.length<4294967281) with
  | false=>rw [hd] at hy;cases hy
  | true =>
   rw [hd] at hy
   obtain rfl:=Option.some.inj hy
   have hs:=of_decide_eq_true hd
   refine acall_fresh hc fun g w vals hH hl hv=>?_
   obtain ⟨q,e1,e2,_⟩:=(hv 0 _ rfl).str_inv
   obtain ⟨q',e1',e2',_⟩:=(hv 1 _ rfl).str_inv
   have hq:q'=⟨#[b]⟩:=by
    apply ByteArray.ext
    apply Array.toList_inj.1
    rw [e2']
   have ha:vals=#[vals.getD 0 undef,vals.getD 1 undef]:=by
    apply Array.ext
    ·simpa using hl
    ·intro i h1 h2
     have:i=0∨i=1:=by simp at h2;omega
     rcases this with rfl|rfl<;>simp [Array.getD_eq_getD_getElem?,h1]
   rw [ha,e1,e1',hq]
   have hsz:q.size=s.length:=by rw [←e2,Array.length_toList];rfl
   refine (Any.strings_Split_one L hi9 q b w (by omega)).mono ?_
   rintro en w' ⟨rfl,rfl⟩
   have hlen:=Lib.splitB_all ⟨#[b]⟩ (Nat.le_refl _) 0 _ q rfl
   have hspl:=splitB_spl b q
   generalize Lib.splitB ⟨#[b]⟩ 0 (Lib.countB q ⟨#[b]⟩) q=l at hlen hspl
   have hcn:=Lib.countB_le ⟨#[b]⟩ (Nat.le_refl _) q.size q (Nat.le_refl _)
   generalize Lib.countB q ⟨#[b]⟩=n at hlen hcn
   rw [e2] at hspl
   refine ⟨_,rfl,(World.Since.refl _ _).alloc (Nat.le_refl _) _,?_⟩
   have hmx:n+1≤maxLen:=Nat.le_trans (show n+1≤4294967295 by omega) (by unfold maxLen;decide)
   refine .sl w.heap.size 0 (n+1) (n+1) 1 (l.map Value.string).toArray (ρ.t 9) (0,0) _ (.inr ⟨Nat.le_refl _,by simp⟩) (by show (w.heap.push _)[w.heap.size]?=_;exact Array.getElem?_push_size) (by rw [List.length_map,←hspl,List.length_map,hlen]) hmx (Nat.le_refl _) (.inr (by simp [hlen])) (fun x hx=>?_) fun i j x c hi hj=>?_
   ·obtain ⟨z,_,rfl⟩:=List.mem_map.1 hx
    exact ⟨rfl,fun c hc=>by simp [V.cells] at hc;subst hc;rfl,rfl⟩
   ·rw [←hspl,List.map_map,List.getElem?_map] at hi
    obtain ⟨z,hz,rfl⟩:=Option.map_eq_some_iff.1 hi
    cases j with
    | succ j=>simp [V.cells,Function.comp] at hj
    | zero =>
     simp [V.cells,Function.comp] at hj
     subst hj
     have:((l.map Value.string).toArray).getD (0+i*1+0) undef=.string z:=by
      simp [Array.getD_eq_getD_getElem?,hz]
     rw [this]
     refine .str z ?_
     have hm:z.data.toList∈spl b s:=by rw [←hspl];exact List.mem_map.2 ⟨z,List.mem_of_getElem? hz,rfl⟩
     have:=spl_len b s _ hm
     rw [Array.length_toList] at this
     exact Nat.le_trans (Nat.le_trans this (Nat.le_of_lt hs)) (by unfold maxLen;decide)
 ·cases hy
end Go.Ab
