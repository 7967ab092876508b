/- What the functions of this seat that lie on the laws' road compute (part LN), each for every input. By AI agents. -/
import Derived.Test.YtgbaffbfggjmgaaGreatDoorProg
import Derived.KernelRfl
import Derived.Test.YtgbaffbfggjmgaaGreatDoorSL
import Derived.Test.YtgbaffbfggjmgaaGreatDoorAbSort
import Derived.RangeFuncBox
import Derived.RangeFuncLeaves
import Derived.Shelf.Abstract
import Derived.WalkKit
import Derived.OwnWalkIn
import Derived.TacticsInMore
import Derived.LoopNIn
import Derived.LoopIn
import Derived.Lib.Bytealg
set_option linter.all false
set_option linter.all false
namespace Go.Ab
open Go.RowKit Go.Proofs
theorem indexByte_ge (c:UInt8):∀s:Str,-1≤Lib.indexByte s c∧(Lib.indexByte s c)<s.length
 | []=>by simp [Lib.indexByte]
 | b::r=>by
  have ih:=indexByte_ge c r
  simp only [Lib.indexByte]
  split
  ·simp
  ·split<;>simp<;>omega
def ixb (s:Str) (c:UInt8):Option Int:=some (Lib.indexByte s c)
theorem int_vr {g:Gh} {w:World} {n:Int} (h0:-9223372036854775808≤n) (h1:n≤9223372036854775807):VR g w (.int .i64 n) (.int .i64 n):=.rd (.int _ _ (by simp [inR,IntKind.min,IntKind.max,IntKind.signed,IntKind.bits];omega))
theorem ixb_vr {g:Gh} {w:World} {s:Str} {c:UInt8} (h:s.length≤maxLen):VR g w (.int .i64 (Lib.indexByte s c)) (.int .i64 (Lib.indexByte s c)):=by
 have:=indexByte_ge c s
 unfold maxLen at h
 exact int_vr (by omega) (by omega)
open Go.Sort Go.Lib in
theorem grow0 (w:World):∃k os,w=grow (w.drewN k) os:=⟨0,#[],by simp [grow,World.drewN]⟩
theorem W_60 {s:Str} {c:UInt8} {y:Int} (hy:ixb s c=some y):ACall Tryz.prog 98 [.str s,byteV c] [] (fun r H=>r=.int .i64 y∧H=[]):=by
 cases hy
 refine acall_grow (by kernel_rfl) fun g w vals hH hl hv=>?_
 obtain ⟨t,e1,e2,e3⟩:=(hv 0 _ rfl).str_inv
 rw [arr2 hl,e1,(hv 1 (byteV c) rfl).int_inv.1]
 refine (Tryz.stringslite_IndexByte t (c.toNat:Int) w).mono ?_
 rintro en w' ⟨rfl,rfl⟩
 have hc:((c.toNat:Int)).toNat.toUInt8=c:=by simp
 rw [hc,e2]
 have hm:s.length≤maxLen:=by subst e2;(have:t.data.toList.length=t.size:=Array.length_toList);omega
 exact ⟨_,rfl,fun g w'=>ixb_vr hm,grow0 _⟩
end Go.Ab
