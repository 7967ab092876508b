/- The abstract layer: a row that the caller keeps, at a function that reads it. -/
import Derived.Test.YtnaeedamiaoipaaGreatDoorAbFun
set_option linter.all false
set_option linter.all false
namespace Go.Ab
open Go.RowKit
mutual
def V.lf (R:Heap):V→Bool
 | .bool _|.int _ _|.str _|.nils|.nilp|.nilm|.nilf|.nili|.ifc _|.sl []=>true
 | .osl id _ _ _=>inHeap id R
 | .agg cs|.tup cs=>V.lfL R cs
 | _=>false
def V.lfL (R:Heap):List V→Bool
 | []=>true
 | x::r=>x.lf R&&V.lfL R r
end
theorem V.lfL_iff {R:Heap}:∀{l:List V},V.lfL R l=true→∀x∈l,x.lf R=true
 | y::r,h,x,hx=>by
  simp only [V.lfL,Bool.and_eq_true] at h
  rcases List.mem_cons.1 hx with rfl|hx
  ·exact h.1
  ·exact V.lfL_iff h.2 x hx
theorem Rd.lf {S S':Nat→Prop} {w:World} {R:Heap} {v:Value} {x:V} (h:Rd S w v x):x.lf R=true→Rd S' w v x:=by
 induction h with
 | agg vs cs hl hr ih=>exact fun hx=>.agg vs cs hl fun i c hc=>ih i c hc (V.lfL_iff (by simpa only [V.lf] using hx) c (List.mem_of_getElem? hc))
 | bool b=>exact fun _=>.bool b
 | int k n h=>exact fun _=>.int k n h
 | str s h=>exact fun _=>.str s h
 | nils=>exact fun _=>.nils
 | nilsl=>exact fun _=>.nilsl
 | slz a cap=>exact fun _=>.slz a cap
 | nilp=>exact fun _=>.nilp
 | nilm=>exact fun _=>.nilm
 | nilf=>exact fun _=>.nilf
 | nili=>exact fun _=>.nili
 | ifcn=>exact fun _=>.ifcn
 | ifcs t p=>exact fun _=>.ifcs t p
 | sl g o len cap k cur e fz xs h1 h2 h3 h4 h5 h6 h7 h8 _ =>
  intro hx
  cases xs with
  | nil=>cases h3;exact .slz _ _
  | cons a r=>simp [V.lf] at hx
 | _=>intro hx;simp [V.lf] at hx
theorem VR.lf {g g':Gh} {w:World} {R:Heap} {v:Value} {x:V} (h:VR g w v x) (ha:∀id,inHeap id R=true→g.agree g' id):x.lf R=true→VR g' w v x:=by
 induction h with
 | rd h=>exact fun hx=>.rd (h.lf hx)
 | agg vs cs hl hr ih=>exact fun hx=>.agg vs cs hl fun i c hc=>ih i c hc (V.lfL_iff (by simpa only [V.lf] using hx) c (List.mem_of_getElem? hc))
 | tup vs cs hl hr ih=>exact fun hx=>.tup vs cs hl fun i c hc=>ih i c hc (V.lfL_iff (by simpa only [V.lf] using hx) c (List.mem_of_getElem? hc))
 | oslnil id k lo h=>exact fun hx=>.oslnil id k lo ((ha id (by simpa only [V.lf] using hx)).2.2.2.2 h)
 | osl id k lo len o c h ho hc hl hm =>
  intro hx
  obtain ⟨h1,h2,h3,h4⟩:=ha id (by simpa only [V.lf] using hx)
  rw [←h1]
  exact .osl id k lo len o c (fun h'=>h (h4.1 h')) (by rw [h2];exact ho) (by rw [h3];exact hc) hl hm
 | _=>intro hx;simp [V.lf] at hx
end Go.Ab
