/- ReadersCut. -/
import Derived.Test.YtmodfifkcbpibaaPY
import Derived.Test.YtmodfifkcbpibaaLX
set_option linter.all false
set_option linter.all false
namespace Go.Ab
open Go.Proofs Classical
theorem cut28 (l : List Int) : F_law28_ReadersCut l = some true := by
 refine Ok.eq ?_
 unfold F_law28_ReadersCut
 refine Ok.ite (fun _ => awake28_ok) fun c => ?_
 have c : ¬ 400 < (l.length : Int) := by simpa using c
 refine Ok.bind (dir_ok (t := ⟨l, 0⟩) ⟨Int.le_refl 0, by show l.length ≤ 400; omega⟩) fun y6 hd => ?_
 obtain ⟨gd, d1, d2, d3, d4, d5⟩ := hd
 refine Ok.bind (estate_ok d5 d2) fun y8 he => ?_
 obtain ⟨ga, a1, a2, a3, a4⟩ := he
 have alo := ga.lo
 refine Ok.bind (next_ok a4 (by omega)) fun y10 ht => ?_
 refine Ok.bind (P := fun x : List Int × List GMember => x = (y6.1.Kinds, (cutD y6.1 y10.1).Events)) ?_ fun x28 h28 => ?_
 · refine Ok.foldI (all := y6.1.Events) (fun pre x => x = (y6.1.Kinds, pre.filter fun x => decide (x.Time ≤ y10.1))) y6.1.Events [] 0 _ rfl rfl rfl (fun pre x r s hw hs => ?_) fun s hs => hs
   subst hs
   have hp : pre.length ≤ 11 := by have := congrArg List.length hw; simp at this; omega
   have hq : (pre.filter fun x => decide (x.Time ≤ y10.1)).length ≤ pre.length := List.length_filter_le _ _
   unfold F_law28_ReadersCut_L1
   refine Ok.ite (fun q => Ok.chk (room_sm (by simp only [List.length_singleton]; omega)) (Ok.ret ?_)) fun q => Ok.ret ?_
   · simp [List.filter_append, q]
   · simp [List.filter_append, q]
 subst h28
 refine Ok.bind (P := fun x : Int × List GAccess => x = (y8.1.Places, (cutA y8.1 y10.1).Events)) ?_ fun x46 h46 => ?_
 · refine Ok.foldI (all := y8.1.Events) (fun pre x => x = (y8.1.Places, pre.filter fun x => decide (x.Time ≤ y10.1))) y8.1.Events [] 0 _ rfl rfl rfl (fun pre x r s hw hs => ?_) fun s hs => hs
   subst hs
   have hp : pre.length ≤ 15 := by have := congrArg List.length hw; simp at this; omega
   have hq : (pre.filter fun x => decide (x.Time ≤ y10.1)).length ≤ pre.length := List.length_filter_le _ _
   unfold F_law28_ReadersCut_L2
   refine Ok.ite (fun q => Ok.chk (room_sm (by simp only [List.length_singleton]; omega)) (Ok.ret ?_)) fun q => Ok.ret ?_
   · simp [List.filter_append, q]
   · simp [List.filter_append, q]
 subst h46
 refine Ok.bind (P := fun r => r = .inl ()) (Ok.loop (fun s : Int × GEstate × GDirectory => 0 ≤ s.1 ∧ s.2 = (cutA y8.1 y10.1, cutD y6.1 y10.1)) (fun s : Int × GEstate × GDirectory => (y8.1.Places - s.1).toNat) (fun s hs => ?_) _ ⟨by simp, rfl⟩) fun r hr => ?_
 · obtain ⟨pl, s2⟩ := s
   obtain ⟨s1, s3⟩ := hs
   simp only at s1 s3
   subst s3
   unfold F_law28_ReadersCut_L3
   refine Ok.ite (fun c => ?_) fun _ => Ok.ret rfl
   have c : pl < y8.1.Places := by simpa using c
   refine Ok.bind (Ok.of (who_eq gd ga y10.1 s1 (by omega)) rfl) fun u hu => Ok.bind (Ok.of (who_eq (gd.cut y10.1) (ga.cut y10.1) y10.1 s1 (by show pl ≤ y8.1.Places - 1; omega)) rfl) fun v hv => Ok.grp ?_
   have e1 := lkf_cut y8.1 pl (Int.le_refl y10.1)
   have e2 : mays (cutD y6.1 y10.1) (cutA y8.1 y10.1) pl y10.1 = mays y6.1 y8.1 pl y10.1 := mays_congr rfl fun x => by
     simp only [mayP, lkf_cut y8.1 pl (Int.le_refl y10.1), keys_cut y8.1 pl (Int.le_refl y10.1), upl_cut y6.1 x (Int.le_refl y10.1)]
     rfl
   rw [e1, e2] at hv
   subst hu hv
   simp only [decide_true, Bool.not_true, Bool.or_self, cond_false, F_ref28_Same, beq_self_eq_true, cond_true, ints_eq, Option.bind_some, jn]
   exact Ok.chk (in64_sm (by omega) (by omega)) (Ok.ret ⟨⟨by show 0 ≤ pl + 1; omega, rfl⟩, by show (y8.1.Places - (pl + 1)).toNat < (y8.1.Places - pl).toNat; omega⟩)
 · subst hr
   exact awake28_ok
end Go.Ab
