/- ExposureCut. -/
import Derived.Test.YtgjicmoegmbipaaGreatPY
import Derived.Test.YtgjicmoegmbipaaGreatLCut
set_option linter.all false
set_option linter.all false
namespace Go.Ab
open Go.Proofs
theorem cut30 (l : List Int) : F_law30_ExposureCut l = some true := by
  refine Ok.eq ?_
  unfold F_law30_ExposureCut
  refine Ok.ite (fun _ => Ok.bind (P := fun y => y = true) (Ok.of awake30 rfl) fun y hy => Ok.ret hy) fun c => ?_
  have c : ¬ 400 < (l.length : Int) := by simpa using c
  refine Ok.bind (dir_ok (t := ⟨l, 0⟩) ⟨Int.le_refl 0, by show l.length ≤ 400; omega⟩) fun y6 hd => ?_
  obtain ⟨gd, d1, d2, d3, d4, d5⟩ := hd
  refine Ok.bind (estate_ok d5 d2) fun y8 he => ?_
  obtain ⟨ga, a1, a2, a3, a4⟩ := he
  refine Ok.bind (next_ok a4 (by omega)) fun y11 ht => Ok.bind (next_ok ht.2.2 (by omega)) fun y12 hc => ?_
  obtain ⟨c0, c1, _⟩ := hc
  have c1 : y12.1 ≤ 63 := by omega
  refine Ok.bind (P := fun x : List Int × List GMember => x = (y6.1.Kinds, (cutD y6.1 y11.1).Events)) ?_ fun x30 h30 => ?_
  · refine Ok.foldI (all := y6.1.Events) (fun pre x => x = (y6.1.Kinds, pre.filter fun x => decide (x.Time ≤ y11.1))) y6.1.Events [] 0 _ rfl rfl rfl (fun pre x r s hw hs => ?_) fun s hs => hs
    subst hs
    have hp : pre.length ≤ 11 := by have := congrArg List.length hw; simp at this; omega
    have hq : (pre.filter fun x => decide (x.Time ≤ y11.1)).length ≤ pre.length := List.length_filter_le _ _
    unfold F_law30_ExposureCut_L1
    refine Ok.ite (fun q => Ok.chk (room_sm (by simp only [List.length_singleton]; omega)) (Ok.ret ?_)) fun q => Ok.ret ?_
    · simp [List.filter_append, q]
    · simp [List.filter_append, q]
  subst h30
  refine Ok.bind (P := fun x : Bool × Int × List GAccess => (x.1 = false → ∀ e ∈ y8.1.Events, ¬ (e.Kind = 5 ∧ e.Content = y12.1)) ∧ x.2 = (y8.1.Places, (cutA y8.1 y11.1).Events)) ?_ fun x88 h88 => ?_
  · refine Ok.foldI (all := y8.1.Events) (fun pre x => (x.1 = false → ∀ e ∈ pre, ¬ (e.Kind = 5 ∧ e.Content = y12.1)) ∧ x.2 = (y8.1.Places, pre.filter fun x => decide (x.Time ≤ y11.1))) y8.1.Events [] 0 _ rfl rfl ⟨by simp, rfl⟩ (fun pre x r s hw hs => ?_) fun s hs => hs
    obtain ⟨f, s2⟩ := s
    obtain ⟨h1, h2⟩ := hs
    simp only at h1 h2
    subst h2
    have hp : pre.length ≤ 15 := by have := congrArg List.length hw; simp at this; omega
    have hq : (pre.filter fun x => decide (x.Time ≤ y11.1)).length ≤ pre.length := List.length_filter_le _ _
    unfold F_law30_ExposureCut_L2
    refine Ok.jn (P := fun j => j = (pre ++ [x]).filter fun x => decide (x.Time ≤ y11.1)) (Ok.ite (fun q => Ok.chk (room_sm (by simp only [List.length_singleton]; omega)) (Ok.ret (by simp [List.filter_append, q]))) fun q => Ok.ret (by simp [List.filter_append, q])) fun j hj => Ok.grp (Ok.ret ⟨fun hf e he => ?_, by rw [hj]⟩)
    simp only [Bool.or_eq_false_iff] at hf
    simp only [List.mem_append, List.mem_singleton] at he
    rcases he with he | rfl
    · exact h1 hf.1 e he
    · rintro ⟨k1, k2⟩
      simp [k1, k2] at hf
  obtain ⟨f, s2⟩ := x88
  obtain ⟨h1, h2⟩ := h88
  simp only at h1 h2
  subst h2
  refine Ok.bind (Ok.of (All_eq gd ga c0 c1) rfl) fun y90 h90 => Ok.bind (Ok.of (All_eq (gd.cut y11.1) (ga.cut y11.1) c0 c1) rfl) fun y92 h92 => Ok.grp (Ok.grp (Ok.ite (fun hb => ?_) fun _ => ?_))
  · subst h90 h92
    exfalso
    cases f with
    | true => simp at hb
    | false =>
      rw [exps_none ga c0 c1 (h1 rfl)] at hb
      simp at hb
  subst h90 h92
  have hl : (exps y6.1 y8.1 y12.1).length ≤ 8 := by
    have := expo_len y6.1 y8.1 y12.1 (y6.1.Kinds.length + 1) (-1)
    show (expo _ _ _ _ _).length ≤ 8
    omega
  refine Ok.bind (P := fun x => x = exps (cutD y6.1 y11.1) (cutA y8.1 y11.1) y12.1) ?_ fun x118 h118 => ?_
  · have e : exps (cutD y6.1 y11.1) (cutA y8.1 y11.1) y12.1 = (exps y6.1 y8.1 y12.1).filter fun x => decide (x.Time ≤ y11.1) := expo_cut ga c0 c1 y11.1 _ _
    rw [e]
    refine Ok.foldI (all := exps y6.1 y8.1 y12.1) (fun pre x => x = pre.filter fun x => decide (x.Time ≤ y11.1)) _ [] 0 _ rfl rfl rfl (fun pre x r s hw hs => ?_) fun s hs => hs
    subst hs
    have hp : pre.length ≤ 8 := by have := congrArg List.length hw; simp at this; omega
    have hq : (pre.filter fun x => decide (x.Time ≤ y11.1)).length ≤ pre.length := List.length_filter_le _ _
    unfold F_law30_ExposureCut_L3
    refine Ok.ite (fun q => Ok.chk (room_sm (by simp only [List.length_singleton]; omega)) (Ok.ret ?_)) fun q => Ok.ret ?_
    · simp [List.filter_append, q]
    · simp [List.filter_append, q]
  subst h118
  refine Ok.bind (Ok.of (same_refl _) rfl) fun y hy => ?_
  subst hy
  exact Ok.jn (P := fun y => y = true) (Ok.ite (fun _ => Ok.bind (P := fun y => y = true) (Ok.of awake30 rfl) fun y hy => Ok.ret hy) fun h => by cases h) fun j hj => Ok.ret hj
end Go.Ab
