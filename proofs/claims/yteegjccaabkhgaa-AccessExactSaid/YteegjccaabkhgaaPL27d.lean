/- The laws of chapter 27 about what is made. -/
import Derived.Test.YteegjccaabkhgaaPL27c
set_option linter.all false
set_option linter.all false
namespace Go.Ab
open Go.Proofs

theorem awake_eq : F_law27_awake = some true := by
  have e4 : F_law27_awake_L1 4 = some (.nx 5) := by kernel_rfl
  have e5 : F_law27_awake_L1 5 = some (.nx 6) := by kernel_rfl
  have e6 : F_law27_awake_L1 6 = some (.nx 7) := by kernel_rfl
  have e7 : F_law27_awake_L1 7 = some (.nx 8) := by kernel_rfl
  have e8 : F_law27_awake_L1 8 = some (.nx 9) := by kernel_rfl
  have e9 : F_law27_awake_L1 9 = some (.ex (.inl ())) := by kernel_rfl
  have ec : F_access_Check (GEstate.mk 1 [(GAccess.mk 5 3 0 0 8 0 0)]) = some 0 := by kernel_rfl
  unfold F_law27_awake
  rw [loop_eq, e4]; simp only [Option.bind_some, Fl_nx]
  rw [loop_eq, e5]; simp only [Option.bind_some, Fl_nx]
  rw [loop_eq, e6]; simp only [Option.bind_some, Fl_nx]
  rw [loop_eq, e7]; simp only [Option.bind_some, Fl_nx]
  rw [loop_eq, e8]; simp only [Option.bind_some, Fl_nx]
  rw [loop_eq, e9]; simp only [Option.bind_some, Fl_ex, Sum_inl, ec]
  rfl
theorem awake_ok : Ok (F_law27_awake.bind fun y => some y) (· = true) := by rw [awake_eq]; exact ⟨true, rfl, rfl⟩
theorem foldl_skip {α β : Type} {f : β → α → β} {q : α → Bool} : ∀ {l : List α} {b : β}, (∀ x ∈ l, q x = false → ∀ b, f b x = b) → (l.filter q).foldl f b = l.foldl f b
  | [], b, h => rfl
  | x :: r, b, h => by
    cases hq : q x with
    | true => simp only [List.filter_cons, hq, if_true, List.foldl_cons]; exact foldl_skip fun x hx => h x (by simp [hx])
    | false =>
      simp only [List.filter_cons, hq, List.foldl_cons, h x (by simp) hq b]
      exact foldl_skip fun x hx => h x (by simp [hx])
theorem kst_skip {p t : Int} {x : GAccess} (h : t < x.Time ∨ x.Place ≠ p) (ks : List Int) : kst p t x ks = ks := by simp only [kst, if_pos h]
theorem keysf_filter {p t : Int} {l : List GAccess} {q : GAccess → Bool} (h : ∀ x ∈ l, q x = false → t < x.Time ∨ x.Place ≠ p) : keysf p t (l.filter q) = keysf p t l :=
  foldl_skip fun x hx hq b => kst_skip (h x hx hq) b
theorem lkf_late {p t : Int} : ∀ {l : List GAccess} {i : Int} {s : Int × Bool}, (∀ x ∈ l, t < x.Time) → lkf p t l i s = s
  | [], i, s, h => rfl
  | x :: r, i, s, h => by
    simp only [lkf, lst, if_pos (show t < x.Time ∨ x.Place ≠ p from .inl (h x (by simp)))]
    exact lkf_late fun x hx => h x (by simp [hx])
theorem lkf_cut {p t : Int} : ∀ {l : List GAccess} {i : Int} {s : Int × Bool}, l.Pairwise (fun a b => a.Time ≤ b.Time) → lkf p t (l.filter fun x => decide (x.Time ≤ t)) i s = lkf p t l i s
  | [], i, s, h => rfl
  | x :: r, i, s, h => by
    rw [List.pairwise_cons] at h
    by_cases c : x.Time ≤ t
    · simp only [List.filter_cons, c, decide_true, if_true, lkf]
      exact lkf_cut h.2
    · have hr : ∀ y ∈ x :: r, t < y.Time := fun y hy => by
        rcases List.mem_cons.1 hy with rfl | hy
        · omega
        · have := h.1 y hy; omega
      have e : (x :: r).filter (fun x => decide (x.Time ≤ t)) = [] := by
        rw [List.filter_eq_nil_iff]
        intro y hy
        have := hr y hy
        simp; omega
      rw [e, lkf_late hr]; rfl
def lk2 (p t : Int) (b : Bool) (x : GAccess) : Bool :=
  if t < x.Time ∨ x.Place ≠ p then b else if x.Kind = 4 then false else if x.Kind = 3 ∧ t < x.Until then true else b
theorem lkf_2 (p t : Int) : ∀ (l : List GAccess) (i : Int) (s : Int × Bool), (lkf p t l i s).2 = l.foldl (lk2 p t) s.2
  | [], i, s => rfl
  | x :: r, i, s => by
    simp only [lkf, List.foldl_cons, lkf_2 p t r]
    congr 1
    unfold lst lk2
    split
    · rfl
    · split
      · rfl
      · split <;> rfl
theorem lkf2_filter {p t : Int} {l : List GAccess} {q : GAccess → Bool} (h : ∀ x ∈ l, q x = false → t < x.Time ∨ x.Place ≠ p) : (lkf p t (l.filter q) 0 (0, false)).2 = (lkf p t l 0 (0, false)).2 := by
  rw [lkf_2, lkf_2]
  exact foldl_skip fun x hx hq b => by simp only [lk2, if_pos (h x hx hq)]
/-- what is made -/
theorem made_ok {l : List Int} {α : Type} {f : GEstate × GTape → Option α} {Q : α → Prop} (hl : ¬ decide (300 < (l.length : Int)) = true)
    (k : ∀ y : GEstate × GTape, Good y.1 → y.1.Places ≤ 4 → y.1.Events.length ≤ 15 → (∀ x ∈ y.1.Events, x.Time ≤ 33) → TOK y.2 → Ok (f y) Q) :
    Ok ((F_made_Directory (GTape.mk l 0)).bind fun y7 => (F_made_Estate y7.2 y7.1).bind f) Q := by
  have : l.length ≤ 300 := by simp at hl; omega
  refine Ok.bind (directory_ok (t := ⟨l, 0⟩) ⟨Int.le_refl 0, this⟩) fun d hd => Ok.bind (estate_ok hd.2.2 hd.2.1) fun y hy => k y hy.1 hy.2.1 hy.2.2.1 hy.2.2.2.1 hy.2.2.2.2
theorem cut_law (l : List Int) : F_law27_AccessCut l = some true := by
  refine Ok.eq ?_
  unfold F_law27_AccessCut
  refine Ok.ite (fun _ => awake_ok) fun c => ?_
  refine made_ok (by rw [c]; simp) fun y g hp hn ht hT => Ok.bind (next_ok hT (by omega)) fun z hz => ?_
  refine Ok.bind (P := fun x : Int × List GAccess => x = (y.1.Places, y.1.Events.filter fun x => decide (x.Time ≤ z.1))) (Ok.foldI (all := y.1.Events) (fun pre x => x = (y.1.Places, pre.filter fun x => decide (x.Time ≤ z.1))) y.1.Events [] 0 _ rfl rfl rfl (fun pre x r s hw hs => ?_) fun s hs => hs) fun s hs => ?_
  · subst hs
    have hp : pre.length ≤ 15 := by have := congrArg List.length hw; simp at this; omega
    have hf := List.length_filter_le (fun x : GAccess => decide (x.Time ≤ z.1)) pre
    unfold F_law27_AccessCut_L1
    refine Ok.ite (fun c => Ok.chk (room_sm (by simp; omega)) (Ok.ret ?_)) fun c => Ok.ret ?_
    · simp [List.filter_append, c]
    · simp [List.filter_append, c]
  · subst hs
    have gc : Good ⟨y.1.Places, y.1.Events.filter fun x => decide (x.Time ≤ z.1)⟩ := g.sub List.filter_sublist
    refine Ok.bind (Ok.loop (Q := fun r => r = .inl ()) (fun x => x.2 = ⟨y.1.Places, y.1.Events.filter fun x => decide (x.Time ≤ z.1)⟩ ∧ 0 ≤ x.1 ∧ x.1 ≤ y.1.Places) (fun x => (y.1.Places - x.1).toNat) (fun x hx => ?_) _ ⟨rfl, Int.le_refl 0, by have := g.lo; show 0 ≤ y.1.Places; omega⟩) fun r hr => ?_
    · obtain ⟨pl, cut⟩ := x
      obtain ⟨h1, h2, h3⟩ := hx
      simp only at h1 h2 h3
      subst h1
      unfold F_law27_AccessCut_L2
      refine Ok.ite (fun c => ?_) fun c => Ok.ret rfl
      have c : pl < y.1.Places := by simpa using c
      have k1 := known_of g h2 (show pl ≤ y.1.Places - 1 by omega)
      have k2 := known_of gc h2 (show pl ≤ y.1.Places - 1 by omega)
      simp only [linked_eq z.1 k1, linked_eq z.1 k2, granted_eq z.1 (by omega) k1, granted_eq z.1 gc.len k2, ints_eq, Option.bind_some, lkf_cut g.srt]
      have e := keysf_filter (p := pl) (t := z.1) (l := y.1.Events) (q := fun x => decide (x.Time ≤ z.1)) fun x _ hq => .inl (by simpa using hq)
      rw [e]
      simp only [decide_true, Bool.not_true, beq_self_eq_true, cond_false]
      refine Ok.chk (in64_sm (by omega) (by have := g.hi; omega)) (Ok.ret ?_)
      simp only [Fl.elim]
      exact ⟨⟨trivial, by omega, by omega⟩, by omega⟩
    · subst hr; exact awake_ok
theorem places_law (l : List Int) : F_law27_AccessPlaces l = some true := by
  refine Ok.eq ?_
  unfold F_law27_AccessPlaces
  refine Ok.ite (fun _ => awake_ok) fun c => ?_
  refine made_ok (by rw [c]; simp) fun y g hp hn ht hT => Ok.bind (next_ok hT (by have := g.lo; omega)) fun u hu => Ok.bind (next_ok hu.2.2 (by omega)) fun z hz => ?_
  refine Ok.bind (P := fun x : Int × List GAccess => x = (y.1.Places, y.1.Events.filter fun x => decide (x.Place = u.1))) (Ok.foldI (all := y.1.Events) (fun pre x => x = (y.1.Places, pre.filter fun x => decide (x.Place = u.1))) y.1.Events [] 0 _ rfl rfl rfl (fun pre x r s hw hs => ?_) fun s hs => hs) fun s hs => ?_
  · subst hs
    have hp : pre.length ≤ 15 := by have := congrArg List.length hw; simp at this; omega
    have hf := List.length_filter_le (fun x : GAccess => decide (x.Place = u.1)) pre
    unfold F_law27_AccessPlaces_L1
    refine Ok.ite (fun c => Ok.chk (room_sm (by simp; omega)) (Ok.ret ?_)) fun c => Ok.ret ?_
    · simp [List.filter_append, c]
    · simp [List.filter_append, c]
  · subst hs
    have gc : Good ⟨y.1.Places, y.1.Events.filter fun x => decide (x.Place = u.1)⟩ := g.sub List.filter_sublist
    have k1 := known_of g hu.1 (show u.1 ≤ y.1.Places - 1 by omega)
    have k2 := known_of gc hu.1 (show u.1 ≤ y.1.Places - 1 by omega)
    have hq : ∀ x ∈ y.1.Events, decide (x.Place = u.1) = false → z.1 < x.Time ∨ x.Place ≠ u.1 := fun x _ hq => .inr (by simpa using hq)
    simp only [linked_eq z.1 k1, linked_eq z.1 k2, granted_eq z.1 (by omega) k1, granted_eq z.1 gc.len k2, ints_eq, Option.bind_some, lkf2_filter hq, keysf_filter hq]
    simp only [decide_true, beq_self_eq_true, cond_true]
    exact awake_ok
end Go.Ab
