/- Chapter 27: what the functions of access answer, in plain words. -/
import Derived.Test.YteegjccaabkhgaaLAW
import Derived.Test.YteegjccaabkhgaaAbHo
set_option linter.all false
set_option linter.all false
namespace Go.Ab
open Go.Proofs

/-! ### right estates -/
def xok (P : Int) (x : GAccess) : Prop :=
  0 ≤ x.Time ∧ x.Time ≤ 1099511627776 ∧ 0 ≤ x.Place ∧ x.Place ≤ P - 1 ∧
  ((x.Kind = 1 ∨ x.Kind = 2) ∧ 0 ≤ x.Principal ∧ x.Principal ≤ 23 ∧ x.Until = 0 ∧ x.Content = 0 ∧ x.From = 0 ∨
   x.Kind = 3 ∧ x.Time < x.Until ∧ x.Until ≤ 1099511627776 ∧ x.Principal = 0 ∧ x.Content = 0 ∧ x.From = 0 ∨
   x.Kind = 4 ∧ x.Principal = 0 ∧ x.Until = 0 ∧ x.Content = 0 ∧ x.From = 0 ∨
   (x.Kind = 5 ∨ x.Kind = 6) ∧ 0 ≤ x.Content ∧ x.Content ≤ 63 ∧ x.Principal = 0 ∧ x.Until = 0 ∧ x.From = 0 ∨
   x.Kind = 7 ∧ 0 ≤ x.From ∧ x.From ≤ P - 1 ∧ x.From ≠ x.Place ∧ x.Principal = 0 ∧ x.Until = 0 ∧ x.Content = 0)
/-- an estate is valid -/
structure Good (a : GEstate) : Prop where
  lo : 1 ≤ a.Places
  hi : a.Places ≤ 16
  len : a.Events.length ≤ 120
  ev : ∀ x ∈ a.Events, xok a.Places x
  srt : a.Events.Pairwise fun x y => x.Time ≤ y.Time

theorem among_eq (n lo hi : Int) : F_access_among n lo hi = some (decide (lo ≤ n ∧ n ≤ hi)) := by
  simp [F_access_among, grp]
theorem in64_sm {n : Int} (h1 : -1000000000000000 ≤ n) (h2 : n ≤ 1000000000000000) : in64 n = true := in64_iff.2 ⟨by omega, by omega⟩
theorem place_eq (a : GEstate) (p : Int) (h1 : 1 ≤ a.Places) (h2 : a.Places ≤ 16) : F_access_Place a p = some (decide (0 ≤ p ∧ p ≤ a.Places - 1)) := by
  simp [F_access_Place, among_eq, chk_true (in64_sm (n := a.Places - 1) (by omega) (by omega))]
theorem right_eq (a : GEstate) (x : GAccess) (h1 : 1 ≤ a.Places) (h2 : a.Places ≤ 16) (h0 : 0 ≤ x.Time) (hm : x.Time ≤ 1099511627776) : ∃ b, F_access_right a x = some b ∧ (b = true ↔ xok a.Places x) := by
  obtain ⟨T, K, P, pr, U, C, F⟩ := x
  simp only at h0 hm
  simp only [F_access_right, among_eq, place_eq a _ h1 h2, F_access_Content, jn, grp, Option.bind_some, Option.bind_eq_bind]
  by_cases k1 : K = 1
  · subst k1
    by_cases c1 : 0 ≤ pr <;> by_cases c2 : pr ≤ 23 <;> simp [xok, c1, c2] <;> omega
  by_cases k2 : K = 2
  · subst k2
    by_cases c1 : 0 ≤ pr <;> by_cases c2 : pr ≤ 23 <;> simp [xok, c1, c2] <;> omega
  by_cases k3 : K = 3
  · subst k3
    by_cases c : T < U <;> by_cases c2 : U ≤ 1099511627776 <;> simp [xok, c, c2] <;> omega
  by_cases k4 : K = 4
  · subst k4
    simp [xok]
    omega
  by_cases k5 : K = 5
  · subst k5
    by_cases c1 : 0 ≤ C <;> by_cases c2 : C ≤ 63 <;> simp [xok, c1, c2] <;> omega
  by_cases k6 : K = 6
  · subst k6
    by_cases c1 : 0 ≤ C <;> by_cases c2 : C ≤ 63 <;> simp [xok, c1, c2] <;> omega
  by_cases k7 : K = 7
  · subst k7
    by_cases c1 : 0 ≤ F <;> by_cases c2 : F ≤ a.Places - 1 <;> by_cases c3 : F = P <;> simp [xok, c1, c2, c3] <;> omega
  · simp [xok, k1, k2, k3, k4, k5, k6, k7]
/-- the events in order, from a time on -/
def chain (P : Int) : Int → List GAccess → Prop
  | _, [] => True
  | last, x :: r => last ≤ x.Time ∧ xok P x ∧ chain P x.Time r
theorem chain_iff {P : Int} : ∀ {l : List GAccess} {last : Int}, chain P last l ↔ ((∀ x ∈ l, last ≤ x.Time ∧ xok P x) ∧ l.Pairwise fun x y => x.Time ≤ y.Time)
  | [], last => by simp [chain]
  | x :: r, last => by
    simp only [chain, chain_iff (l := r), List.mem_cons, List.pairwise_cons]
    constructor
    · rintro ⟨h1, h2, h3, h4⟩
      refine ⟨fun y hy => ?_, fun y hy => (h3 y hy).1, h4⟩
      rcases hy with rfl | hy
      · exact ⟨h1, h2⟩
      · exact ⟨Int.le_trans h1 (h3 y hy).1, (h3 y hy).2⟩
    · rintro ⟨h1, h2, h3⟩
      exact ⟨(h1 x (.inl rfl)).1, (h1 x (.inl rfl)).2, fun y hy => ⟨h2 y hy, (h1 y (.inr hy)).2⟩, h3⟩
open Classical in
theorem chkL_eq (a : GEstate) (h1 : 1 ≤ a.Places) (h2 : a.Places ≤ 16) : ∀ (l : List GAccess) (k last : Int), 0 ≤ last → ∃ o, forL (F_access_Check_L1 a) l k last = some o ∧ (chain a.Places last l → ∃ s, o = .nx s) ∧ (¬ chain a.Places last l → o = .ex 34)
  | [], k, last, h => ⟨.nx last, rfl, fun _ => ⟨_, rfl⟩, fun hc => absurd trivial hc⟩
  | x :: r, k, last, h => by
    simp only [forL, F_access_Check_L1, grp, chain]
    by_cases c : x.Time < last ∨ 1099511627776 < x.Time
    · have c' : (decide (x.Time < last) || decide (1099511627776 < x.Time)) = true := by simpa using c
      simp only [c', cond_true, Option.bind_some, Fl_ex]
      refine ⟨_, rfl, fun hc => ?_, fun _ => rfl⟩
      have := hc.2.1.2.1
      omega
    · have c' : (decide (x.Time < last) || decide (1099511627776 < x.Time)) = false := by simpa using c
      obtain ⟨b, hb, hb2⟩ := right_eq a x h1 h2 (by omega) (by omega)
      simp only [c', cond_false, hb, Option.bind_some]
      cases b with
      | false =>
        simp only [Bool.not_false, cond_true, Option.bind_some, Fl_ex]
        refine ⟨_, rfl, fun hc => ?_, fun _ => rfl⟩
        have := hb2.2 hc.2.1
        cases this
      | true =>
        simp only [Bool.not_true, cond_false, Option.bind_some, Fl_nx]
        obtain ⟨o, ho, ho1, ho2⟩ := chkL_eq a h1 h2 r (k + 1) x.Time (by omega)
        refine ⟨o, ho, fun hc => ho1 hc.2.2, fun hc => ho2 fun h3 => hc ⟨by omega, hb2.1 rfl, h3⟩⟩
theorem good_iff (a : GEstate) : Good a ↔ (1 ≤ a.Places ∧ a.Places ≤ 16) ∧ a.Events.length ≤ 120 ∧ chain a.Places 0 a.Events := by
  rw [chain_iff]
  constructor
  · rintro ⟨h1, h2, h3, h4, h5⟩
    exact ⟨⟨h1, h2⟩, h3, fun x hx => ⟨(h4 x hx).1, h4 x hx⟩, h5⟩
  · rintro ⟨⟨h1, h2⟩, h3, h4, h5⟩
    exact ⟨h1, h2, h3, fun x hx => (h4 x hx).2, h5⟩
open Classical in
theorem check_eq (a : GEstate) : F_access_Check a = some (if Good a then 0 else 34) := by
  simp only [F_access_Check, among_eq, Option.bind_some, grp]
  by_cases c : 1 ≤ a.Places ∧ a.Places ≤ 16
  · by_cases c2 : a.Events.length ≤ 120
    · have c' : (!decide (1 ≤ a.Places ∧ a.Places ≤ 16) || decide (120 < (a.Events.length : Int))) = false := by simp [c]; omega
      obtain ⟨o, ho, ho1, ho2⟩ := chkL_eq a c.1 c.2 a.Events 0 0 (Int.le_refl 0)
      simp only [c', cond_false, ho, Option.bind_some]
      by_cases hc : chain a.Places 0 a.Events
      · obtain ⟨s, rfl⟩ := ho1 hc
        have : Good a := (good_iff a).2 ⟨c, c2, hc⟩
        simp [this, Fl_nx]
      · rw [ho2 hc]
        have : ¬ Good a := fun h => hc ((good_iff a).1 h).2.2
        simp [this, Fl_ex]
    · have c' : (!decide (1 ≤ a.Places ∧ a.Places ≤ 16) || decide (120 < (a.Events.length : Int))) = true := by simp; omega
      have : ¬ Good a := fun h => c2 h.len
      simp only [c', cond_true, if_neg this]
  · have : ¬ Good a := fun h => c ⟨h.lo, h.hi⟩
    simp [c, this]
open Classical in
theorem known_eq (a : GEstate) (p : Int) : F_access_known a p = some (decide (Good a ∧ 0 ≤ p ∧ p ≤ a.Places - 1)) := by
  simp only [F_access_known, check_eq, Option.bind_some, jn]
  by_cases h : Good a
  · simp [h, place_eq a p h.lo h.hi]
  · simp [h]
theorem known_of {a : GEstate} {p : Int} (h : Good a) (h1 : 0 ≤ p) (h2 : p ≤ a.Places - 1) : F_access_known a p = some true := by
  rw [known_eq]; simp [h, h1]; omega
theorem Good.sub {a : GEstate} (h : Good a) {l : List GAccess} (hl : l.Sublist a.Events) : Good ⟨a.Places, l⟩ :=
  ⟨h.lo, h.hi, Nat.le_trans hl.length_le h.len, fun x hx => h.ev x (hl.subset hx), h.srt.sublist hl⟩

/-! ### links -/
/-- what an event does to a place's link -/
def lst (p t : Int) (i : Int) (x : GAccess) (s : Int × Bool) : Int × Bool :=
  if t < x.Time ∨ x.Place ≠ p then s else if x.Kind = 4 then (0, false) else if x.Kind = 3 ∧ t < x.Until then (i, true) else s
def lkf (p t : Int) : List GAccess → Int → Int × Bool → Int × Bool
  | [], _, s => s
  | x :: r, i, s => lkf p t r (i + 1) (lst p t i x s)
theorem lkf_append (p t : Int) : ∀ (l m : List GAccess) (i : Int) (s : Int × Bool), lkf p t (l ++ m) i s = lkf p t m (i + l.length) (lkf p t l i s)
  | [], m, i, s => by simp [lkf]
  | x :: r, m, i, s => by
    simp only [List.cons_append, lkf, lkf_append p t r m]
    congr 1
    simp; omega
def lfind (p t : Int) (y : Int × GAccess) : Option (Int × Bool) :=
  if t < y.2.Time ∨ y.2.Place ≠ p then none else if y.2.Kind = 4 then some (0, false) else if y.2.Kind = 3 ∧ t < y.2.Until then some (y.1, true) else none
theorem link_body (p t k : Int) (y : Int × GAccess) : F_access_Linked_L1 p t k y () = some (flO (lfind p t y)) := by
  simp only [F_access_Linked_L1, grp, lfind]
  by_cases c : t < y.2.Time ∨ y.2.Place ≠ p
  · have c' : (decide (t < y.2.Time) || !decide (y.2.Place = p)) = true := by simpa using c
    simp [c', c, flO]
  · have c' : (decide (t < y.2.Time) || !decide (y.2.Place = p)) = false := by simpa using c
    simp only [c', cond_false, if_neg c]
    by_cases c2 : y.2.Kind = 4
    · simp [c2, flO]
    · by_cases c3 : y.2.Kind = 3 ∧ t < y.2.Until
      · simp [c2, c3, flO]
      · have c4 : (decide (y.2.Kind = 3) && decide (t < y.2.Until)) = false := by simpa using c3
        rw [if_neg c2, if_neg c3]
        simp [c2, c4, flO]
theorem revp_snoc (l : List GAccess) (x : GAccess) : revp (l ++ [x]) = ((l.length : Int), x) :: revp l := by
  unfold revp
  rw [List.length_append, List.length_singleton, List.range_succ_eq_map]
  simp only [List.map_cons, List.map_map]
  congr 1
  · simp
  · refine List.map_congr_left fun k hk => ?_
    have := List.mem_range.1 hk
    simp only [Function.comp]
    have e : l.length + 1 - 1 - (k + 1) = l.length - 1 - k := by omega
    rw [show k.succ = k + 1 from rfl, e, List.getD_eq_getElem?_getD, List.getD_eq_getElem?_getD, List.getElem?_append_left (by omega)]
theorem revList_ind {α : Type} {m : List α → Prop} (h0 : m []) (h1 : ∀ l x, m l → m (l ++ [x])) (l : List α) : m l := by
  have : ∀ n (l : List α), l.length = n → m l := by
    intro n
    induction n with
    | zero => intro l hl; rw [List.length_eq_zero_iff.1 hl]; exact h0
    | succ n ih =>
      intro l hl
      have hne : l ≠ [] := by intro e; simp [e] at hl
      rw [← List.dropLast_concat_getLast hne]
      exact h1 _ _ (ih _ (by simp [hl]))
  exact this _ l rfl
theorem find_lkf (p t : Int) (l : List GAccess) : (findL (lfind p t) (revp l)).getD (0, false) = lkf p t l 0 (0, false) := by
  induction l using revList_ind with
  | h0 => rfl
  | h1 l x ih =>
    rw [revp_snoc, lkf_append]
    simp only [findL, lkf, Int.zero_add]
    rw [← ih]
    unfold lfind lst
    by_cases c : t < x.Time ∨ x.Place ≠ p
    · simp only [if_pos c]
    · simp only [if_neg c]
      by_cases c2 : x.Kind = 4
      · simp [c2]
      · by_cases c3 : x.Kind = 3 ∧ t < x.Until
        · simp [c2, c3]
        · simp only [if_neg c2, if_neg c3]
theorem linked_eq {a : GEstate} {p : Int} (t : Int) (h : F_access_known a p = some true) : F_access_Linked a p t = some (lkf p t a.Events 0 (0, false)) := by
  simp only [F_access_Linked, h, Option.bind_some, Bool.not_true, cond_false, backF]
  rw [forL_find (lfind p t) (revp a.Events) 0 fun k y _ => link_body p t k y, ← find_lkf]
  cases findL (lfind p t) (revp a.Events) <;> rfl
theorem linked_no {a : GEstate} {p : Int} (t : Int) (h : F_access_known a p = some false) : F_access_Linked a p t = some (0, false) := by
  simp [F_access_Linked, h]
end Go.Ab
