/- The reference of chapter 27 answers as the program does. -/
import Derived.Test.YteegjccaabkhgaaPL27e
import Derived.Test.YteegjccaabkhgaaLX
set_option linter.all false
set_option linter.all false
namespace Go.Ab
open Go.Proofs

theorem rin_eq (n lo hi : Int) : F_ref27_in n lo hi = some (decide (lo ≤ n ∧ n ≤ hi)) := by simp [F_ref27_in, grp]
open Classical in
theorem event_eq (a : GEstate) (x : GAccess) (h1 : 1 ≤ a.Places) (h2 : a.Places ≤ 16) : F_ref27_event a x = some (decide (xok a.Places x)) := by
  have hin : ∀ o : Option Bool, chk (in64 (a.Places - 1)) o = o := fun o => chk_true (in64_sm (n := a.Places - 1) (by omega) (by omega))
  obtain ⟨T, K, P, pr, U, C, F⟩ := x
  simp only [F_ref27_event, rin_eq, Option.bind_some, jn, grp, hin, decide_true, Bool.true_and]
  by_cases t1 : 0 ≤ T ∧ T ≤ 1099511627776
  · by_cases t2 : 0 ≤ P ∧ P ≤ a.Places - 1
    · simp only [t1, t2, and_self, decide_true, Bool.not_true, cond_false]
      by_cases k1 : K = 1
      · subst k1
        by_cases c1 : U = 0 <;> by_cases c2 : C = 0 <;> by_cases c3 : F = 0 <;> simp [xok, c1, c2, c3, t1, t2]
      by_cases k2 : K = 2
      · subst k2
        by_cases c1 : U = 0 <;> by_cases c2 : C = 0 <;> by_cases c3 : F = 0 <;> simp [xok, c1, c2, c3, t1, t2]
      by_cases k3 : K = 3
      · subst k3
        by_cases c1 : pr = 0 <;> by_cases c2 : C = 0 <;> by_cases c3 : F = 0 <;> by_cases c4 : T < U <;> simp [xok, c1, c2, c3, c4, t1, t2]
      by_cases k4 : K = 4
      · subst k4
        by_cases c1 : pr = 0 <;> by_cases c2 : C = 0 <;> by_cases c3 : F = 0 <;> by_cases c4 : U = 0 <;> simp [xok, c1, c2, c3, c4, t1, t2]
      by_cases k5 : K = 5
      · subst k5
        by_cases c1 : pr = 0 <;> by_cases c2 : U = 0 <;> by_cases c3 : F = 0 <;> simp [xok, c1, c2, c3, t1, t2]
      by_cases k6 : K = 6
      · subst k6
        by_cases c1 : pr = 0 <;> by_cases c2 : U = 0 <;> by_cases c3 : F = 0 <;> simp [xok, c1, c2, c3, t1, t2]
      by_cases k7 : K = 7
      · subst k7
        by_cases c1 : pr = 0 <;> by_cases c2 : U = 0 <;> by_cases c3 : C = 0 <;> by_cases c4 : F = P <;> simp [xok, c1, c2, c3, c4, t1, t2] <;> omega
      · simp [xok, k1, k2, k3, k4, k5, k6, k7, t1, t2]
    · have : ¬ xok a.Places ⟨T, K, P, pr, U, C, F⟩ := fun h => t2 ⟨h.2.2.1, h.2.2.2.1⟩
      simp [t1, t2, this]
  · have : ¬ xok a.Places ⟨T, K, P, pr, U, C, F⟩ := fun h => t1 ⟨h.1, h.2.1⟩
    simp [t1, this]
open Classical in
theorem validL_eq (a : GEstate) (h1 : 1 ≤ a.Places) (h2 : a.Places ≤ 16) (hn : a.Events.length ≤ 120) : ∀ (l : List GAccess) (k : Nat) (last : Int), a.Events.drop k = l → (0 < k → (a.Events.getD (k - 1) default).Time = last) → (k = 0 → last = 0) → k ≤ a.Events.length →
    forL (F_ref27_Valid_L1 a) l (k : Int) () = some (if chain a.Places last l then .nx () else .ex false)
  | [], k, last, hd, hl, h0, hk => by simp [forL, chain]
  | x :: r, k, last, hd, hl, h0, hk => by
    have hlt : k < a.Events.length := by
      rcases Nat.lt_or_ge k a.Events.length with h | h
      · exact h
      · rw [List.drop_eq_nil_of_le h] at hd; cases hd
    rw [List.drop_eq_getElem_cons hlt] at hd
    obtain ⟨e1, e2⟩ := List.cons.inj hd
    have hx : (a.Events.getD (k + 1 - 1) default) = x := by rw [Nat.add_sub_cancel, List.getD_eq_getElem?_getD, List.getElem?_eq_getElem hlt]; exact e1
    have ih := fun last h => validL_eq a h1 h2 hn r (k + 1) last e2 h (by omega) hlt
    simp only [forL, F_ref27_Valid_L1, event_eq a x h1 h2, Option.bind_some, chain]
    by_cases c : xok a.Places x
    · simp only [c, decide_true, Bool.not_true, cond_false, true_and]
      have ih' := ih x.Time (fun _ => by rw [hx])
      rw [show ((k + 1 : Nat) : Int) = (k : Int) + 1 by simp] at ih'
      by_cases ck : 0 < k
      · have e3 : decide (0 < (k : Int)) = true := decide_eq_true (by omega)
        have e4 : in64 ((k : Int) - 1) = true := in64_sm (by omega) (by omega)
        have e5 : inb ((k : Int) - 1) a.Events.length = true := inb_iff.2 ⟨by omega, by omega⟩
        have e6 : ((k : Int) - 1).toNat = k - 1 := by omega
        simp only [e3, cond_true, chk_true e4, chk_true e5, e6, hl ck]
        by_cases c3 : x.Time < last
        · have : ¬ last ≤ x.Time := by omega
          simp [c3, this, Fl_ex]
        · have : last ≤ x.Time := by omega
          simp [c3, this, Fl_nx, ih']
      · have e3 : decide (0 < (k : Int)) = false := decide_eq_false (by omega)
        have hk0 : k = 0 := by omega
        have : last ≤ x.Time := by rw [h0 hk0]; exact c.1
        simp only [e3, cond_false, Option.bind_some, Fl_nx, this, true_and, ih']
    · simp [c, Fl_ex]
open Classical in
theorem valid_eq (a : GEstate) : F_ref27_Valid a = some (decide (Good a)) := by
  simp only [F_ref27_Valid, rin_eq, Option.bind_some, grp]
  by_cases c : 1 ≤ a.Places ∧ a.Places ≤ 16
  · by_cases c2 : a.Events.length ≤ 120
    · have c' : (!decide (1 ≤ a.Places ∧ a.Places ≤ 16) || decide (120 < (a.Events.length : Int))) = false := by simp [c]; omega
      have h := validL_eq a c.1 c.2 c2 a.Events 0 0 rfl (fun h => by omega) (fun _ => rfl) (by omega)
      simp only [show ((0 : Nat) : Int) = 0 from rfl] at h
      simp only [c', cond_false, h, Option.bind_some]
      by_cases hc : chain a.Places 0 a.Events
      · have : Good a := (good_iff a).2 ⟨c, c2, hc⟩
        simp [this, hc, Fl_nx]
      · have : ¬ Good a := fun h => hc ((good_iff a).1 h).2.2
        simp [this, hc, Fl_ex]
    · have c' : (!decide (1 ≤ a.Places ∧ a.Places ≤ 16) || decide (120 < (a.Events.length : Int))) = true := by simp; omega
      have : ¬ Good a := fun h => c2 h.len
      simp only [c', cond_true, this, decide_false]
  · have : ¬ Good a := fun h => c ⟨h.lo, h.hi⟩
    simp [c, this]
open Classical in
theorem rcheck_eq (a : GEstate) : F_ref27_Check a = F_access_Check a := by
  rw [check_eq]
  simp only [F_ref27_Check, valid_eq, Option.bind_some]
  by_cases h : Good a <;> simp [h]
open Classical in
theorem rplace_eq (a : GEstate) (p : Int) : F_ref27_Place a p = F_access_known a p := by
  rw [known_eq]
  simp only [F_ref27_Place, valid_eq, Option.bind_some, jn]
  by_cases h : Good a
  · have := h.lo; have := h.hi
    simp [h, rin_eq, chk_true (in64_sm (n := a.Places - 1) (by omega) (by omega))]
  · simp [h]
theorem known_cases (a : GEstate) (p : Int) : (F_access_known a p = some true ∧ Good a ∧ 0 ≤ p ∧ p ≤ a.Places - 1) ∨ F_access_known a p = some false := by
  classical
  rw [known_eq]
  by_cases h : Good a ∧ 0 ≤ p ∧ p ≤ a.Places - 1
  · left; exact ⟨congrArg some (decide_eq_true h), h⟩
  · right; exact congrArg some (decide_eq_false h)
/-! ### grants -/
def rgst (p q t : Int) (i : Int) (x : GAccess) (s : Int) : Int :=
  if t < x.Time ∨ x.Place ≠ p ∨ x.Principal ≠ q then s else if x.Kind = 1 then i else if x.Kind = 2 then -1 else s
theorem rgst_body (p q t k : Int) (x : GAccess) (s : Int) : F_ref27_grant_L1 p q t k x s = some (rgst p q t k x s) := by
  simp only [F_ref27_grant_L1, grp, rgst]
  by_cases c : t < x.Time ∨ x.Place ≠ p ∨ x.Principal ≠ q
  · have c' : (decide (t < x.Time) || !decide (x.Place = p) || !decide (x.Principal = q)) = true := by
      simp only [Bool.or_eq_true, decide_eq_true_eq, Bool.not_eq_true', decide_eq_false_iff_not]; omega
    simp only [c', cond_true, if_pos c]
  · have c' : (decide (t < x.Time) || !decide (x.Place = p) || !decide (x.Principal = q)) = false := by
      simp only [Bool.or_eq_false_iff, decide_eq_false_iff_not, Bool.not_eq_false', decide_eq_true_eq]; omega
    simp only [c', cond_false, if_neg c]
    by_cases c2 : x.Kind = 1
    · simp [c2]
    · by_cases c3 : x.Kind = 2 <;> simp [c2, c3]
theorem rgrant_aget (p q t : Int) (l : List GAccess) : foldP (rgst p q t) l 0 (-1) = (aget q (grf p t l)).getD (-1) := by
  induction l using revList_ind with
  | h0 => rfl
  | h1 l x ih =>
    rw [foldP_append, grf_snoc]
    simp only [foldP, Int.zero_add, ih, rgst, gst]
    by_cases c : t < x.Time ∨ x.Place ≠ p
    · rw [if_pos (by omega), if_pos c]
    · rw [if_neg c]
      by_cases cq : x.Principal = q
      · rw [if_neg (by omega)]
        by_cases c2 : x.Kind = 1
        · rw [if_pos c2, if_pos c2, aget_aput, if_pos cq.symm]; rfl
        · rw [if_neg c2, if_neg c2]
          by_cases c3 : x.Kind = 2
          · rw [if_pos c3, if_pos c3, aget_adel _ _ _ (grf_nodup p t l), if_pos cq.symm]; rfl
          · rw [if_neg c3, if_neg c3]
      · have cq' : ¬ q = x.Principal := fun h => cq h.symm
        rw [if_pos (by omega)]
        by_cases c2 : x.Kind = 1
        · rw [if_pos c2, aget_aput, if_neg cq']
        · rw [if_neg c2]
          by_cases c3 : x.Kind = 2
          · rw [if_pos c3, aget_adel _ _ _ (grf_nodup p t l), if_neg cq']
          · rw [if_neg c3]
theorem rgrant_eq (a : GEstate) (p q t : Int) : F_ref27_grant a p q t = some ((aget q (grf p t a.Events)).getD (-1)) := by
  simp only [F_ref27_grant, foldL_plain (rgst p q t) (rgst_body p q t), Option.bind_some, rgrant_aget]
theorem aget_nonneg {p t q k : Int} {l : List GAccess} (h : aget q (grf p t l) = some k) : 0 ≤ k := by
  obtain ⟨n, rfl, _⟩ := grant_told p t q l k h; omega
theorem rGrant_eq (a : GEstate) (p q t : Int) : F_ref27_Grant a p q t = F_access_Grant a p q t := by
  simp only [F_ref27_Grant, rplace_eq]
  rcases known_cases a p with ⟨h, _⟩ | h
  · rw [grant_eq q t h, h]
    simp only [Option.bind_some, Bool.not_true, cond_false, rgrant_eq]
    cases ha : aget q (grf p t a.Events) with
    | none => rfl
    | some k =>
      have := aget_nonneg ha
      simp [this]
  · simp [h, F_access_Grant]
theorem pairwise_range (n : Nat) : ((List.range n).map fun i : Nat => (i : Int)).Pairwise fun x y => x < y := by
  rw [List.pairwise_map]
  exact List.pairwise_lt_range.imp fun h => by omega
theorem rGranted_eq (a : GEstate) (p t : Int) : F_ref27_Granted a p t = F_access_Granted a p t := by
  simp only [F_ref27_Granted, rplace_eq]
  rcases known_cases a p with ⟨h, g, _⟩ | h
  · rw [granted_eq t g.len h, h]
    simp only [Option.bind_some, Bool.not_true, cond_false]
    have key : ∀ q : Int, decide (0 ≤ (aget q (grf p t a.Events)).getD (-1)) = decide (q ∈ keysf p t a.Events) := fun q => by
      have e : (aget q (grf p t a.Events)).isSome = decide (q ∈ keysf p t a.Events) := by rw [aget_isSome, grf_keys]
      rw [← e]
      cases ha : aget q (grf p t a.Events) with
      | none => rfl
      | some k => simpa using aget_nonneg ha
    refine Ok.eq (Ok.bind (Ok.loop (Q := fun r => r = srtI (keysf p t a.Events)) (fun x => 0 ≤ x.1 ∧ x.1 ≤ 24 ∧ x.2 = ((List.range x.1.toNat).map fun i : Nat => (i : Int)).filter fun q => decide (q ∈ keysf p t a.Events)) (fun x => (24 - x.1).toNat) (fun x hx => ?_) _ ⟨by omega, by omega, rfl⟩) fun r hr => Ok.ret hr)
    obtain ⟨i, out⟩ := x
    obtain ⟨h1, h2, h3⟩ := hx
    simp only at h1 h2 h3
    subst h3
    have hl := List.length_filter_le (fun q => decide (q ∈ keysf p t a.Events)) ((List.range i.toNat).map fun i : Nat => (i : Int))
    simp only [List.length_map, List.length_range] at hl
    unfold F_ref27_Granted_L1
    refine Ok.ite (fun c => ?_) fun c => ?_
    · have c : i < 24 := by simpa using c
      rw [rgrant_eq]
      simp only [Option.bind_some, key]
      have e1 : (i + 1).toNat = i.toNat + 1 := by omega
      refine Ok.jn (P := fun j => j = ((List.range (i + 1).toNat).map fun i : Nat => (i : Int)).filter fun q => decide (q ∈ keysf p t a.Events)) (Ok.ite (fun cc => Ok.chk (room_sm (by simp only [List.length_singleton]; omega)) (Ok.ret ?_)) fun cc => Ok.ret ?_) fun j hj => ?_
      · rw [e1, List.range_succ, List.map_append, List.filter_append]
        have e2 : ((i.toNat : Nat) : Int) = i := by omega
        simp only [List.map_cons, List.map_nil, e2, List.filter_cons, cc, if_true, List.filter_nil]
      · rw [e1, List.range_succ, List.map_append, List.filter_append]
        have e2 : ((i.toNat : Nat) : Int) = i := by omega
        simp [e2, cc]
      · refine Ok.chk (in64_sm (by omega) (by omega)) (Ok.ret ?_)
        exact ⟨⟨by show 0 ≤ i + 1; omega, by show i + 1 ≤ 24; omega, hj⟩, by show (24 - (i + 1)).toNat < (24 - i).toNat; omega⟩
    · have c : ¬ i < 24 := by simpa using c
      have : i = 24 := by omega
      subst this
      refine Ok.ret ?_
      show _ = _
      have hsr : (((List.range (Int.toNat 24)).map fun i : Nat => (i : Int)).filter fun q => decide (q ∈ keysf p t a.Events)).Pairwise (fun x y => x ≤ y) := List.Pairwise.filter _ ((pairwise_range 24).imp fun h => Int.le_of_lt h)
      refine sorted_unique ?_ hsr (srtI_sorted _)
      refine List.Perm.trans ?_ (srtI_perm _).symm
      refine (List.perm_ext_iff_of_nodup ?_ (keysf_nodup p t a.Events)).2 fun q => ?_
      · exact List.Pairwise.filter _ ((pairwise_range 24).imp fun h => Int.ne_of_lt h)
      · simp only [List.mem_filter, List.mem_map, List.mem_range, decide_eq_true_eq]
        constructor
        · rintro ⟨_, h⟩; exact h
        · intro hq
          refine ⟨?_, hq⟩
          obtain ⟨w, hw, hw1, hw2, _⟩ := keysf_mem hq
          have := (g.ev w hw).2.2.2.2
          exact ⟨q.toNat, by show q.toNat < (24 : Int).toNat; omega, by omega⟩
  · simp [h, F_access_Granted]
/-! ### links -/
def unl (p t : Int) (y : GAccess) : Prop := y.Kind = 4 ∧ y.Place = p ∧ y.Time ≤ t
def lnk (p t : Int) (x : GAccess) : Prop := x.Kind = 3 ∧ x.Place = p ∧ x.Time ≤ t ∧ t < x.Until
def openP (p t : Int) (l : List GAccess) (k : Nat) : Prop := lnk p t (l.getD k default) ∧ ∀ y ∈ l.drop (k + 1), ¬ unl p t y
open Classical in
noncomputable def refL (p t : Int) (l : List GAccess) : Nat → Int × Bool
  | 0 => (0, false)
  | n + 1 => if openP p t l n then ((n : Int), true) else refL p t l n
theorem openP_snoc {p t : Int} {l : List GAccess} {x : GAccess} {k : Nat} (hk : k < l.length) : openP p t (l ++ [x]) k ↔ openP p t l k ∧ ¬ unl p t x := by
  unfold openP
  rw [show (l ++ [x]).getD k default = l.getD k default by rw [List.getD_eq_getElem?_getD, List.getD_eq_getElem?_getD, List.getElem?_append_left hk], List.drop_append_of_le_length (by omega)]
  simp only [List.mem_append, List.mem_singleton]
  constructor
  · rintro ⟨h1, h2⟩
    exact ⟨⟨h1, fun y hy => h2 y (.inl hy)⟩, h2 x (.inr rfl)⟩
  · rintro ⟨⟨h1, h2⟩, h3⟩
    refine ⟨h1, fun y hy => ?_⟩
    rcases hy with hy | rfl
    · exact h2 y hy
    · exact h3
theorem refL_snoc {p t : Int} {l : List GAccess} {x : GAccess} : ∀ {n : Nat}, n ≤ l.length → (unl p t x → refL p t (l ++ [x]) n = (0, false)) ∧ (¬ unl p t x → refL p t (l ++ [x]) n = refL p t l n)
  | 0, h => ⟨fun _ => rfl, fun _ => rfl⟩
  | n + 1, h => by
    have ih := refL_snoc (p := p) (t := t) (l := l) (x := x) (n := n) (by omega)
    constructor
    · intro hu
      have : ¬ openP p t (l ++ [x]) n := fun h' => ((openP_snoc (by omega)).1 h').2 hu
      simp only [refL, if_neg this, ih.1 hu]
    · intro hu
      have : openP p t (l ++ [x]) n ↔ openP p t l n := by rw [openP_snoc (by omega)]; exact ⟨fun h => h.1, fun h => ⟨h, hu⟩⟩
      by_cases hh : openP p t l n
      · simp only [refL, if_pos (this.2 hh), if_pos hh]
      · simp only [refL, if_neg (fun h => hh (this.1 h)), if_neg hh, ih.2 hu]
theorem refL_lkf (p t : Int) (l : List GAccess) : refL p t l l.length = lkf p t l 0 (0, false) := by
  induction l using revList_ind with
  | h0 => rfl
  | h1 l x ih =>
    rw [List.length_append, List.length_singleton, lkf_append]
    simp only [lkf, Int.zero_add, refL]
    have e : (l ++ [x]).getD l.length default = x := by simp
    have ho : openP p t (l ++ [x]) l.length ↔ lnk p t x := by
      unfold openP
      rw [e, List.drop_eq_nil_of_le (by simp)]
      simp
    rw [← ih]
    have hs := refL_snoc (p := p) (t := t) (l := l) (x := x) (Nat.le_refl l.length)
    unfold lst
    by_cases hl : lnk p t x
    · rw [if_pos (ho.2 hl)]
      obtain ⟨h1, h2, h3, h4⟩ := hl
      rw [if_neg (by omega), if_neg (by omega), if_pos ⟨h1, h4⟩]
    · rw [if_neg fun h => hl (ho.1 h)]
      by_cases hu : unl p t x
      · rw [hs.1 hu]
        obtain ⟨h1, h2, h3⟩ := hu
        rw [if_neg (by omega), if_pos h1]
      · rw [hs.2 hu]
        by_cases c : t < x.Time ∨ x.Place ≠ p
        · rw [if_pos c]
        · rw [if_neg c]
          have : ¬ x.Kind = 4 := fun h => hu ⟨h, by omega, by omega⟩
          rw [if_neg this]
          have : ¬ (x.Kind = 3 ∧ t < x.Until) := fun h => hl ⟨h.1, by omega, by omega, h.2⟩
          rw [if_neg this]
open Classical in
theorem findU (p t : Int) : ∀ m : List GAccess, findL (fun y => if unl p t y then some false else none) m = if ∀ y ∈ m, ¬ unl p t y then none else some false
  | [] => by simp [findL]
  | y :: r => by
    by_cases hu : unl p t y
    · have : ¬ ∀ z ∈ y :: r, ¬ unl p t z := fun h => h y (by simp) hu
      rw [if_neg this]
      simp only [findL, if_pos hu]
    · simp only [findL, if_neg hu, findU p t r]
      by_cases hr : ∀ z ∈ r, ¬ unl p t z
      · have : ∀ z ∈ y :: r, ¬ unl p t z := fun z hz => by
          rcases List.mem_cons.1 hz with rfl | hz
          · exact hu
          · exact hr z hz
        rw [if_pos hr, if_pos this]
      · have : ¬ ∀ z ∈ y :: r, ¬ unl p t z := fun h => hr fun z hz => h z (by simp [hz])
        rw [if_neg hr, if_neg this]
open Classical in
theorem open_ex {a : GEstate} {p t : Int} (hn : a.Events.length ≤ 120) (h : F_access_known a p = some true) {k : Nat} (hk : k < a.Events.length) : ∃ b, F_ref27_Open a p (k : Int) t = some b ∧ (b = true ↔ openP p t a.Events k) := by
  have i1 : in64 ((a.Events.length : Int) - 1) = true := in64_sm (by omega) (by omega)
  have i2 : decide (0 ≤ (k : Int) ∧ (k : Int) ≤ (a.Events.length : Int) - 1) = true := decide_eq_true (by omega)
  have i3 : inb (k : Int) a.Events.length = true := inb_iff.2 ⟨by omega, by omega⟩
  have i4 : in64 ((k : Int) + 1) = true := in64_sm (by omega) (by omega)
  have i5 : inc ((k : Int) + 1) (a.Events.length : Int) a.Events.length = true := inc_iff.2 ⟨by omega, by omega, by omega⟩
  have i6 : ((k : Int) + 1).toNat = k + 1 := by omega
  simp only [F_ref27_Open, rplace_eq, h, Option.bind_some, Bool.not_true, cond_false, chk_true i1, rin_eq, i2, chk_true i3, chk_true i4, chk_true i5, i6, Int.toNat_natCast, grp]
  by_cases c1 : lnk p t (a.Events.getD k default)
  · have c1' := c1
    unfold lnk at c1'
    have e : (!decide ((a.Events.getD k default).Kind = 3) || !decide ((a.Events.getD k default).Place = p) || decide (t < (a.Events.getD k default).Time) || decide ((a.Events.getD k default).Until ≤ t)) = false := by
      simp only [Bool.or_eq_false_iff, decide_eq_false_iff_not, Bool.not_eq_false', decide_eq_true_eq]; omega
    simp only [e, cond_false]
    rw [forL_find (fun y => if unl p t y then some false else none) (a.Events.drop (k + 1)) 0 fun k y _ => by
      simp only [F_ref27_Open_L1, grp]
      by_cases hu : unl p t y
      · have e : (decide (y.Kind = 4) && decide (y.Place = p) && decide (y.Time ≤ t)) = true := by
          simp only [Bool.and_eq_true, decide_eq_true_eq]; exact ⟨⟨hu.1, hu.2.1⟩, hu.2.2⟩
        simp only [e, cond_true, if_pos hu, flO]
      · have e : (decide (y.Kind = 4) && decide (y.Place = p) && decide (y.Time ≤ t)) = false := by
          cases hh : (decide (y.Kind = 4) && decide (y.Place = p) && decide (y.Time ≤ t)) with
          | false => rfl
          | true =>
            simp only [Bool.and_eq_true, decide_eq_true_eq] at hh
            exact absurd ⟨hh.1.1, hh.1.2, hh.2⟩ hu
        simp only [e, cond_false, if_neg hu, flO]]
    simp only [Option.bind_some, elim_flO, findU]
    by_cases hr : ∀ y ∈ a.Events.drop (k + 1), ¬ unl p t y
    · simp only [if_pos hr]
      exact ⟨true, rfl, fun _ => ⟨c1, hr⟩, fun _ => rfl⟩
    · simp only [if_neg hr]
      exact ⟨false, rfl, iff_of_false (by simp) fun h => hr h.2⟩
  · have e : (!decide ((a.Events.getD k default).Kind = 3) || !decide ((a.Events.getD k default).Place = p) || decide (t < (a.Events.getD k default).Time) || decide ((a.Events.getD k default).Until ≤ t)) = true := by
      unfold lnk at c1
      simp only [Bool.or_eq_true, decide_eq_true_eq, Bool.not_eq_true', decide_eq_false_iff_not]; omega
    simp only [e, cond_true]
    exact ⟨false, rfl, iff_of_false (by simp) fun h => c1 h.1⟩
open Classical in
theorem open_eq {a : GEstate} {p t : Int} (hn : a.Events.length ≤ 120) (h : F_access_known a p = some true) {k : Nat} (hk : k < a.Events.length) : F_ref27_Open a p (k : Int) t = some (decide (openP p t a.Events k)) := by
  obtain ⟨b, hb, hb2⟩ := open_ex (t := t) hn h hk
  rw [hb]
  by_cases c : openP p t a.Events k
  · rw [hb2.2 c, decide_eq_true c]
  · have : b = false := by cases b with
      | false => rfl
      | true => exact absurd (hb2.1 rfl) c
    rw [this, decide_eq_false c]
theorem rLinkedL {a : GEstate} {p t : Int} (hn : a.Events.length ≤ 120) (h : F_access_known a p = some true) : ∀ {n : Nat}, n ≤ a.Events.length → ∃ r, loop (F_ref27_Linked_L1 a p t) ((n : Int) - 1) = some r ∧ Sum.elim (fun _ => some (0, false)) (fun u => some u) r = some (refL p t a.Events n)
  | 0, hl => by
    rw [loop_eq]
    simp only [F_ref27_Linked_L1]
    exact ⟨.inl (), rfl, rfl⟩
  | n + 1, hl => by
    classical
    rw [loop_eq]
    have e0 : ((n + 1 : Nat) : Int) - 1 = (n : Int) := by omega
    have e1 : decide (0 ≤ (n : Int)) = true := decide_eq_true (by omega)
    rw [e0]
    simp only [F_ref27_Linked_L1, e1, cond_true, open_eq hn h (show n < a.Events.length by omega), Option.bind_some, refL]
    by_cases c : openP p t a.Events n
    · simp only [c, decide_true, cond_true, Option.bind_some, Fl_ex, if_true]
      exact ⟨_, rfl, rfl⟩
    · have i1 : in64 ((n : Int) - 1) = true := in64_sm (by omega) (by omega)
      simp only [c, decide_false, cond_false, chk_true i1, Option.bind_some, Fl_nx, if_false]
      exact rLinkedL hn h (by omega)
theorem rLinkedN {a : GEstate} {p t : Int} (hn : a.Events.length ≤ 120) (h : F_access_known a p = some false) : ∀ {n : Nat}, n ≤ a.Events.length → loop (F_ref27_Linked_L1 a p t) ((n : Int) - 1) = some (.inl ())
  | 0, hl => by
    rw [loop_eq]
    rfl
  | n + 1, hl => by
    rw [loop_eq]
    have e0 : ((n + 1 : Nat) : Int) - 1 = (n : Int) := by omega
    have e1 : decide (0 ≤ (n : Int)) = true := decide_eq_true (by omega)
    have i1 : in64 ((n : Int) - 1) = true := in64_sm (by omega) (by omega)
    rw [e0]
    simp only [F_ref27_Linked_L1, e1, cond_true, F_ref27_Open, rplace_eq, h, Option.bind_some, Bool.not_false, cond_false, chk_true i1, Fl_nx]
    exact rLinkedN hn h (by omega)
theorem rLinked_eq (a : GEstate) (p t : Int) (hn : a.Events.length ≤ 120) : F_ref27_Linked a p t = F_access_Linked a p t := by
  have i1 : in64 ((a.Events.length : Int) - 1) = true := in64_sm (by omega) (by omega)
  simp only [F_ref27_Linked, chk_true i1]
  rcases known_cases a p with ⟨h, _⟩ | h
  · rw [linked_eq t h, ← refL_lkf]
    obtain ⟨r, h1, h2⟩ := rLinkedL (t := t) hn h (Nat.le_refl _)
    rw [h1]
    exact h2
  · rw [linked_no t h, rLinkedN hn h (Nat.le_refl _)]
    rfl
/-! ### times -/
theorem rtimes_go (d : Array Int) (evs : List GAccess) (hd : d = (evs.map GAccess.Time).toArray) (hn : evs.length ≤ 120) : Ok (foldL F_ref27_Times_L1 evs 0 []) (fun x => x = Go.Lib.compactUpTo d evs.length) := by
  refine Ok.foldI (all := evs) (fun pre x => x = Go.Lib.compactUpTo d pre.length ∧ x.length ≤ pre.length ∧ (0 < pre.length → 0 < x.length ∧ x.getD (x.length - 1) default = d[pre.length - 1]!)) evs [] 0 _ rfl rfl ⟨rfl, by simp, fun h => by simp at h⟩ (fun pre x r s hw hs => ?_) fun s hs => hs.1
  obtain ⟨h1, h2, h3⟩ := hs
  have hpl : pre.length < evs.length := by have := congrArg List.length hw; simp at this; omega
  have hx : d[pre.length]! = x.Time := by
    rw [hd, hw]; simp
  have hlen : (pre ++ [x]).length = pre.length + 1 := by simp
  have fin : ∀ s', (s' = if Go.Lib.keeps d pre.length then s ++ [x.Time] else s) → (s' = Go.Lib.compactUpTo d (pre ++ [x]).length) := fun s' e => by
    rw [hlen, Go.Lib.compactUpTo_succ, e, h1, hx]
    split <;> simp
  unfold F_ref27_Times_L1
  refine Ok.jn (P := fun b => b = Go.Lib.keeps d pre.length) ?_ fun j hj => ?_
  · refine Ok.ite (fun c => Ok.ret ?_) fun c => ?_
    · have c : (s.length : Int) = 0 := by simpa using c
      have : ¬ 0 < pre.length := fun h => by have := (h3 h).1; omega
      exact (Go.Lib.keeps_lt_one d _ (by omega)).symm
    · have c : ¬ (s.length : Int) = 0 := by simpa using c
      have hp : 0 < pre.length := by
        rcases Nat.eq_zero_or_pos pre.length with h | h
        · omega
        · exact h
      refine Ok.chk (in64_sm (by omega) (by omega)) (Ok.chk (inb_iff.2 ⟨by omega, by omega⟩) (Ok.ret ?_))
      have e : ((s.length : Int) - 1).toNat = s.length - 1 := by omega
      rw [e, (h3 hp).2]
      by_cases cc : d[pre.length - 1]! = x.Time
      · rw [Go.Lib.keeps_neg hp (by rw [hx, cc])]; simp [cc]
      · rw [Go.Lib.keeps_pos (by rw [hx]; exact fun h => cc h.symm)]; simp [cc]
  · refine Ok.ite (fun c => ?_) fun c => ?_
    · rw [hj] at c
      refine Ok.chk (room_sm (by simp only [List.length_singleton]; omega)) (Ok.ret ⟨fin _ (by simp [c]), by simp; omega, fun _ => ⟨by simp, ?_⟩⟩)
      simp only [List.length_append, List.length_singleton, Nat.add_sub_cancel, hx]
      simp
    · rw [hj] at c
      have hp : 0 < pre.length := by
        rcases Nat.eq_zero_or_pos pre.length with h | h
        · rw [Go.Lib.keeps_lt_one d _ (by omega)] at c; cases c
        · exact h
      refine Ok.ret ⟨fin _ (by simp [c]), by simp; omega, fun _ => ⟨(h3 hp).1, ?_⟩⟩
      rw [(h3 hp).2, hlen, Nat.add_sub_cancel]
      by_cases cc : d[pre.length]! = d[pre.length - 1]!
      · exact cc.symm
      · rw [Go.Lib.keeps_pos cc] at c; cases c
theorem rTimes_eq (a : GEstate) : F_ref27_Times a = F_access_Times a := by
  classical
  by_cases g : Good a
  · rw [times_eq g]
    simp only [F_ref27_Times, valid_eq, g, decide_true, Option.bind_some, Bool.not_true, cond_false]
    refine Ok.eq (Ok.bind (rtimes_go _ a.Events rfl g.len) fun y hy => Ok.ret ?_)
    rw [hy]; simp [Go.Lib.compact]
  · simp [F_ref27_Times, F_access_Times, valid_eq, check_eq, g]
theorem bent_ok {t : GTape} {a : GEstate} (h : TOK t) (g : Good a) (hn : a.Events.length ≤ 15) : Ok (F_made_BentEstate t a) fun y => y.1.Events.length ≤ 16 ∧ TOK y.2 := by
  unfold F_made_BentEstate
  refine Ok.chk (room_sm (by omega)) (Ok.bind (next_ok h (by omega)) fun y hy => ?_)
  refine Ok.ite (fun _ => Ok.bind (pick_ok hy.2.2 (by simp)) fun z hz => Ok.ret ⟨by show a.Events.length ≤ 16; omega, hz.2⟩) fun _ => ?_
  refine Ok.ite (fun _ => ?_) fun _ => ?_
  · refine Ok.bind (between_ok hy.2.2 (by omega) (by omega) (by omega)) fun b1 h1 => Ok.bind (next_ok h1.2.2 (by omega)) fun b2 h2 => Ok.bind (between_ok h2.2.2 (by omega) (by omega) (by omega)) fun b3 h3 => Ok.bind (next_ok h3.2.2 (by omega)) fun b4 h4 => Ok.bind (next_ok h4.2.2 (by omega)) fun b5 h5 => Ok.bind (next_ok h5.2.2 (by omega)) fun b6 h6 => Ok.bind (next_ok h6.2.2 (by omega)) fun b7 h7 => Ok.chk (room_sm (by simp only [List.length_singleton]; omega)) (Ok.ret ⟨by simp; omega, h7.2.2⟩)
  · refine Ok.ite (fun c => ?_) fun _ => Ok.ret ⟨by show a.Events.length ≤ 16; omega, hy.2.2⟩
    have c : 0 < (a.Events.length : Int) := by simpa using c
    refine Ok.bind (next_ok hy.2.2 c) fun i hi => Ok.chk (inb_iff.2 ⟨hi.1, hi.2.1⟩) (Ok.bind (next_ok hi.2.2 (by omega)) fun k hk => ?_)
    refine Ok.ite (fun _ => Ok.bind (next_ok hk.2.2 (by omega)) fun z hz => Ok.ret ⟨by simp; omega, hz.2.2⟩) fun _ => ?_
    refine Ok.ite (fun _ => Ok.bind (between_ok hk.2.2 (by omega) (by omega) (by omega)) fun z hz => Ok.ret ⟨by simp; omega, hz.2.2⟩) fun _ => ?_
    refine Ok.ite (fun _ => ?_) fun _ => Ok.bind (next_ok hk.2.2 (by omega)) fun z hz => Ok.ret ⟨by simp; omega, hz.2.2⟩
    have hlt : i.1.toNat < a.Events.length := by have := hi.1; have := hi.2.1; omega
    have hx := g.ev _ (List.getElem_mem hlt)
    have e : a.Events.getD i.1.toNat default = a.Events[i.1.toNat] := by rw [List.getD_eq_getElem?_getD, List.getElem?_eq_getElem hlt]; rfl
    rw [e]
    have := hx.2.2.2.2
    exact Ok.chk (in64_sm (by omega) (by omega)) (Ok.ret ⟨by simp; omega, hk.2.2⟩)
theorem one_q (x : GEstate) (hn : x.Events.length ≤ 120) (k : Int) (q : GA50) : Ok (F_law27_AccessExact_L1 x k q ()) (Fl.elim (fun _ => True) fun _ => False) := by
  unfold F_law27_AccessExact_L1
  rw [rGrant_eq, rLinked_eq x _ _ hn, rGranted_eq]
  have hg : ∃ z, F_access_Grant x q.e0 q.e1 q.e2 = some z := by
    rcases known_cases x q.e0 with ⟨h, _⟩ | h
    · exact ⟨_, grant_eq _ _ h⟩
    · exact ⟨(0, false), by simp [F_access_Grant, h]⟩
  have hl : ∃ z, F_access_Linked x q.e0 q.e2 = some z := by
    rcases known_cases x q.e0 with ⟨h, _⟩ | h
    · exact ⟨_, linked_eq _ h⟩
    · exact ⟨_, linked_no _ h⟩
  have hgr : ∃ z, F_access_Granted x q.e0 q.e2 = some z := by
    rcases known_cases x q.e0 with ⟨h, g, _⟩ | h
    · exact ⟨_, granted_eq _ g.len h⟩
    · exact ⟨_, granted_no _ h⟩
  obtain ⟨z1, h1⟩ := hg
  obtain ⟨z2, h2⟩ := hl
  obtain ⟨z3, h3⟩ := hgr
  simp only [h1, h2, h3, Option.bind_some, decide_true, beq_self_eq_true, Bool.not_true, cond_false, ints_eq]
  exact Ok.ret trivial
theorem one_x (p q t : Int) (x : GEstate) (hn : x.Events.length ≤ 120) (k : Int) (s : GTape) (h : TOK s) : Ok (F_law27_AccessExact_L2 p q t k x s) (Fl.elim TOK fun _ => False) := by
  classical
  unfold F_law27_AccessExact_L2
  rw [rcheck_eq, rTimes_eq, check_eq]
  have ht : ∃ z, F_access_Times x = some z := by
    by_cases g : Good x
    · exact ⟨_, times_eq g⟩
    · exact ⟨[], by simp [F_access_Times, check_eq, g]⟩
  obtain ⟨z, hz⟩ := ht
  simp only [hz, Option.bind_some, decide_true, Bool.not_true, cond_false, ints_eq]
  refine Ok.bind (next_ok h (by omega)) fun a1 h1 => Ok.bind (next_ok h1.2.2 (by omega)) fun a2 h2 => Ok.bind (next_ok h2.2.2 (by omega)) fun a3 h3 => Ok.bind (between_ok h3.2.2 (by omega) (by omega) (by omega)) fun a4 h4 => Ok.bind (between_ok h4.2.2 (by omega) (by omega) (by omega)) fun a5 h5 => Ok.bind (next_ok h5.2.2 (by omega)) fun a6 h6 => Ok.bind (next_ok h6.2.2 (by omega)) fun a7 h7 => Ok.bind (next_ok h7.2.2 (by omega)) fun a8 h8 => ?_
  refine Ok.bind (Ok.for (Q := fun o => o = .nx ()) (fun _ => True) _ 0 () trivial (fun k x' s hx _ => (one_q x hn k x').mono fun y hy => by cases y with
    | nx s => exact trivial
    | ex r => exact hy.elim) fun s _ => rfl) fun o ho => by subst ho; exact Ok.ret h8.2.2
theorem exact_law (l : List Int) (raw : GEstate) (p q t : Int) : F_law27_AccessExact l raw p q t = some true := by
  refine Ok.eq ?_
  unfold F_law27_AccessExact
  refine Ok.grp (Ok.ite (fun _ => awake_ok) fun c => ?_)
  simp only [Bool.or_eq_false_iff] at c
  have hr : raw.Events.length ≤ 40 := by have := of_decide_eq_false c.2; omega
  refine made_ok (by rw [c.1]; simp) fun y g hp hn ht hT => Ok.bind (bent_ok hT g hn) fun b hb => ?_
  refine Ok.bind (Ok.for (Q := fun o => ∃ s, o = .nx s) TOK _ 0 _ hb.2 (fun k x s hx h => ?_) fun s _ => ⟨s, rfl⟩) fun o ho => by obtain ⟨s, rfl⟩ := ho; exact awake_ok
  have hl : x.Events.length ≤ 120 := by
    simp only [List.mem_cons, List.not_mem_nil, or_false] at hx
    have := hb.1
    rcases hx with rfl | rfl | rfl <;> omega
  exact (one_x p q t x hl k s h).mono fun y hy => by cases y with
    | nx s => exact hy
    | ex r => exact hy.elim
end Go.Ab
