/- Chapter 27: what the functions of access answer, in plain words. -/
import Derived.Test.YtgjicmoegmbipaaGreatLB
import Derived.Test.YtgjicmoegmbipaaGreatAbHo
import Derived.Test.YtgjicmoegmbipaaGreatLC
import Derived.Test.YtgjicmoegmbipaaGreatAbSearch
set_option linter.all false
set_option linter.all false
namespace Go.Ab
open Go.Proofs
def xok (P : Int) (x : GAccess) : Prop :=
 0 ≤ x.Time ∧ x.Time ≤ 1099511627776 ∧ 0 ≤ x.Place ∧ x.Place ≤ P - 1 ∧
 ((x.Kind = 1 ∨ x.Kind = 2) ∧ 0 ≤ x.Principal ∧ x.Principal ≤ 23 ∧ x.Until = 0 ∧ x.Content = 0 ∧ x.From = 0 ∨
  x.Kind = 3 ∧ x.Time < x.Until ∧ x.Until ≤ 1099511627776 ∧ x.Principal = 0 ∧ x.Content = 0 ∧ x.From = 0 ∨
  x.Kind = 4 ∧ x.Principal = 0 ∧ x.Until = 0 ∧ x.Content = 0 ∧ x.From = 0 ∨
  (x.Kind = 5 ∨ x.Kind = 6) ∧ 0 ≤ x.Content ∧ x.Content ≤ 63 ∧ x.Principal = 0 ∧ x.Until = 0 ∧ x.From = 0 ∨
  x.Kind = 7 ∧ 0 ≤ x.From ∧ x.From ≤ P - 1 ∧ x.From ≠ x.Place ∧ x.Principal = 0 ∧ x.Until = 0 ∧ x.Content = 0)
structure Good (a : GEstate) : Prop where
 lo : 1 ≤ a.Places
 hi : a.Places ≤ 16
 len : a.Events.length ≤ 120
 ev : ∀ x ∈ a.Events, xok a.Places x
 srt : a.Events.Pairwise fun x y => x.Time ≤ y.Time
theorem among_eq (n lo hi : Int) : F_b n lo hi = some (decide (lo ≤ n ∧ n ≤ hi)) := by
 simp [F_b, grp]
theorem in64_sm {n : Int} (h1 : -1000000000000000 ≤ n) (h2 : n ≤ 1000000000000000) : in64 n = true := in64_iff.2 ⟨by omega, by omega⟩
theorem place_eq (a : GEstate) (p : Int) (h1 : 1 ≤ a.Places) (h2 : a.Places ≤ 16) : F_7 a p = some (decide (0 ≤ p ∧ p ≤ a.Places - 1)) := by
 simp [F_7, among_eq, chk_true (in64_sm (n := a.Places - 1) (by omega) (by omega))]
theorem right_eq (a : GEstate) (x : GAccess) (h1 : 1 ≤ a.Places) (h2 : a.Places ≤ 16) (h0 : 0 ≤ x.Time) (hm : x.Time ≤ 1099511627776) : ∃ b, F_1q a x = some b ∧ (b = true ↔ xok a.Places x) := by
 obtain ⟨T, K, P, pr, U, C, F⟩ := x
 simp only at h0 hm
 simp only [F_1q, among_eq, place_eq a _ h1 h2, F_2, jn, grp, Option.bind_some, Option.bind_eq_bind]
 by_cases k1 : K = 1
 ·subst k1
  by_cases c1 : 0 ≤ pr <;> by_cases c2 : pr ≤ 23 <;> simp [xok, c1, c2] <;> omega
 by_cases k2 : K = 2
 ·subst k2
  by_cases c1 : 0 ≤ pr <;> by_cases c2 : pr ≤ 23 <;> simp [xok, c1, c2] <;> omega
 by_cases k3 : K = 3
 ·subst k3
  by_cases c : T < U <;> by_cases c2 : U ≤ 1099511627776 <;> simp [xok, c, c2] <;> omega
 by_cases k4 : K = 4
 ·subst k4
  simp [xok]
  omega
 by_cases k5 : K = 5
 ·subst k5
  by_cases c1 : 0 ≤ C <;> by_cases c2 : C ≤ 63 <;> simp [xok, c1, c2] <;> omega
 by_cases k6 : K = 6
 ·subst k6
  by_cases c1 : 0 ≤ C <;> by_cases c2 : C ≤ 63 <;> simp [xok, c1, c2] <;> omega
 by_cases k7 : K = 7
 ·subst k7
  by_cases c1 : 0 ≤ F <;> by_cases c2 : F ≤ a.Places - 1 <;> by_cases c3 : F = P <;> simp [xok, c1, c2, c3] <;> omega
 ·simp [xok, k1, k2, k3, k4, k5, k6, k7]
def chain (P : Int) : Int → List GAccess → Prop
 | _, [] => True
 | last, x :: r => last ≤ x.Time ∧ xok P x ∧ chain P x.Time r
theorem chain_iff {P : Int} : ∀ {l : List GAccess} {last : Int}, chain P last l ↔ ((∀ x ∈ l, last ≤ x.Time ∧ xok P x) ∧ l.Pairwise fun x y => x.Time ≤ y.Time)
 | [], last => by simp [chain]
 | x :: r, last => by
  simp only [chain, chain_iff (l := r), List.mem_cons, List.pairwise_cons]
  constructor
  ·rintro ⟨h1, h2, h3, h4⟩
   refine ⟨fun y hy => ?_, fun y hy => (h3 y hy).1, h4⟩
   rcases hy with rfl | hy
   ·exact ⟨h1, h2⟩
   ·exact ⟨Int.le_trans h1 (h3 y hy).1, (h3 y hy).2⟩
  ·rintro ⟨h1, h2, h3⟩
   exact ⟨(h1 x (.inl rfl)).1, (h1 x (.inl rfl)).2, fun y hy => ⟨h2 y hy, (h1 y (.inr hy)).2⟩, h3⟩
open Classical in
theorem chkL_eq (a : GEstate) (h1 : 1 ≤ a.Places) (h2 : a.Places ≤ 16) : ∀ (l : List GAccess) (k last : Int),0 ≤ last → ∃ o, forL (F_2i a) l k last = some o ∧ (chain a.Places last l → ∃ s, o = .nx s) ∧ (¬ chain a.Places last l → o = .ex 34)
 | [], k, last, h => ⟨.nx last, rfl, fun _ => ⟨_, rfl⟩, fun hc => absurd trivial hc⟩
 | x :: r, k, last, h => by
  simp only [forL, F_2i, grp, chain]
  by_cases c : x.Time < last ∨ 1099511627776 < x.Time
  ·have c' : (decide (x.Time < last) || decide (1099511627776 < x.Time)) = true := by simpa using c
   simp only [c', cond_true, Option.bind_some, Fl_ex]
   refine ⟨_, rfl, fun hc => ?_, fun _ => rfl⟩
   have := hc.2.1.2.1
   omega
  ·have c' : (decide (x.Time < last) || decide (1099511627776 < x.Time)) = false := by simpa using c
   obtain ⟨b, hb, hb2⟩ := right_eq a x h1 h2 (by omega) (by omega)
   simp only [c', cond_false, hb, Option.bind_some]
   cases b with
   | false =>
    simp only [Bool.not_false, cond_true, Option.bind_some, Fl_ex]
    refine ⟨_, rfl, fun hc => ?_, fun _ => rfl⟩
    have := hb2.2 hc.2.1
    cases this
   | true =>
    simp only [Bool.not_true, cond_false, Option.bind_some, Fl_nx]
    obtain ⟨o, ho, ho1, ho2⟩ := chkL_eq a h1 h2 r (k + 1) x.Time (by omega)
    refine ⟨o, ho, fun hc => ho1 hc.2.2, fun hc => ho2 fun h3 => hc ⟨by omega, hb2.1 rfl, h3⟩⟩
theorem good_iff (a : GEstate) : Good a ↔ (1 ≤ a.Places ∧ a.Places ≤ 16) ∧ a.Events.length ≤ 120 ∧ chain a.Places 0 a.Events := by
 rw [chain_iff]
 constructor
 ·rintro ⟨h1, h2, h3, h4, h5⟩
  exact ⟨⟨h1, h2⟩, h3, fun x hx => ⟨(h4 x hx).1, h4 x hx⟩, h5⟩
 ·rintro ⟨⟨h1, h2⟩, h3, h4, h5⟩
  exact ⟨h1, h2, h3, fun x hx => (h4 x hx).2, h5⟩
open Classical in
theorem check_eq (a : GEstate) : F_5 a = some (if Good a then 0 else 34) := by
 simp only [F_5, among_eq, Option.bind_some, grp]
 by_cases c : 1 ≤ a.Places ∧ a.Places ≤ 16
 ·by_cases c2 : a.Events.length ≤ 120
  ·have c' : (!decide (1 ≤ a.Places ∧ a.Places ≤ 16) || decide (120 < (a.Events.length : Int))) = false := by simp [c]; omega
   obtain ⟨o, ho, ho1, ho2⟩ := chkL_eq a c.1 c.2 a.Events 0 0 (Int.le_refl 0)
   simp only [c', cond_false, ho, Option.bind_some]
   by_cases hc : chain a.Places 0 a.Events
   ·obtain ⟨s, rfl⟩ := ho1 hc
    have : Good a := (good_iff a).2 ⟨c, c2, hc⟩
    simp [this, Fl_nx]
   ·rw [ho2 hc]
    have : ¬ Good a := fun h => hc ((good_iff a).1 h).2.2
    simp [this, Fl_ex]
  ·have c' : (!decide (1 ≤ a.Places ∧ a.Places ≤ 16) || decide (120 < (a.Events.length : Int))) = true := by simp; omega
   have : ¬ Good a := fun h => c2 h.len
   simp only [c', cond_true, if_neg this]
 ·have : ¬ Good a := fun h => c ⟨h.lo, h.hi⟩
  simp [c, this]
open Classical in
theorem known_eq (a : GEstate) (p : Int) : F_1 a p = some (decide (Good a ∧ 0 ≤ p ∧ p ≤ a.Places - 1)) := by
 simp only [F_1, check_eq, Option.bind_some, jn]
 by_cases h : Good a
 ·simp [h, place_eq a p h.lo h.hi]
 ·simp [h]
theorem known_of {a : GEstate} {p : Int} (h : Good a) (h1 : 0 ≤ p) (h2 : p ≤ a.Places - 1) : F_1 a p = some true := by
 rw [known_eq]; simp [h, h1]; omega
theorem Good.sub {a : GEstate} (h : Good a) {l : List GAccess} (hl : l.Sublist a.Events) : Good ⟨a.Places, l⟩ :=
 ⟨h.lo, h.hi, Nat.le_trans hl.length_le h.len, fun x hx => h.ev x (hl.subset hx), h.srt.sublist hl⟩
def lst (p t : Int) (i : Int) (x : GAccess) (s : Int × Bool) : Int × Bool :=
 if t < x.Time ∨ x.Place ≠ p then s else if x.Kind = 4 then (0, false) else if x.Kind = 3 ∧ t < x.Until then (i, true) else s
def lkf (p t : Int) : List GAccess → Int → Int × Bool → Int × Bool
 | [], _, s => s
 | x :: r, i, s => lkf p t r (i + 1) (lst p t i x s)
theorem lkf_append (p t : Int) : ∀ (l m : List GAccess) (i : Int) (s : Int × Bool), lkf p t (l ++ m) i s = lkf p t m (i + l.length) (lkf p t l i s)
 | [], m, i, s => by simp [lkf]
 | x :: r, m, i, s => by
  simp only [List.cons_append, lkf, lkf_append p t r m]
  congr 1
  simp; omega
def lfind (p t : Int) (y : Int × GAccess) : Option (Int × Bool) :=
 if t < y.2.Time ∨ y.2.Place ≠ p then none else if y.2.Kind = 4 then some (0, false) else if y.2.Kind = 3 ∧ t < y.2.Until then some (y.1, true) else none
theorem link_body (p t k : Int) (y : Int × GAccess) : F_47 p t k y () = some (flO (lfind p t y)) := by
 simp only [F_47, grp, lfind]
 by_cases c : t < y.2.Time ∨ y.2.Place ≠ p
 ·have c' : (decide (t < y.2.Time) || !decide (y.2.Place = p)) = true := by simpa using c
  simp [c', c, flO]
 ·have c' : (decide (t < y.2.Time) || !decide (y.2.Place = p)) = false := by simpa using c
  simp only [c', cond_false, if_neg c]
  by_cases c2 : y.2.Kind = 4
  ·simp [c2, flO]
  ·by_cases c3 : y.2.Kind = 3 ∧ t < y.2.Until
   ·simp [c2, c3, flO]
   ·have c4 : (decide (y.2.Kind = 3) && decide (t < y.2.Until)) = false := by simpa using c3
    rw [if_neg c2, if_neg c3]
    simp [c2, c4, flO]
theorem revp_snoc (l : List GAccess) (x : GAccess) : revp (l ++ [x]) = ((l.length : Int), x) :: revp l := by
 unfold revp
 rw [List.length_append, List.length_singleton, List.range_succ_eq_map]
 simp only [List.map_cons, List.map_map]
 congr 1
 ·simp
 ·refine List.map_congr_left fun k hk => ?_
  have := List.mem_range.1 hk
  simp only [Function.comp]
  have e : l.length + 1 - 1 - (k + 1) = l.length - 1 - k := by omega
  rw [show k.succ = k + 1 from rfl, e, List.getD_eq_getElem?_getD, List.getD_eq_getElem?_getD, List.getElem?_append_left (by omega)]
theorem revList_ind {α : Type} {m : List α → Prop} (h0 : m []) (h1 : ∀ l x, m l → m (l ++ [x])) (l : List α) : m l := by
 have : ∀ n (l : List α), l.length = n → m l := by
  intro n
  induction n with
  | zero => intro l hl; rw [List.length_eq_zero_iff.1 hl]; exact h0
  | succ n ih =>
   intro l hl
   have hne : l ≠ [] := by intro e; simp [e] at hl
   rw [← List.dropLast_concat_getLast hne]
   exact h1 _ _ (ih _ (by simp [hl]))
 exact this _ l rfl
theorem find_lkf (p t : Int) (l : List GAccess) : (findL (lfind p t) (revp l)).getD (0, false) = lkf p t l 0 (0, false) := by
 induction l using revList_ind with
 | h0 => rfl
 | h1 l x ih =>
  rw [revp_snoc, lkf_append]
  simp only [findL, lkf, Int.zero_add]
  rw [← ih]
  unfold lfind lst
  by_cases c : t < x.Time ∨ x.Place ≠ p
  ·simp only [if_pos c]
  ·simp only [if_neg c]
   by_cases c2 : x.Kind = 4
   ·simp [c2]
   ·by_cases c3 : x.Kind = 3 ∧ t < x.Until
    ·simp [c2, c3]
    ·simp only [if_neg c2, if_neg c3]
theorem linked_eq {a : GEstate} {p : Int} (t : Int) (h : F_1 a p = some true) : F_8 a p t = some (lkf p t a.Events 0 (0, false)) := by
 simp only [F_8, h, Option.bind_some, Bool.not_true, cond_false, backF]
 rw [forL_find (lfind p t) (revp a.Events) 0 fun k y _ => link_body p t k y, ← find_lkf]
 cases findL (lfind p t) (revp a.Events) <;> rfl
theorem linked_no {a : GEstate} {p : Int} (t : Int) (h : F_1 a p = some false) : F_8 a p t = some (0, false) := by
 simp [F_8, h]
end Go.Ab
namespace Go.Ab
open Go.Proofs
def foldP {α σ : Type} (f : Int → α → σ → σ) : List α → Int → σ → σ
 | [], _, s => s
 | x :: r, k, s => foldP f r (k + 1) (f k x s)
theorem foldL_plain {α σ : Type} {body : Int → α → σ → Option σ} (f : Int → α → σ → σ) (h : ∀ k x s, body k x s = some (f k x s)) : ∀ (xs : List α) (k : Int) (s : σ), foldL body xs k s = some (foldP f xs k s)
 | [], k, s => rfl
 | x :: r, k, s => by simp only [foldL, h, Option.bind_some, foldP, foldL_plain f h r]
theorem foldP_append {α σ : Type} (f : Int → α → σ → σ) : ∀ (xs ys : List α) (k : Int) (s : σ), foldP f (xs ++ ys) k s = foldP f ys (k + xs.length) (foldP f xs k s)
 | [], ys, k, s => by simp [foldP]
 | x :: r, ys, k, s => by
  simp only [List.cons_append, foldP, foldP_append f r ys]
  congr 1
  simp; omega
theorem foldL_push {α β : Type} {body : Int → α → List β → Option (List β)} (g : α → β) (b : Nat) (n : Nat) (hn : n * b ≤ 140737488355328) (h : ∀ k x s, body k x s = chk (room (s.length + [g x].length) b) (some (s ++ [g x]))) :
  ∀ (xs : List α) (k : Int) (s : List β), s.length + xs.length ≤ n → foldL body xs k s = some (s ++ xs.map g)
 | [], k, s, hl => by simp [foldL]
 | x :: r, k, s, hl => by
  have : room (s.length + [g x].length) b = true := room_iff.2 (by
   simp at hl ⊢
   exact Nat.le_trans (Nat.mul_le_mul_right b (by omega)) hn)
  simp only [foldL, h, chk_true this, Option.bind_some]
  rw [foldL_push g b n hn h r (k + 1) _ (by simp at hl ⊢; omega)]
  simp
def gst (p t : Int) (i : Int) (x : GAccess) (m : List (Int × Int)) : List (Int × Int) :=
 if t < x.Time ∨ x.Place ≠ p then m else if x.Kind = 1 then aput x.Principal i m else if x.Kind = 2 then adel x.Principal m else m
def grf (p t : Int) (l : List GAccess) : List (Int × Int) := foldP (gst p t) l 0 []
theorem gst_body (p t k : Int) (x : GAccess) (m : List (Int × Int)) : F_2l p t k x m = some (gst p t k x m) := by
 simp only [F_2l, grp, gst]
 by_cases c : t < x.Time ∨ x.Place ≠ p
 ·have c' : (decide (t < x.Time) || !decide (x.Place = p)) = true := by simpa using c
  simp [c', c]
 ·have c' : (decide (t < x.Time) || !decide (x.Place = p)) = false := by simpa using c
  simp only [c', cond_false, if_neg c]
  by_cases c2 : x.Kind = 1
  ·simp [c2]
  ·by_cases c3 : x.Kind = 2 <;> simp [c2, c3]
theorem grants_eq (a : GEstate) (p t : Int) : F_12 a p t = some (grf p t a.Events) := by
 simp only [F_12, foldL_plain (gst p t) (gst_body p t), Option.bind_some, grf]
theorem keys_aput (k v : Int) : ∀ m : List (Int × Int), (aput k v m).map Prod.fst = if k ∈ m.map Prod.fst then m.map Prod.fst else m.map Prod.fst ++ [k]
 | [] => by simp [aput]
 | (a, b) :: r => by
  by_cases e : k = a
  ·simp [aput, e]
  ·have ih := keys_aput k v r
   simp only [aput, if_neg e, List.map_cons, ih, List.mem_cons]
   by_cases c : k ∈ List.map Prod.fst r <;> simp only [e, c, false_or, if_true, if_false, List.cons_append]
theorem keys_adel (k : Int) : ∀ m : List (Int × Int), (adel k m).map Prod.fst = (m.map Prod.fst).erase k
 | [] => by simp [adel]
 | (a, b) :: r => by
  by_cases e : k = a
  ·simp [adel, e]
  ·have e' : ¬ a = k := fun h => e h.symm
   simp [adel, e, e', List.erase_cons, keys_adel k r]
def kst (p t : Int) (x : GAccess) (ks : List Int) : List Int :=
 if t < x.Time ∨ x.Place ≠ p then ks else if x.Kind = 1 then (if x.Principal ∈ ks then ks else ks ++ [x.Principal]) else if x.Kind = 2 then ks.erase x.Principal else ks
def keysf (p t : Int) (l : List GAccess) : List Int := l.foldl (fun ks x => kst p t x ks) []
theorem gst_keys (p t i : Int) (x : GAccess) (m : List (Int × Int)) : (gst p t i x m).map Prod.fst = kst p t x (m.map Prod.fst) := by
 unfold gst kst
 split
 ·rfl
 ·split
  ·exact keys_aput _ _ _
  ·split
   ·exact keys_adel _ _
   ·rfl
theorem foldP_keys (p t : Int) : ∀ (l : List GAccess) (i : Int) (m : List (Int × Int)), (foldP (gst p t) l i m).map Prod.fst = l.foldl (fun ks x => kst p t x ks) (m.map Prod.fst)
 | [], i, m => rfl
 | x :: r, i, m => by
  simp only [foldP, List.foldl_cons, foldP_keys p t r]
  rw [gst_keys]
theorem grf_keys (p t : Int) (l : List GAccess) : (grf p t l).map Prod.fst = keysf p t l := foldP_keys p t l 0 []
theorem keysf_snoc (p t : Int) (l : List GAccess) (x : GAccess) : keysf p t (l ++ [x]) = kst p t x (keysf p t l) := by simp [keysf]
theorem kst_nodup {p t : Int} {x : GAccess} {ks : List Int} (h : ks.Nodup) : (kst p t x ks).Nodup := by
 unfold kst
 split
 ·exact h
 ·split
  ·split
   ·exact h
   ·rw [List.nodup_append]
    refine ⟨h, by simp, ?_⟩
    intro a ha b hb e
    simp at hb; subst hb; subst e; contradiction
  ·split
   ·exact h.erase _
   ·exact h
theorem keysf_nodup (p t : Int) (l : List GAccess) : (keysf p t l).Nodup := by
 induction l using revList_ind with
 | h0 => simp [keysf]
 | h1 l x ih => rw [keysf_snoc]; exact kst_nodup ih
theorem keysf_len (p t : Int) (l : List GAccess) : (keysf p t l).length ≤ l.length := by
 induction l using revList_ind with
 | h0 => simp [keysf]
 | h1 l x ih =>
  rw [keysf_snoc]
  simp only [List.length_append, List.length_singleton]
  unfold kst
  split
  ·omega
  ·split
   ·split
    ·omega
    ·simp; omega
   ·split
    ·have := List.length_erase_le (a := x.Principal) (l := keysf p t l); omega
    ·omega
theorem keysf_mem {p t : Int} {l : List GAccess} {k : Int} (h : k ∈ keysf p t l) : ∃ x ∈ l, x.Kind = 1 ∧ x.Principal = k ∧ x.Place = p ∧ x.Time ≤ t := by
 induction l using revList_ind with
 | h0 => simp [keysf] at h
 | h1 l x ih =>
  rw [keysf_snoc] at h
  unfold kst at h
  split at h
  ·obtain ⟨y, hy, h⟩ := ih h; exact ⟨y, by simp [hy], h⟩
  ·rename_i c
   split at h
   ·rename_i c2
    split at h
    ·obtain ⟨y, hy, h⟩ := ih h; exact ⟨y, by simp [hy], h⟩
    ·simp only [List.mem_append, List.mem_singleton] at h
     rcases h with h | h
     ·obtain ⟨y, hy, h⟩ := ih h; exact ⟨y, by simp [hy], h⟩
     ·refine ⟨x, by simp, c2, h.symm, ?_, ?_⟩ <;> omega
   ·split at h
    ·obtain ⟨y, hy, h⟩ := ih (List.mem_of_mem_erase h); exact ⟨y, by simp [hy], h⟩
    ·obtain ⟨y, hy, h⟩ := ih h; exact ⟨y, by simp [hy], h⟩
def srtI (l : List Int) : List Int := l.mergeSort fun x y => decide (x ≤ y)
theorem srtI_perm (l : List Int) : (srtI l).Perm l := List.mergeSort_perm _ _
theorem srtI_sorted (l : List Int) : (srtI l).Pairwise (fun x y => x ≤ y) := by
 have := List.pairwise_mergeSort (le := fun x y : Int => decide (x ≤ y)) (fun a b c h1 h2 => by simp at *; omega) (fun a b => by simp; omega) l
 exact this.imp fun h => by simpa using h
theorem sorted_unique {l m : List Int} (h : l.Perm m) (h1 : l.Pairwise (fun x y => x ≤ y)) (h2 : m.Pairwise (fun x y => x ≤ y)) : l = m :=
 h.eq_of_pairwise (fun a b _ _ h1 h2 => by omega) h1 h2
theorem srtI_congr {l m : List Int} (h : l.Perm m) : srtI l = srtI m :=
 sorted_unique ((srtI_perm l).trans (h.trans (srtI_perm m).symm)) (srtI_sorted l) (srtI_sorted m)
theorem srtI_mem {l : List Int} {x : Int} : x ∈ srtI l ↔ x ∈ l := (srtI_perm l).mem_iff
theorem granted_eq {a : GEstate} {p : Int} (t : Int) (hn : a.Events.length ≤ 120) (h : F_1 a p = some true) : F_o a p t = some (srtI (keysf p t a.Events)) := by
 simp only [F_o, h, Option.bind_some, Bool.not_true, cond_false, grants_eq]
 refine permL_of fun l hl => ?_
 have hp : (l.map Prod.fst).Perm (keysf p t a.Events) := by rw [← grf_keys]; exact hl.map _
 have hlen : l.length ≤ 120 := by
  have h1 := hp.length_eq
  have h2 := keysf_len p t a.Events
  simp at h1; omega
 rw [foldL_push (body := F_3v) (g := Prod.fst) (b := 8) (n := 120) (by omega) (fun k x s => rfl) l 0 [] (by simpa using hlen)]
 simp only [Option.bind_some, List.nil_append, sortI]
 have : (l.map Prod.fst).length < 4611686018427387904 := by simp; omega
 rw [if_pos this]
 simp only [Option.bind_some]
 exact congrArg some (srtI_congr hp)
theorem grant_eq {a : GEstate} {p : Int} (q t : Int) (h : F_1 a p = some true) : F_u a p q t = some ((aget q (grf p t a.Events)).getD 0, (aget q (grf p t a.Events)).isSome) := by
 simp only [F_u, h, Option.bind_some, Bool.not_true, cond_false, grants_eq]
end Go.Ab
namespace Go.Ab
open Go.Proofs
def TOK (t : GTape) : Prop := 0 ≤ t.at_ ∧ t.L.length ≤ 400
theorem next_ok {t : GTape} {n : Int} (h : TOK t) (hn : 0 < n) : Ok (F_0 t n) fun y => 0 ≤ y.1 ∧ y.1 < n ∧ TOK y.2 := by
  unfold F_0
  refine Ok.ite (fun c => Ok.ret ⟨Int.le_refl 0, hn, h⟩) fun c => ?_
  have c' : t.at_ < t.L.length := by simpa using c
  have h1 := h.1; have h2 := h.2
  refine Ok.chk (inb_iff.2 ⟨h.1, c'⟩) (Ok.chk (in64_sm (by omega) (by omega)) (Ok.chk (divs_iff.2 ⟨Int.emod_nonneg _ (by decide), hn⟩) (Ok.ret ⟨Int.emod_nonneg _ (by omega), Int.emod_lt_of_pos _ hn, ?_, h2⟩)))
  show 0 ≤ t.at_ + 1
  omega
theorem between_ok {t : GTape} {a b : Int} (h : TOK t) (h1 : -1000000 ≤ a) (h2 : a ≤ b) (h3 : b ≤ 1000000) : Ok (F_1c t a b) fun y => a ≤ y.1 ∧ y.1 ≤ b ∧ TOK y.2 := by
  unfold F_1c
  refine Ok.chk (in64_sm (by omega) (by omega)) (Ok.chk (in64_sm (by omega) (by omega)) (Ok.bind (next_ok h (by omega)) fun y hy => Ok.chk (in64_sm (by omega) (by omega)) (Ok.ret ⟨?_, ?_, hy.2.2⟩)))
  · show a ≤ a + y.1; omega
  · show a + y.1 ≤ b; omega
theorem pick_ok {t : GTape} {l : List Int} (h : TOK t) (hl : 0 < l.length) : Ok (F_1d t l) fun y => y.1 ∈ l ∧ TOK y.2 := by
  unfold F_1d
  refine Ok.bind (next_ok h (by omega)) fun y hy => Ok.chk (inb_iff.2 ⟨hy.1, hy.2.1⟩) (Ok.ret ⟨?_, hy.2.2⟩)
  have : y.1.toNat < l.length := by omega
  simp [this]
theorem room_sm {n b : Nat} (h : n * b ≤ 1000000) : room n b = true := room_iff.2 (by omega)
theorem clock_ok {t : GTape} {n : Int} (h : TOK t) (h0 : 0 ≤ n) (hn : n ≤ 30) : Ok (F_1e t n) fun y => (y.1.length : Int) = n ∧ y.1.Pairwise (fun a b => a ≤ b) ∧ (∀ x ∈ y.1,0 ≤ x ∧ x ≤ 3 + 2 * n) ∧ TOK y.2 := by
  unfold F_1e
  refine Ok.bind (next_ok h (by omega)) fun y hy => ?_
  refine Ok.bind (Ok.loop (Q := fun y : List Int × GTape => (y.1.length : Int) = n ∧ y.1.Pairwise (fun a b => a ≤ b) ∧ (∀ x ∈ y.1,0 ≤ x ∧ x ≤ 3 + 2 * n) ∧ TOK y.2) (fun x => x.2.1 = x.2.2.1.length ∧ x.2.1 ≤ n ∧ x.2.2.1.Pairwise (fun a b => a ≤ b) ∧ (∀ z ∈ x.2.2.1,0 ≤ z ∧ z ≤ x.1) ∧ 0 ≤ x.1 ∧ x.1 ≤ 3 + 2 * x.2.1 ∧ TOK x.2.2.2) (fun x => (n - x.2.1).toNat) (fun x hx => ?_) _ ?_) fun r hr => Ok.ret hr
  · obtain ⟨a, i, out, t⟩ := x
    obtain ⟨h1, h2, h3, h4, h5, h6, h7⟩ := hx
    simp only at h1 h2 h3 h4 h5 h6 h7
    unfold F_40
    refine Ok.ite (fun c => ?_) fun c => ?_
    · have c : i < n := by simpa using c
      refine Ok.bind (next_ok h7 (by omega)) fun y hy => ?_
      obtain ⟨y1, y2, y3⟩ := hy
      refine Ok.chk (in64_sm (by simp only; omega) (by simp only; omega)) (Ok.chk (room_sm (by simp; omega)) (Ok.chk (in64_sm (by simp only; omega) (by simp only; omega)) (Ok.ret ?_)))
      simp only [Fl.elim]
      refine ⟨⟨?_, ?_, ?_, ?_, ?_, ?_, y3⟩, by omega⟩
      · simp; omega
      · omega
      · rw [List.pairwise_append]
        refine ⟨h3, by simp, fun z hz w hw => ?_⟩
        simp at hw
        have := (h4 z hz).2
        omega
      · intro z hz
        simp only [List.mem_append, List.mem_singleton] at hz
        rcases hz with hz | hz
        · have := h4 z hz; omega
        · omega
      · omega
      · omega
    · have c : ¬ i < n := by simpa using c
      refine Ok.ret ?_
      simp only [Fl.elim]
      refine ⟨by omega, h3, fun z hz => ?_, h7⟩
      have := h4 z hz
      omega
  · simp only [List.length_nil]
    refine ⟨rfl, h0, List.Pairwise.nil, by simp, hy.1, by omega, hy.2.2⟩
theorem estate_ok {t : GTape} {d : GDirectory} (h : TOK t) (hd : d.Kinds.length ≤ 7) : Ok (F_25 t d) fun y => Good y.1 ∧ y.1.Places ≤ 4 ∧ y.1.Events.length ≤ 15 ∧ (∀ x ∈ y.1.Events, x.Time ≤ 33) ∧ TOK y.2 := by
  unfold F_25
  refine Ok.bind (between_ok h (by omega) (by omega) (by omega)) fun y hy => Ok.bind (next_ok hy.2.2 (by omega)) fun n hn => Ok.bind (clock_ok hn.2.2 hn.1 (by omega)) fun z hz => ?_
  obtain ⟨z1, z2, z3, z4⟩ := hz
  refine Ok.bind (Ok.foldI (all := z.1) (Q := fun x : Int × List GAccess × GTape => x.1 = y.1 ∧ x.2.1.length ≤ z.1.length ∧ (∀ e ∈ x.2.1, xok y.1 e ∧ e.Time ≤ 33) ∧ x.2.1.Pairwise (fun a b => a.Time ≤ b.Time) ∧ TOK x.2.2)
    (fun pre x => x.1 = y.1 ∧ x.2.1.length ≤ pre.length ∧ (∀ e ∈ x.2.1, xok y.1 e ∧ e.Time ∈ pre) ∧ x.2.1.Pairwise (fun a b => a.Time ≤ b.Time) ∧ TOK x.2.2) z.1 [] 0 _ rfl rfl ⟨rfl, by simp, by simp, List.Pairwise.nil, z4⟩ (fun pre c q s hw hs => ?_) fun s hs => ?_) fun s hs => Ok.ret ?_
  · obtain ⟨s1, s2, s3, s4, s5⟩ := hs
    unfold F_3m
    have hc := z3 c (by rw [hw]; simp)
    have hpre : ∀ e ∈ pre, e ≤ c := fun e he => by rw [hw, List.pairwise_append] at z2; exact z2.2.2 e he c (by simp)
    have hp : pre.length ≤ 15 := by have := congrArg List.length hw; simp at this; omega
    obtain ⟨y1, y2, y3⟩ := hy
    have push : ∀ (x : GAccess) (t : GTape), xok y.1 x → x.Time = c → TOK t → Ok (chk (room (s.2.1.length + [x].length) 56) (some (s.1, s.2.1 ++ [x], t))) fun x => x.1 = y.1 ∧ x.2.1.length ≤ (pre ++ [c]).length ∧ (∀ e ∈ x.2.1, xok y.1 e ∧ e.Time ∈ pre ++ [c]) ∧ x.2.1.Pairwise (fun a b => a.Time ≤ b.Time) ∧ TOK x.2.2 := by
      intro x t hx ht hT
      refine Ok.chk (room_sm (by simp; omega)) (Ok.ret ⟨s1, by simp; omega, fun e he => ?_, ?_, hT⟩)
      · simp only [List.mem_append, List.mem_singleton] at he ⊢
        rcases he with he | rfl
        · exact ⟨(s3 e he).1, .inl (s3 e he).2⟩
        · exact ⟨hx, .inr ht⟩
      · rw [List.pairwise_append]
        refine ⟨s4, by simp, fun e he w hw2 => ?_⟩
        simp only [List.mem_singleton] at hw2
        subst hw2
        rw [ht]; exact hpre _ (s3 e he).2
    refine Ok.bind (pick_ok s5 (by simp)) fun k hk => Ok.bind (next_ok hk.2 (by omega)) fun pl hpl => ?_
    obtain ⟨p1, p2, p3⟩ := hpl
    rw [s1] at p2
    have hk1 : k.1 = 1 ∨ k.1 = 2 ∨ k.1 = 3 ∨ k.1 = 4 ∨ k.1 = 5 ∨ k.1 = 6 ∨ k.1 = 7 := by have := hk.1; simp at this; omega
    refine Ok.jn (P := fun o => match o with | .nx j => xok y.1 j.1 ∧ j.1.Time = c ∧ TOK j.2 | .ex r => TOK r) ?_ fun o ho => ?_
    · refine Ok.jn (P := fun b => b = true ↔ (k.1 = 1 ∨ k.1 = 2)) (Ok.ite (fun c => Ok.ret (by simpa using Or.inl (by simpa using c))) fun c => Ok.ret (by have : ¬ k.1 = 1 := by simpa using c
                                                                                                                                                           simp [this])) fun b hb => ?_
      refine Ok.ite (fun c1 => ?_) fun c1 => ?_
      · have hk2 := hb.1 c1
        refine Ok.chk (in64_sm (by omega) (by omega)) (Ok.bind (next_ok p3 (by omega)) fun w hw2 => Ok.ret ⟨?_, rfl, hw2.2.2⟩)
        exact ⟨by show 0 ≤ c; omega, by show c ≤ 1099511627776; omega, p1, by show pl.1 ≤ y.1 - 1; omega, .inl ⟨hk2, hw2.1, by show w.1 ≤ 23; omega, rfl, rfl, rfl⟩⟩
      · have hk2 : ¬ (k.1 = 1 ∨ k.1 = 2) := fun h => by rw [hb.2 h] at c1; cases c1
        refine Ok.ite (fun c2 => ?_) fun c2 => ?_
        · have c2 : k.1 = 3 := by simpa using c2
          refine Ok.chk (in64_sm (by omega) (by omega)) (Ok.bind (next_ok p3 (by omega)) fun w hw2 => Ok.chk (in64_sm (by omega) (by omega)) (Ok.ret ⟨?_, rfl, hw2.2.2⟩))
          exact ⟨by show 0 ≤ c; omega, by show c ≤ 1099511627776; omega, p1, by show pl.1 ≤ y.1 - 1; omega, .inr (.inl ⟨c2, by show c < c + 1 + w.1; omega, by show c + 1 + w.1 ≤ 1099511627776; omega, rfl, rfl, rfl⟩)⟩
        · have c2 : ¬ k.1 = 3 := by simpa using c2
          refine Ok.jn (P := fun b => b = true ↔ (k.1 = 5 ∨ k.1 = 6)) (Ok.ite (fun c => Ok.ret (by simpa using Or.inl (by simpa using c))) fun c => Ok.ret (by have : ¬ k.1 = 5 := by simpa using c
                                                                                                                                                               simp [this])) fun b hb => ?_
          refine Ok.ite (fun c3 => ?_) fun c3 => ?_
          · have hk3 := hb.1 c3
            refine Ok.bind (next_ok p3 (by omega)) fun w hw2 => Ok.ret ⟨?_, rfl, hw2.2.2⟩
            exact ⟨by show 0 ≤ c; omega, by show c ≤ 1099511627776; omega, p1, by show pl.1 ≤ y.1 - 1; omega, .inr (.inr (.inr (.inl ⟨hk3, hw2.1, by show w.1 ≤ 63; omega, rfl, rfl, rfl⟩)))⟩
          · have hk3 : ¬ (k.1 = 5 ∨ k.1 = 6) := fun h => by rw [hb.2 h] at c3; cases c3
            refine Ok.ite (fun c4 => ?_) fun c4 => ?_
            · have c4 : k.1 = 7 := by simpa using c4
              refine Ok.bind (next_ok p3 (by omega)) fun w hw2 => Ok.ite (fun _ => Ok.ret hw2.2.2) fun c5 => Ok.ret ⟨?_, rfl, hw2.2.2⟩
              have c5 : ¬ w.1 = pl.1 := by simpa using c5
              have hw3 := hw2.2.1
              rw [s1] at hw3
              exact ⟨by show 0 ≤ c; omega, by show c ≤ 1099511627776; omega, p1, by show pl.1 ≤ y.1 - 1; omega, .inr (.inr (.inr (.inr ⟨c4, hw2.1, by show w.1 ≤ y.1 - 1; omega, c5, rfl, rfl, rfl⟩)))⟩
            · have c4 : ¬ k.1 = 7 := by simpa using c4
              refine Ok.ret ⟨?_, rfl, p3⟩
              exact ⟨by show 0 ≤ c; omega, by show c ≤ 1099511627776; omega, p1, by show pl.1 ≤ y.1 - 1; omega, .inr (.inr (.inl ⟨by show k.1 = 4; omega, rfl, rfl, rfl, rfl⟩))⟩
    · cases o with
      | nx j => exact push j.1 j.2 ho.1 ho.2.1 ho.2.2
      | ex r =>
        refine Ok.ret ⟨s1, by simp; omega, fun e he => ⟨(s3 e he).1, by simp [(s3 e he).2]⟩, s4, ho⟩
  · obtain ⟨s1, s2, s3, s4, s5⟩ := hs
    refine ⟨s1, s2, fun e he => ⟨(s3 e he).1, ?_⟩, s4, s5⟩
    have := z3 _ (s3 e he).2
    omega
  · obtain ⟨s1, s2, s3, s4, s5⟩ := hs
    obtain ⟨y1, y2, y3⟩ := hy
    refine ⟨⟨?_, ?_, ?_, fun e he => ?_, s4⟩, ?_, ?_, fun e he => (s3 e he).2, s5⟩ <;> simp only [s1]
    · omega
    · omega
    · omega
    · exact (s3 e he).1
    · omega
    · omega
end Go.Ab
namespace Go.Ab
open Go.Proofs
def mok (d : GDirectory) (x : GMember) : Prop :=
 (x.Kind = 1 ∨ x.Kind = 2) ∧ 0 ≤ x.Time ∧ x.Time ≤ 1099511627776 ∧ (0 ≤ x.Principal ∧ x.Principal < d.Kinds.length) ∧ (0 ≤ x.Group ∧ x.Group < d.Kinds.length ∧ d.Kinds.getD x.Group.toNat default = 2) ∧ x.Principal ≠ x.Group
structure GoodD (d : GDirectory) : Prop where
 kl : d.Kinds.length ≤ 24
 el : d.Events.length ≤ 120
 kd : ∀ k ∈ d.Kinds, 1 ≤ k ∧ k ≤ 3
 ev : ∀ x ∈ d.Events, mok d x
 srt : d.Events.Pairwise fun x y => x.Time ≤ y.Time
theorem dexists_eq (d : GDirectory) (p : Int) : F_a d p = some (decide (0 ≤ p ∧ p < d.Kinds.length)) := by simp [F_a, grp]
theorem dgroup_eq (d : GDirectory) (p : Int) : F_1p d p = some (decide (0 ≤ p ∧ p < d.Kinds.length ∧ d.Kinds.getD p.toNat default = 2)) := by
 simp only [F_1p, dexists_eq, Option.bind_some, jn]
 by_cases c : 0 ≤ p ∧ p < d.Kinds.length
 ·simp [c, chk_true (inb_iff.2 c)]
 ·have : ¬ (0 ≤ p ∧ p < (d.Kinds.length : Int) ∧ d.Kinds.getD p.toNat default = 2) := fun h => c ⟨h.1, h.2.1⟩
  simp only [decide_eq_false c, decide_eq_false this, cond_false, Option.bind_some]
def dchain (d : GDirectory) : Int → List GMember → Prop
 | _, [] => True
 | last, x :: r => (last ≤ x.Time ∧ mok d x) ∧ dchain d x.Time r
theorem dchain_iff {d : GDirectory} : ∀ {l : List GMember} {last : Int}, dchain d last l ↔ ((∀ x ∈ l, last ≤ x.Time ∧ mok d x) ∧ l.Pairwise fun x y => x.Time ≤ y.Time)
 | [], _ => by simp [dchain]
 | x :: r, last => by
  simp only [dchain, dchain_iff, List.mem_cons, List.pairwise_cons]
  constructor
  ·rintro ⟨h1, h2, h3⟩
   refine ⟨fun y hy => ?_, fun y hy => (h2 y hy).1, h3⟩
   rcases hy with rfl | hy
   ·exact h1
   ·have := h1.1
    exact ⟨by have := (h2 y hy).1; omega, (h2 y hy).2⟩
  ·rintro ⟨h1, h2, h3⟩
   exact ⟨h1 x (.inl rfl), fun y hy => ⟨h2 y hy, (h1 y (.inr hy)).2⟩, h3⟩
theorem dchkL_eq (d : GDirectory) : ∀ (l : List GMember) (k last : Int),0 ≤ last → ∃ o, forL (F_2h d) l k last = some o ∧ (dchain d last l → ∃ s, o = .nx s) ∧ (¬ dchain d last l → o = .ex 30)
 | [], k, last, _ => ⟨.nx last, rfl, fun _ => ⟨_, rfl⟩, fun h => absurd trivial h⟩
 | x :: r, k, last, h0 => by
  simp only [forL, F_2h, grp, dexists_eq, dgroup_eq, jn]
  by_cases c : last ≤ x.Time ∧ mok d x
  ·obtain ⟨c1, c2, c3, c4, c5, c6, c7⟩ := c
   have e1 : (!decide (x.Kind = 1) && !decide (x.Kind = 2)) = false := by
    rcases c2 with h | h <;> simp [h]
   have e2 : decide (x.Time < last) = false := decide_eq_false (by omega)
   have e3 : decide (1099511627776 < x.Time) = false := decide_eq_false (by omega)
   simp only [e1, e2, e3, Bool.or_self, cond_false, Option.bind_some, decide_eq_true c5, Bool.not_true, decide_eq_true c6, decide_eq_false c7, Fl_nx]
   obtain ⟨o, h1, h2, h3⟩ := dchkL_eq d r (k + 1) x.Time c3
   refine ⟨o, h1, fun h => h2 h.2, fun h => h3 fun hc => h ⟨⟨c1, c2, c3, c4, c5, c6, c7⟩, hc⟩⟩
  ·refine ⟨.ex 30, ?_, fun h => absurd h.1 c, fun _ => rfl⟩
   by_cases d1 : x.Kind = 1 ∨ x.Kind = 2
   ·have e1 : (!decide (x.Kind = 1) && !decide (x.Kind = 2)) = false := by
     rcases d1 with h | h <;> simp [h]
    by_cases d2 : x.Time < last ∨ 1099511627776 < x.Time
    ·have : (decide (x.Time < last) || decide (1099511627776 < x.Time)) = true := by simpa using d2
     simp only [e1, Bool.false_or, this, cond_true, Option.bind_some, Fl_ex]
    ·have : (decide (x.Time < last) || decide (1099511627776 < x.Time)) = false := by
      simp only [Bool.or_eq_false_iff, decide_eq_false_iff_not]; omega
     simp only [e1, Bool.false_or, this, cond_false, Option.bind_some]
     by_cases d3 : 0 ≤ x.Principal ∧ x.Principal < d.Kinds.length
     ·simp only [decide_eq_true d3, Bool.not_true, cond_false]
      by_cases d4 : 0 ≤ x.Group ∧ x.Group < d.Kinds.length ∧ d.Kinds.getD x.Group.toNat default = 2
      ·have d5 : x.Principal = x.Group := Classical.byContradiction fun hne => c ⟨by omega, d1, by omega, by omega, d3, d4, hne⟩
       simp only [decide_eq_true d4, decide_eq_true d5, Bool.not_true, Bool.false_or, cond_true, Option.bind_some, Fl_ex]
      ·simp only [decide_eq_false d4, Bool.not_false, Bool.true_or, cond_true, Option.bind_some, Fl_ex]
     ·simp only [decide_eq_false d3, Bool.not_false, cond_true, Option.bind_some, Fl_ex]
   ·have e1 : (!decide (x.Kind = 1) && !decide (x.Kind = 2)) = true := by
     simp only [not_or] at d1
     simp [d1.1, d1.2]
    simp only [e1, Bool.true_or, cond_true, Option.bind_some, Fl_ex]
theorem find_negD {α : Type} {body : Int → α → Unit → Option (Fl Unit Int)} (p : α → Prop) [DecidablePred p] (h : ∀ k x, body k x () = some (if p x then .ex k else .nx ())) : ∀ (xs : List α) (k : Int),0 ≤ k →
  ∃ o, forL body xs k () = some o ∧ ((∃ x ∈ xs, p x) → ∃ r, o = .ex r ∧ 0 ≤ r) ∧ ((∀ x ∈ xs, ¬ p x) → o = .nx ())
 | [], k, hk => ⟨.nx (), rfl, fun ⟨x, hx, _⟩ => by simp at hx, fun _ => rfl⟩
 | x :: r, k, hk => by
  simp only [forL, h]
  by_cases c : p x
  ·simp only [if_pos c, Option.bind_some, Fl_ex]
   exact ⟨_, rfl, fun _ => ⟨k, rfl, hk⟩, fun hn => absurd c (hn x (by simp))⟩
  ·simp only [if_neg c, Option.bind_some, Fl_nx]
   obtain ⟨o, h1, h2, h3⟩ := find_negD p h r (k + 1) (by omega)
   refine ⟨o, h1, fun ⟨y, hy, hp⟩ => ?_, fun hn => h3 fun y hy => hn y (by simp [hy])⟩
   rcases List.mem_cons.1 hy with rfl | hy
   ·exact absurd hp c
   ·exact h2 ⟨y, hy, hp⟩
theorem contains_ofD {α : Type} {body : Int → α → Unit → Option (Fl Unit Int)} (p : α → Prop) [DecidablePred p] (xs : List α) [Decidable (∃ x ∈ xs, p x)] (h : ∀ k x, body k x () = some (if p x then .ex k else .nx ())) :
  (((forL body xs 0 ()).bind fun o => o.elim (fun _ => some (-1)) fun r => some r).bind fun y => some (decide (0 ≤ y))) = some (decide (∃ x ∈ xs, p x)) := by
 obtain ⟨o, h1, h2, h3⟩ := find_negD p h xs 0 (Int.le_refl 0)
 rw [h1]
 by_cases c : ∃ x ∈ xs, p x
 ·obtain ⟨r, rfl, hr⟩ := h2 c
  simp only [Option.bind_some, Fl_ex, decide_eq_true hr, decide_eq_true c]
 ·have := h3 fun x hx hp => c ⟨x, hx, hp⟩
  subst this
  simp only [Option.bind_some, Fl_nx, decide_eq_false c]
  rfl
theorem dcont_eq (s : List Int) (v : Int) : F_p s v = some (decide (v ∈ s)) := by
 have h := contains_ofD (body := F_2m v) (fun y => v = y) s fun k y => by
  by_cases c : v = y <;> simp [F_2m, c]
 have e : decide (∃ y ∈ s, v = y) = decide (v ∈ s) := decide_eq_decide.2 ⟨fun ⟨y, hy, e⟩ => e ▸ hy, fun h => ⟨v, h, rfl⟩⟩
 rw [e] at h
 exact h
theorem goodD_iff (d : GDirectory) : GoodD d ↔ d.Kinds.length ≤ 24 ∧ d.Events.length ≤ 120 ∧ (∀ k ∈ d.Kinds, 1 ≤ k ∧ k ≤ 3) ∧ dchain d 0 d.Events := by
 rw [dchain_iff]
 exact ⟨fun h => ⟨h.kl, h.el, h.kd, fun x hx => ⟨(h.ev x hx).2.1, h.ev x hx⟩, h.srt⟩, fun ⟨h1, h2, h3, h4, h5⟩ => ⟨h1, h2, h3, fun x hx => (h4 x hx).2, h5⟩⟩
open Classical in
theorem dcheck_eq (d : GDirectory) : F_f d = some (if GoodD d then 0 else 30) := by
 simp only [F_f, grp]
 by_cases h1 : d.Kinds.length ≤ 24 ∧ d.Events.length ≤ 120
 ·have e1 : (decide (24 < (d.Kinds.length : Int)) || decide (120 < (d.Events.length : Int))) = false := by
   simp only [Bool.or_eq_false_iff, decide_eq_false_iff_not]; omega
  have e2 : F_2g d.Kinds = some (decide (∃ k ∈ d.Kinds, ¬ (1 ≤ k ∧ k ≤ 3))) := by
   refine contains_ofD (fun k => ¬ (1 ≤ k ∧ k ≤ 3)) d.Kinds fun k x => ?_
   simp only [F_35, F_m, grp, Option.bind_some]
   by_cases c : 1 ≤ x ∧ x ≤ 3
   ·have : (decide (x < 1) || decide (3 < x)) = false := by simp only [Bool.or_eq_false_iff, decide_eq_false_iff_not]; omega
    simp [this, c]
   ·have : (decide (x < 1) || decide (3 < x)) = true := by simp only [Bool.or_eq_true, decide_eq_true_eq]; omega
    simp only [this, cond_true, c, not_false_eq_true, if_true]
  simp only [e1, e2, cond_false, Option.bind_some]
  by_cases q : ∃ k ∈ d.Kinds, ¬ (1 ≤ k ∧ k ≤ 3)
  ·have : ¬ GoodD d := fun h => by obtain ⟨k, hk, hn⟩ := q; exact hn (h.kd k hk)
   simp only [decide_eq_true q, cond_true, if_neg this]
  ·simp only [decide_eq_false q, cond_false]
   have q' : ∀ k ∈ d.Kinds, 1 ≤ k ∧ k ≤ 3 := fun k hk => Classical.byContradiction fun hn => q ⟨k, hk, hn⟩
   obtain ⟨o, k1, k2, k3⟩ := dchkL_eq d d.Events 0 0 (Int.le_refl 0)
   rw [k1]
   by_cases c : dchain d 0 d.Events
   ·obtain ⟨s, rfl⟩ := k2 c
    simp only [Option.bind_some, Fl_nx, if_pos ((goodD_iff d).2 ⟨h1.1, h1.2, q', c⟩)]
   ·rw [k3 c]
    have : ¬ GoodD d := fun h => c ((goodD_iff d).1 h).2.2.2
    simp only [Option.bind_some, Fl_ex, if_neg this]
 ·have e1 : (decide (24 < (d.Kinds.length : Int)) || decide (120 < (d.Events.length : Int))) = true := by
   simp only [Bool.or_eq_true, decide_eq_true_eq]; omega
  have : ¬ GoodD d := fun h => h1 ⟨h.kl, h.el⟩
  simp only [e1, cond_true, if_neg this]
theorem dknown_eq {d : GDirectory} (g : GoodD d) (p : Int) : F_1s d p = some (decide (0 ≤ p ∧ p < d.Kinds.length)) := by
 simp only [F_1s, dcheck_eq, if_pos g, Option.bind_some, decide_true, cond_true, dexists_eq, jn]
end Go.Ab
namespace Go.Ab
open Go.Proofs
inductive RT (L : Nat → Nat → Bool) (n p : Nat) : Nat → Prop
 | refl : RT L n p p
 | step {a b : Nat} (h : RT L n p a) (ha : a < n) (hb : b < n) (hl : L a b = true) : RT L n p b
theorem room_smD {n b : Nat} (h : n * b ≤ 1000000) : room n b = true := room_iff.2 (by omega)
theorem in64_smD {n : Int} (h1 : -1000000000000000 ≤ n) (h2 : n ≤ 1000000000000000) : in64 n = true := in64_iff.2 ⟨by omega, by omega⟩
def gt (o : List Bool) : Nat → Bool := fun i => o.getD i false
theorem gt_set {o : List Bool} {k : Nat} (hk : k < o.length) (i : Nat) : gt (o.set k true) i = if i = k then true else gt o i := by
 simp only [gt, List.getD_eq_getElem?_getD, List.getElem?_set]
 by_cases e : k = i
 ·subst e; simp [hk]
 ·rw [if_neg e, if_neg (fun h => e h.symm)]
theorem uprow_ok {L : Nat → Nat → Bool} {n p : Nat} (hn : n ≤ 24) {row : List Bool} (hr : row.length = n) {a : Nat} (ha : a < n) (hL : ∀ i, i < n → row.getD i false = L a i) (q : List Int) (o : List Bool) (ho : o.length = n) (hq : q.length ≤ 100)
  (hR : ∀ i, i < n → gt o i = true → RT L n p i) (hRa : RT L n p a) :
  Ok (foldL F_2j row 0 (q, o)) fun s => ∃ news, s.1 = q ++ news ∧ s.2.length = n ∧ (∀ x ∈ news, 0 ≤ x ∧ x < n ∧ gt s.2 x.toNat = true) ∧ (∀ i, gt o i = true → gt s.2 i = true) ∧ (∀ i, i < n → gt s.2 i = true → RT L n p i) ∧
   (∀ i, i < n → L a i = true → gt s.2 i = true) ∧ (∀ i, i < n → gt s.2 i = true → gt o i = true ∨ (i : Int) ∈ news) ∧ cnt (gt s.2) n = cnt (gt o) n + news.length := by
 refine Ok.foldI (all := row) (fun pre s => ∃ news, s.1 = q ++ news ∧ s.2.length = n ∧ (∀ x ∈ news, 0 ≤ x ∧ x < n ∧ gt s.2 x.toNat = true) ∧ (∀ i, gt o i = true → gt s.2 i = true) ∧ (∀ i, i < n → gt s.2 i = true → RT L n p i) ∧
   (∀ i, i < pre.length → L a i = true → gt s.2 i = true) ∧ (∀ i, i < n → gt s.2 i = true → gt o i = true ∨ (i : Int) ∈ news) ∧ cnt (gt s.2) n = cnt (gt o) n + news.length) row [] 0 _ rfl rfl ⟨[], by simp, ho, by simp, fun _ h => h, hR, fun i hi => by simp at hi, fun i _ h => .inl h, by simp⟩ (fun pre x r s hw hs => ?_) fun s hs => by rw [hr] at hs; exact hs
 obtain ⟨q', o'⟩ := s
 obtain ⟨news, rfl, h1, h2, h3, h4, h5, h6, h7⟩ := hs
 simp only at h1 h2 h3 h4 h5 h6 h7
 have hlen : pre.length < n := by rw [← hr, hw]; simp
 have hx : x = L a pre.length := by rw [← hL _ hlen, hw]; simp
 unfold F_2j
 have hi : inb (pre.length : Int) o'.length = true := inb_iff.2 ⟨by omega, by omega⟩
 have hg : o'.getD (pre.length : Int).toNat default = gt o' pre.length := by simp [gt]
 cases hxx : x with
 | false =>
  simp only [cond_false, jn, Option.bind_some]
  refine Ok.ret ⟨news, rfl, h1, h2, h3, h4, fun i hi' hl => ?_, h6, h7⟩
  simp only [List.length_append, List.length_singleton] at hi'
  by_cases e : i = pre.length
  ·subst e; rw [← hx, hxx] at hl; cases hl
  ·exact h5 i (by omega) hl
 | true =>
  have hla : L a pre.length = true := by rw [← hx, hxx]
  simp only [cond_true, jn, chk_true hi, Option.bind_some, hg]
  cases hgo : gt o' pre.length with
  | true =>
   simp only [Bool.not_true, cond_false]
   refine Ok.ret ⟨news, rfl, h1, h2, h3, h4, fun i hi' hl => ?_, h6, h7⟩
   simp only [List.length_append, List.length_singleton] at hi'
   by_cases e : i = pre.length
   ·subst e; exact hgo
   ·exact h5 i (by omega) hl
  | false =>
   simp only [Bool.not_false, cond_true]
   have hc1 := cnt_le (gt o') n
   refine Ok.chk (room_smD (by simp; omega)) ?_
   have hset : ∀ i, gt (o'.set (pre.length : Int).toNat true) i = if i = pre.length then true else gt o' i := fun i => by
    have := gt_set (o := o') (k := pre.length) (by omega) i
    simpa using this
   have hmono : ∀ i, gt o' i = true → gt (o'.set (pre.length : Int).toNat true) i = true := fun i h => by rw [hset]; split <;> simp [h]
   refine Ok.ret ⟨news ++ [(pre.length : Int)], by simp, by simp [h1], fun y hy => ?_, fun i h => hmono i (h3 i h), fun i hi' h => ?_, fun i hi' hl => ?_, fun i hi' h => ?_, ?_⟩
   ·simp only [List.mem_append, List.mem_singleton] at hy
    rcases hy with hy | rfl
    ·obtain ⟨a1, a2, a3⟩ := h2 y hy
     exact ⟨a1, a2, hmono _ a3⟩
    ·exact ⟨by omega, by omega, by simp only [hset]; simp⟩
   ·simp only [hset] at h
    by_cases e : i = pre.length
    ·subst e; exact .step hRa ha hlen hla
    ·rw [if_neg e] at h; exact h4 i hi' h
   ·simp only [List.length_append, List.length_singleton] at hi'
    by_cases e : i = pre.length
    ·simp only [hset, e, if_true]
    ·exact hmono i (h5 i (by omega) hl)
   ·simp only [hset] at h
    by_cases e : i = pre.length
    ·exact .inr (by simp [e])
    ·rw [if_neg e] at h
     rcases h6 i hi' h with h | h
     ·exact .inl h
     ·exact .inr (by simp [h])
   ·have : cnt (gt (o'.set (pre.length : Int).toNat true)) n = cnt (gt o') n + 1 := by
     have key : ∀ m, cnt (gt (o'.set (pre.length : Int).toNat true)) m = cnt (gt o') m + (if pre.length < m then 1 else 0) := by
      intro m
      induction m with
      | zero => simp [cnt]
      | succ m ih =>
       simp only [cnt, ih, hset]
       by_cases e : m = pre.length
       ·subst e; rw [hgo]; simp
       ·rw [if_neg e]
        by_cases c : pre.length < m
        ·rw [if_pos c, if_pos (by omega)]; omega
        ·rw [if_neg c, if_neg (by omega)]; omega
     rw [key, if_pos hlen]
    simp only [this, List.length_append, List.length_singleton]
    omega
theorem upward_ok {L : Nat → Nat → Bool} {n p : Nat} (hn : n ≤ 24) (hp : p < n) (T : List (List Bool)) (hT : T.length = n) (hrow : ∀ a, a < n → (T.getD a default).length = n ∧ ∀ i, i < n → (T.getD a default).getD i false = L a i) :
  Ok (F_1t T (p : Int)) fun o => o.length = n ∧ ∀ i, i < n → (gt o i = true ↔ RT L n p i) := by
 unfold F_1t
 rw [hT]
 have hl0 : (List.replicate ((n : Int)).toNat false).length = n := by simp
 refine Ok.chk (roomI_iff.2 ⟨by omega, by omega, by omega⟩) (Ok.chk (inb_iff.2 ⟨by omega, by rw [hl0]; omega⟩) ?_)
 have hset : ∀ i, gt ((List.replicate ((n : Int)).toNat false).set ((p : Int)).toNat true) i = if i = p then true else gt (List.replicate n false) i := fun i => by
  have := gt_set (o := List.replicate n false) (k := p) (by simpa using hp) i
  simpa using this
 have hrep : ∀ i, gt (List.replicate n false) i = false := fun i => by
  simp only [gt, List.getD_eq_getElem?_getD, List.getElem?_replicate]
  split <;> rfl
 refine Ok.bind (Ok.loop (Q := fun o : List Bool => o.length = n ∧ ∀ i, i < n → (gt o i = true ↔ RT L n p i))
  (fun (s : List Int × List Bool) => s.2.length = n ∧ (∀ x ∈ s.1,0 ≤ x ∧ x < n ∧ gt s.2 x.toNat = true) ∧ (∀ i, i < n → gt s.2 i = true → RT L n p i) ∧ gt s.2 p = true ∧ (∀ a, a < n → gt s.2 a = true → (a : Int) ∉ s.1 → ∀ b, b < n → L a b = true → gt s.2 b = true) ∧ s.1.length ≤ cnt (gt s.2) n)
  (fun (s : List Int × List Bool) => 2 * (n - cnt (gt s.2) n) + s.1.length) (fun s hs => ?_) _ ?_) fun r hr => Ok.ret hr
 ·obtain ⟨q, o⟩ := s
  obtain ⟨i1, i2, i3, i4, i5, i6⟩ := hs
  simp only at i1 i2 i3 i4 i5 i6
  unfold F_3u
  have hcn := cnt_le (gt o) n
  refine Ok.ite (fun cq => ?_) fun cq => ?_
  ·have cq : 0 < (q.length : Int) := by simpa using cq
   obtain ⟨q0, rest, rfl⟩ : ∃ a r, q = a :: r := by
    cases q with
    | nil => simp at cq
    | cons a r => exact ⟨a, r, rfl⟩
   have e0 : (q0 :: rest).getD 0 default = q0 := rfl
   obtain ⟨b1, b2, b3⟩ := i2 q0 (by simp)
   refine Ok.chk (inb_iff.2 ⟨by omega, cq⟩) ?_
   simp only [e0]
   have hqa : q0.toNat < n := by omega
   obtain ⟨r1, r2⟩ := hrow q0.toNat hqa
   refine Ok.chk (inb_iff.2 ⟨by omega, by rw [hT]; exact b2⟩) (Ok.bind (uprow_ok (p := p) hn r1 hqa r2 (q0 :: rest) o i1 (by omega) i3 (i3 _ hqa b3)) fun s hs => ?_)
   obtain ⟨q', o'⟩ := s
   obtain ⟨news, hq', h1, h2, h3, h4, h5, h6, h7⟩ := hs
   simp only at hq' h1 h2 h3 h4 h5 h6 h7
   subst hq'
   have hcn' := cnt_le (gt o') n
   refine Ok.chk (inc_iff.2 ⟨by omega, by simp; omega, by omega⟩) (Ok.ret ?_)
   have e1 : (((q0 :: rest) ++ news).drop 1).take (((q0 :: rest) ++ news).length - 1) = rest ++ news := by
    simp only [List.cons_append, List.drop_succ_cons, List.drop_zero, List.length_cons, Nat.add_sub_cancel]
    exact List.take_length
   rw [e1]
   refine ⟨⟨h1, fun x hx => ?_, h4, h3 p i4, fun a ha hga hna b hb hl => ?_, ?_⟩, ?_⟩
   ·rcases List.mem_append.1 hx with hx | hx
    ·obtain ⟨c1, c2, c3⟩ := i2 x (by simp [hx])
     exact ⟨c1, c2, h3 _ c3⟩
    ·exact h2 x hx
   ·simp only [List.mem_append, not_or] at hna
    rcases h6 a ha hga with hoa | hnew
    ·by_cases e : (a : Int) = q0
     ·have : a = q0.toNat := by omega
      subst this
      exact h5 b hb hl
     ·exact h3 b (i5 a ha hoa (by simp only [List.mem_cons, not_or]; exact ⟨e, hna.1⟩) b hb hl)
    ·exact absurd hnew hna.2
   ·simp only [List.length_append, List.length_cons] at i6 ⊢
    omega
   ·show 2 * (n - cnt (gt o') n) + (rest ++ news).length < 2 * (n - cnt (gt o) n) + (q0 :: rest).length
    simp only [List.length_append, List.length_cons] at i6 ⊢
    omega
  ·have : q = [] := by
    have cq : ¬ 0 < (q.length : Int) := by simpa using cq
    exact List.length_eq_zero_iff.1 (by omega)
   subst this
   refine Ok.ret ⟨i1, fun i hi => ⟨i3 i hi, fun h => ?_⟩⟩
   induction h with
   | refl => exact i4
   | step h ha hb hl ih => exact i5 _ ha (ih ha) (by simp) _ hb hl
 ·refine ⟨by simp, fun x hx => ?_, fun i hi h => ?_, by simp only [hset, if_true], fun a ha h hna => ?_, ?_⟩
  ·simp only [List.mem_singleton] at hx
   subst hx
   exact ⟨by omega, by omega, by simp only [hset]; simp⟩
  ·simp only [hset, hrep] at h
   by_cases e : i = p
   ·subst e; exact .refl
   ·rw [if_neg e] at h; cases h
  ·simp only [hset, hrep] at h
   by_cases e : a = p
   ·subst e; simp at hna
   ·rw [if_neg e] at h; cases h
  ·exact cnt_pos (j := p) (by simp only [hset, if_true]) n hp
end Go.Ab
