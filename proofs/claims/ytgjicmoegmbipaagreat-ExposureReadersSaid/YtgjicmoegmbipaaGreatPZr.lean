/- The reference's estates are the program's: what is valid. -/
import Derived.Test.YtgjicmoegmbipaaGreatPY
import Derived.Test.YtgjicmoegmbipaaGreatLRe
set_option linter.all false
set_option linter.all false
namespace Go.Ab
open Go.Proofs
theorem rin_eq (n lo hi : Int) : F_6 n lo hi = some (decide (lo ≤ n ∧ n ≤ hi)) := by simp [F_6, grp]
open Classical in
theorem event_eq (a : GEstate) (x : GAccess) (h1 : 1 ≤ a.Places) (h2 : a.Places ≤ 16) : F_20 a x = some (decide (xok a.Places x)) := by
 have hin : ∀ o : Option Bool, chk (in64 (a.Places - 1)) o = o := fun o => chk_true (in64_sm (n := a.Places - 1) (by omega) (by omega))
 obtain ⟨T, K, P, pr, U, C, F⟩ := x
 simp only [F_20, rin_eq, Option.bind_some, jn, grp, hin, decide_true, Bool.true_and]
 by_cases t1 : 0 ≤ T ∧ T ≤ 1099511627776
 ·by_cases t2 : 0 ≤ P ∧ P ≤ a.Places - 1
  ·simp only [t1, t2, and_self, decide_true, Bool.not_true, cond_false]
   by_cases k1 : K = 1
   ·subst k1
    by_cases c1 : U = 0 <;> by_cases c2 : C = 0 <;> by_cases c3 : F = 0 <;> simp [xok, c1, c2, c3, t1, t2]
   by_cases k2 : K = 2
   ·subst k2
    by_cases c1 : U = 0 <;> by_cases c2 : C = 0 <;> by_cases c3 : F = 0 <;> simp [xok, c1, c2, c3, t1, t2]
   by_cases k3 : K = 3
   ·subst k3
    by_cases c1 : pr = 0 <;> by_cases c2 : C = 0 <;> by_cases c3 : F = 0 <;> by_cases c4 : T < U <;> simp [xok, c1, c2, c3, c4, t1, t2]
   by_cases k4 : K = 4
   ·subst k4
    by_cases c1 : pr = 0 <;> by_cases c2 : C = 0 <;> by_cases c3 : F = 0 <;> by_cases c4 : U = 0 <;> simp [xok, c1, c2, c3, c4, t1, t2]
   by_cases k5 : K = 5
   ·subst k5
    by_cases c1 : pr = 0 <;> by_cases c2 : U = 0 <;> by_cases c3 : F = 0 <;> simp [xok, c1, c2, c3, t1, t2]
   by_cases k6 : K = 6
   ·subst k6
    by_cases c1 : pr = 0 <;> by_cases c2 : U = 0 <;> by_cases c3 : F = 0 <;> simp [xok, c1, c2, c3, t1, t2]
   by_cases k7 : K = 7
   ·subst k7
    by_cases c1 : pr = 0 <;> by_cases c2 : U = 0 <;> by_cases c3 : C = 0 <;> by_cases c4 : F = P <;> simp [xok, c1, c2, c3, c4, t1, t2] <;> omega
   ·simp [xok, k1, k2, k3, k4, k5, k6, k7, t1, t2]
  ·have : ¬ xok a.Places ⟨T, K, P, pr, U, C, F⟩ := fun h => t2 ⟨h.2.2.1, h.2.2.2.1⟩
   simp [t1, t2, this]
 ·have : ¬ xok a.Places ⟨T, K, P, pr, U, C, F⟩ := fun h => t1 ⟨h.1, h.2.1⟩
  simp [t1, this]
open Classical in
theorem validL_eq (a : GEstate) (h1 : 1 ≤ a.Places) (h2 : a.Places ≤ 16) (hn : a.Events.length ≤ 120) : ∀ (l : List GAccess) (k : Nat) (last : Int), a.Events.drop k = l → (0 < k → (a.Events.getD (k - 1) default).Time = last) → (k = 0 → last = 0) → k ≤ a.Events.length →
  forL (F_2v a) l (k : Int) () = some (if chain a.Places last l then .nx () else .ex false)
 | [], k, last, hd, hl, h0, hk => by simp [forL, chain]
 | x :: r, k, last, hd, hl, h0, hk => by
  have hlt : k < a.Events.length := by
   rcases Nat.lt_or_ge k a.Events.length with h | h
   ·exact h
   ·rw [List.drop_eq_nil_of_le h] at hd; cases hd
  rw [List.drop_eq_getElem_cons hlt] at hd
  obtain ⟨e1, e2⟩ := List.cons.inj hd
  have hx : (a.Events.getD (k + 1 - 1) default) = x := by rw [Nat.add_sub_cancel, List.getD_eq_getElem?_getD, List.getElem?_eq_getElem hlt]; exact e1
  have ih := fun last h => validL_eq a h1 h2 hn r (k + 1) last e2 h (by omega) hlt
  simp only [forL, F_2v, event_eq a x h1 h2, Option.bind_some, chain]
  by_cases c : xok a.Places x
  ·simp only [c, decide_true, Bool.not_true, cond_false, true_and]
   have ih' := ih x.Time (fun _ => by rw [hx])
   rw [show ((k + 1 : Nat) : Int) = (k : Int) + 1 by simp] at ih'
   by_cases ck : 0 < k
   ·have e3 : decide (0 < (k : Int)) = true := decide_eq_true (by omega)
    have e4 : in64 ((k : Int) - 1) = true := in64_sm (by omega) (by omega)
    have e5 : inb ((k : Int) - 1) a.Events.length = true := inb_iff.2 ⟨by omega, by omega⟩
    have e6 : ((k : Int) - 1).toNat = k - 1 := by omega
    simp only [e3, cond_true, chk_true e4, chk_true e5, e6, hl ck]
    by_cases c3 : x.Time < last
    ·have : ¬ last ≤ x.Time := by omega
     simp [c3, this, Fl_ex]
    ·have : last ≤ x.Time := by omega
     simp [c3, this, Fl_nx, ih']
   ·have e3 : decide (0 < (k : Int)) = false := decide_eq_false (by omega)
    have hk0 : k = 0 := by omega
    have : last ≤ x.Time := by rw [h0 hk0]; exact c.1
    simp only [e3, cond_false, Option.bind_some, Fl_nx, this, true_and, ih']
  ·simp [c, Fl_ex]
open Classical in
theorem valid_eq (a : GEstate) : F_j a = some (decide (Good a)) := by
 simp only [F_j, rin_eq, Option.bind_some, grp]
 by_cases c : 1 ≤ a.Places ∧ a.Places ≤ 16
 ·by_cases c2 : a.Events.length ≤ 120
  ·have c' : (!decide (1 ≤ a.Places ∧ a.Places ≤ 16) || decide (120 < (a.Events.length : Int))) = false := by simp [c]; omega
   have h := validL_eq a c.1 c.2 c2 a.Events 0 0 rfl (fun h => by omega) (fun _ => rfl) (by omega)
   simp only [show ((0 : Nat) : Int) = 0 from rfl] at h
   simp only [c', cond_false, h, Option.bind_some]
   by_cases hc : chain a.Places 0 a.Events
   ·have : Good a := (good_iff a).2 ⟨c, c2, hc⟩
    simp [this, hc, Fl_nx]
   ·have : ¬ Good a := fun h => hc ((good_iff a).1 h).2.2
    simp [this, hc, Fl_ex]
  ·have c' : (!decide (1 ≤ a.Places ∧ a.Places ≤ 16) || decide (120 < (a.Events.length : Int))) = true := by simp; omega
   have : ¬ Good a := fun h => c2 h.len
   simp only [c', cond_true, this, decide_false]
 ·have : ¬ Good a := fun h => c ⟨h.lo, h.hi⟩
  simp [c, this]
open Classical in
theorem rplace_eq (a : GEstate) (p : Int) : F_4 a p = F_1 a p := by
 rw [known_eq]
 simp only [F_4, valid_eq, Option.bind_some, jn]
 by_cases h : Good a
 ·have := h.lo; have := h.hi
  simp [h, rin_eq, chk_true (in64_sm (n := a.Places - 1) (by omega) (by omega))]
 ·simp [h]
theorem known_cases (a : GEstate) (p : Int) : (F_1 a p = some true ∧ Good a ∧ 0 ≤ p ∧ p ≤ a.Places - 1) ∨ F_1 a p = some false := by
 classical
 rw [known_eq]
 by_cases h : Good a ∧ 0 ≤ p ∧ p ≤ a.Places - 1
 ·left; exact ⟨congrArg some (decide_eq_true h), h⟩
 ·right; exact congrArg some (decide_eq_false h)
theorem aget_aput {β : Type} (q k : Int) (v : β) : ∀ m : List (Int × β), aget q (aput k v m) = if q = k then some v else aget q m
 | [] => by by_cases e : q = k <;> simp [aput, aget, e]
 | (a, b) :: r => by
  by_cases e : k = a
  ·subst e
   by_cases e2 : q = k <;> simp [aput, aget, e2]
  ·simp only [aput, if_neg e, aget, aget_aput q k v r]
   by_cases e2 : q = a
   ·subst e2
    have : ¬ q = k := fun h => e h.symm
    simp [this]
   ·simp [e2]
theorem aget_none {β : Type} {q : Int} : ∀ {m : List (Int × β)}, q ∉ m.map Prod.fst → aget q m = none
 | [], h => rfl
 | (a, b) :: r, h => by
  simp only [List.map_cons, List.mem_cons, not_or] at h
  simp only [aget, if_neg h.1, aget_none h.2]
theorem aget_some {β : Type} {q : Int} : ∀ {m : List (Int × β)}, q ∈ m.map Prod.fst → ∃ v, aget q m = some v
 | (a, b) :: r, h => by
  by_cases e : q = a
  ·exact ⟨b, by simp [aget, e]⟩
  ·have : q ∈ r.map Prod.fst := by simpa [e] using h
   obtain ⟨v, hv⟩ := aget_some this
   exact ⟨v, by simp [aget, e, hv]⟩
theorem aget_isSome {β : Type} (q : Int) (m : List (Int × β)) : (aget q m).isSome = decide (q ∈ m.map Prod.fst) := by
 by_cases h : q ∈ m.map Prod.fst
 ·obtain ⟨v, hv⟩ := aget_some h
  rw [hv]; exact (decide_eq_true h).symm
 ·rw [aget_none h]; exact (decide_eq_false h).symm
theorem aget_adel {β : Type} (q k : Int) : ∀ m : List (Int × β), (m.map Prod.fst).Nodup → aget q (adel k m) = if q = k then none else aget q m
 | [], h => by simp [adel, aget]
 | (a, b) :: r, h => by
  simp only [List.map_cons, List.nodup_cons] at h
  by_cases e : k = a
  ·subst e
   by_cases e2 : q = k
   ·subst e2
    simp only [adel, if_true]
    exact aget_none h.1
   ·simp [adel, aget, e2]
  ·simp only [adel, if_neg e, aget, aget_adel q k r h.2]
   by_cases e2 : q = a
   ·subst e2
    have : ¬ q = k := fun h => e h.symm
    simp [this]
   ·simp [e2]
theorem grf_nodup (p t : Int) (l : List GAccess) : ((grf p t l).map Prod.fst).Nodup := by rw [grf_keys]; exact keysf_nodup p t l
theorem grf_snoc (p t : Int) (l : List GAccess) (x : GAccess) : grf p t (l ++ [x]) = gst p t l.length x (grf p t l) := by
 simp only [grf, foldP_append, foldP, Int.zero_add]
def told (p t q : Int) (l : List GAccess) (n : Nat) : Prop :=
 n < l.length ∧ (l.getD n default).Kind = 1 ∧ (l.getD n default).Place = p ∧ (l.getD n default).Principal = q ∧ (l.getD n default).Time ≤ t ∧ ∀ y ∈ l.drop (n + 1), ¬ (y.Kind = 2 ∧ y.Place = p ∧ y.Principal = q ∧ y.Time ≤ t)
theorem told_snoc {p t q : Int} {l : List GAccess} {n : Nat} {x : GAccess} (h : told p t q l n) (hx : ¬ (x.Kind = 2 ∧ x.Place = p ∧ x.Principal = q ∧ x.Time ≤ t)) : told p t q (l ++ [x]) n := by
 obtain ⟨h1, h2, h3, h4, h5, h6⟩ := h
 have e : (l ++ [x]).getD n default = l.getD n default := by rw [List.getD_eq_getElem?_getD, List.getD_eq_getElem?_getD, List.getElem?_append_left h1]
 refine ⟨by simp; omega, by rw [e]; exact h2, by rw [e]; exact h3, by rw [e]; exact h4, by rw [e]; exact h5, fun y hy => ?_⟩
 rw [List.drop_append_of_le_length (by omega), List.mem_append, List.mem_singleton] at hy
 rcases hy with hy | rfl
 ·exact h6 y hy
 ·exact hx
theorem grant_told (p t q : Int) (l : List GAccess) (k : Int) (h : aget q (grf p t l) = some k) : ∃ n : Nat, k = n ∧ told p t q l n := by
 induction l using revList_ind generalizing k with
 | h0 => cases h
 | h1 l x ih =>
  rw [grf_snoc] at h
  unfold gst at h
  split at h
  ·rename_i c
   obtain ⟨n, e, hn⟩ := ih k h
   exact ⟨n, e, told_snoc hn (by omega)⟩
  ·rename_i c
   split at h
   ·rename_i c2
    rw [aget_aput] at h
    split at h
    ·rename_i c3
     cases h
     refine ⟨l.length, rfl, by simp, ?_⟩
     have e : (l ++ [x]).getD l.length default = x := by simp
     rw [e]
     refine ⟨c2, by omega, c3.symm, by omega, fun y hy => ?_⟩
     rw [List.drop_eq_nil_of_le (by simp)] at hy
     cases hy
    ·obtain ⟨n, e, hn⟩ := ih k h
     exact ⟨n, e, told_snoc hn (by omega)⟩
   ·split at h
    ·rw [aget_adel _ _ _ (grf_nodup p t l)] at h
     split at h
     ·cases h
     ·rename_i c3
      obtain ⟨n, e, hn⟩ := ih k h
      exact ⟨n, e, told_snoc hn fun hh => c3 hh.2.2.1.symm⟩
    ·obtain ⟨n, e, hn⟩ := ih k h
     exact ⟨n, e, told_snoc hn (by omega)⟩
open Classical in
theorem rreader_eq {d : GDirectory} (g : GoodD d) (p : Int) : F_k d p = some (decide (rdr d p)) := by
 have hk := g.kl
 have hx : F_3 d p = some (decide (0 ≤ p ∧ p < d.Kinds.length)) := by
  unfold F_3
  rw [chk_true (in64_smD (by omega) (by omega))]
  simp only [F_d, grp, Option.bind_some]
  congr 1
  by_cases q : 0 ≤ p ∧ p < (d.Kinds.length : Int)
  ·rw [decide_eq_true q, decide_eq_true q.1, decide_eq_true (show p ≤ (d.Kinds.length : Int) - 1 by omega)]; rfl
  ·rw [decide_eq_false q]
   by_cases q1 : 0 ≤ p
   ·rw [decide_eq_true q1, decide_eq_false (show ¬ p ≤ (d.Kinds.length : Int) - 1 by omega)]; rfl
   ·rw [decide_eq_false q1]; rfl
 unfold F_k
 simp only [hx, Option.bind_some, jn]
 by_cases q : 0 ≤ p ∧ p < (d.Kinds.length : Int)
 ·simp only [decide_eq_true q, cond_true, chk_true (inb_iff.2 q), Option.bind_some]
  by_cases w : d.Kinds.getD p.toNat default = 2
  ·have : ¬ rdr d p := fun h => h.2.2 w
   rw [decide_eq_true w, decide_eq_false this]; rfl
  ·have : rdr d p := ⟨q.1, q.2, w⟩
   rw [decide_eq_false w, decide_eq_true this]; rfl
 ·have : ¬ rdr d p := fun h => q ⟨h.1, h.2.1⟩
  simp [decide_eq_false q, this]
end Go.Ab
namespace Go.Ab
open Go.Proofs
def rgst (p q t : Int) (i : Int) (x : GAccess) (s : Int) : Int :=
 if t < x.Time ∨ x.Place ≠ p ∨ x.Principal ≠ q then s else if x.Kind = 1 then i else if x.Kind = 2 then -1 else s
theorem rgst_body (p q t k : Int) (x : GAccess) (s : Int) : F_2x p q t k x s = some (rgst p q t k x s) := by
 simp only [F_2x, grp, rgst]
 by_cases c : t < x.Time ∨ x.Place ≠ p ∨ x.Principal ≠ q
 ·have c' : (decide (t < x.Time) || !decide (x.Place = p) || !decide (x.Principal = q)) = true := by
   simp only [Bool.or_eq_true, decide_eq_true_eq, Bool.not_eq_true', decide_eq_false_iff_not]; omega
  simp only [c', cond_true, if_pos c]
 ·have c' : (decide (t < x.Time) || !decide (x.Place = p) || !decide (x.Principal = q)) = false := by
   simp only [Bool.or_eq_false_iff, decide_eq_false_iff_not, Bool.not_eq_false', decide_eq_true_eq]; omega
  simp only [c', cond_false, if_neg c]
  by_cases c2 : x.Kind = 1
  ·simp [c2]
  ·by_cases c3 : x.Kind = 2 <;> simp [c2, c3]
theorem rgrant_aget (p q t : Int) (l : List GAccess) : foldP (rgst p q t) l 0 (-1) = (aget q (grf p t l)).getD (-1) := by
 induction l using revList_ind with
 | h0 => rfl
 | h1 l x ih =>
  rw [foldP_append, grf_snoc]
  simp only [foldP, Int.zero_add, ih, rgst, gst]
  by_cases c : t < x.Time ∨ x.Place ≠ p
  ·rw [if_pos (by omega), if_pos c]
  ·rw [if_neg c]
   by_cases cq : x.Principal = q
   ·rw [if_neg (by omega)]
    by_cases c2 : x.Kind = 1
    ·rw [if_pos c2, if_pos c2, aget_aput, if_pos cq.symm]; rfl
    ·rw [if_neg c2, if_neg c2]
     by_cases c3 : x.Kind = 2
     ·rw [if_pos c3, if_pos c3, aget_adel _ _ _ (grf_nodup p t l), if_pos cq.symm]; rfl
     ·rw [if_neg c3, if_neg c3]
   ·have cq' : ¬ q = x.Principal := fun h => cq h.symm
    rw [if_pos (by omega)]
    by_cases c2 : x.Kind = 1
    ·rw [if_pos c2, aget_aput, if_neg cq']
    ·rw [if_neg c2]
     by_cases c3 : x.Kind = 2
     ·rw [if_pos c3, aget_adel _ _ _ (grf_nodup p t l), if_neg cq']
     ·rw [if_neg c3]
theorem rgrantx_eq (a : GEstate) (p q t : Int) : F_19 a p q t = some ((aget q (grf p t a.Events)).getD (-1)) := by
 simp only [F_19, foldL_plain (rgst p q t) (rgst_body p q t), Option.bind_some, rgrant_aget]
theorem aget_nonneg {p t q k : Int} {l : List GAccess} (h : aget q (grf p t l) = some k) : 0 ≤ k := by
 obtain ⟨n, rfl, _⟩ := grant_told p t q l k h; omega
theorem pairwise_range (n : Nat) : ((List.range n).map fun i : Nat => (i : Int)).Pairwise fun x y => x < y := by
 rw [List.pairwise_map]
 exact List.pairwise_lt_range.imp fun h => by omega
theorem rGranted_eq (a : GEstate) (p t : Int) : F_1l a p t = F_o a p t := by
 simp only [F_1l, rplace_eq]
 rcases known_cases a p with ⟨h, g, _⟩ | h
 ·rw [granted_eq t g.len h, h]
  simp only [Option.bind_some, Bool.not_true, cond_false]
  have key : ∀ q : Int, decide (0 ≤ (aget q (grf p t a.Events)).getD (-1)) = decide (q ∈ keysf p t a.Events) := fun q => by
   have e : (aget q (grf p t a.Events)).isSome = decide (q ∈ keysf p t a.Events) := by rw [aget_isSome, grf_keys]
   rw [← e]
   cases ha : aget q (grf p t a.Events) with
   | none => rfl
   | some k => simpa using aget_nonneg ha
  refine Ok.eq (Ok.bind (Ok.loop (Q := fun r => r = srtI (keysf p t a.Events)) (fun x => 0 ≤ x.1 ∧ x.1 ≤ 24 ∧ x.2 = ((List.range x.1.toNat).map fun i : Nat => (i : Int)).filter fun q => decide (q ∈ keysf p t a.Events)) (fun x => (24 - x.1).toNat) (fun x hx => ?_) _ ⟨by omega, by omega, rfl⟩) fun r hr => Ok.ret hr)
  obtain ⟨i, out⟩ := x
  obtain ⟨h1, h2, h3⟩ := hx
  simp only at h1 h2 h3
  subst h3
  have hl := List.length_filter_le (fun q => decide (q ∈ keysf p t a.Events)) ((List.range i.toNat).map fun i : Nat => (i : Int))
  simp only [List.length_map, List.length_range] at hl
  unfold F_42
  refine Ok.ite (fun c => ?_) fun c => ?_
  ·have c : i < 24 := by simpa using c
   rw [rgrantx_eq]
   simp only [Option.bind_some, key]
   have e1 : (i + 1).toNat = i.toNat + 1 := by omega
   refine Ok.jn (P := fun j => j = ((List.range (i + 1).toNat).map fun i : Nat => (i : Int)).filter fun q => decide (q ∈ keysf p t a.Events)) (Ok.ite (fun cc => Ok.chk (room_sm (by simp only [List.length_singleton]; omega)) (Ok.ret ?_)) fun cc => Ok.ret ?_) fun j hj => ?_
   ·rw [e1, List.range_succ, List.map_append, List.filter_append]
    have e2 : ((i.toNat : Nat) : Int) = i := by omega
    simp only [List.map_cons, List.map_nil, e2, List.filter_cons, cc, if_true, List.filter_nil]
   ·rw [e1, List.range_succ, List.map_append, List.filter_append]
    have e2 : ((i.toNat : Nat) : Int) = i := by omega
    simp [e2, cc]
   ·refine Ok.chk (in64_sm (by omega) (by omega)) (Ok.ret ?_)
    exact ⟨⟨by show 0 ≤ i + 1; omega, by show i + 1 ≤ 24; omega, hj⟩, by show (24 - (i + 1)).toNat < (24 - i).toNat; omega⟩
  ·have c : ¬ i < 24 := by simpa using c
   have : i = 24 := by omega
   subst this
   refine Ok.ret ?_
   show _ = _
   have hsr : (((List.range (Int.toNat 24)).map fun i : Nat => (i : Int)).filter fun q => decide (q ∈ keysf p t a.Events)).Pairwise (fun x y => x ≤ y) := List.Pairwise.filter _ ((pairwise_range 24).imp fun h => Int.le_of_lt h)
   refine sorted_unique ?_ hsr (srtI_sorted _)
   refine List.Perm.trans ?_ (srtI_perm _).symm
   refine (List.perm_ext_iff_of_nodup ?_ (keysf_nodup p t a.Events)).2 fun q => ?_
   ·exact List.Pairwise.filter _ ((pairwise_range 24).imp fun h => Int.ne_of_lt h)
   ·simp only [List.mem_filter, List.mem_map, List.mem_range, decide_eq_true_eq]
    constructor
    ·rintro ⟨_, h⟩; exact h
    ·intro hq
     refine ⟨?_, hq⟩
     obtain ⟨w, hw, hw1, hw2, _⟩ := keysf_mem hq
     have := (g.ev w hw).2.2.2.2
     exact ⟨q.toNat, by show q.toNat < (24 : Int).toNat; omega, by omega⟩
 ·simp [h, F_o]
def unl (p t : Int) (y : GAccess) : Prop := y.Kind = 4 ∧ y.Place = p ∧ y.Time ≤ t
def lnk (p t : Int) (x : GAccess) : Prop := x.Kind = 3 ∧ x.Place = p ∧ x.Time ≤ t ∧ t < x.Until
def openP (p t : Int) (l : List GAccess) (k : Nat) : Prop := lnk p t (l.getD k default) ∧ ∀ y ∈ l.drop (k + 1), ¬ unl p t y
open Classical in
noncomputable def refL (p t : Int) (l : List GAccess) : Nat → Int × Bool
 | 0 => (0, false)
 | n + 1 => if openP p t l n then ((n : Int), true) else refL p t l n
theorem openP_snoc {p t : Int} {l : List GAccess} {x : GAccess} {k : Nat} (hk : k < l.length) : openP p t (l ++ [x]) k ↔ openP p t l k ∧ ¬ unl p t x := by
 unfold openP
 rw [show (l ++ [x]).getD k default = l.getD k default by rw [List.getD_eq_getElem?_getD, List.getD_eq_getElem?_getD, List.getElem?_append_left hk], List.drop_append_of_le_length (by omega)]
 simp only [List.mem_append, List.mem_singleton]
 constructor
 ·rintro ⟨h1, h2⟩
  exact ⟨⟨h1, fun y hy => h2 y (.inl hy)⟩, h2 x (.inr rfl)⟩
 ·rintro ⟨⟨h1, h2⟩, h3⟩
  refine ⟨h1, fun y hy => ?_⟩
  rcases hy with hy | rfl
  ·exact h2 y hy
  ·exact h3
theorem refL_snoc {p t : Int} {l : List GAccess} {x : GAccess} : ∀ {n : Nat}, n ≤ l.length → (unl p t x → refL p t (l ++ [x]) n = (0, false)) ∧ (¬ unl p t x → refL p t (l ++ [x]) n = refL p t l n)
 | 0, h => ⟨fun _ => rfl, fun _ => rfl⟩
 | n + 1, h => by
  have ih := refL_snoc (p := p) (t := t) (l := l) (x := x) (n := n) (by omega)
  constructor
  ·intro hu
   have : ¬ openP p t (l ++ [x]) n := fun h' => ((openP_snoc (by omega)).1 h').2 hu
   simp only [refL, if_neg this, ih.1 hu]
  ·intro hu
   have : openP p t (l ++ [x]) n ↔ openP p t l n := by rw [openP_snoc (by omega)]; exact ⟨fun h => h.1, fun h => ⟨h, hu⟩⟩
   by_cases hh : openP p t l n
   ·simp only [refL, if_pos (this.2 hh), if_pos hh]
   ·simp only [refL, if_neg (fun h => hh (this.1 h)), if_neg hh, ih.2 hu]
theorem refL_lkf (p t : Int) (l : List GAccess) : refL p t l l.length = lkf p t l 0 (0, false) := by
 induction l using revList_ind with
 | h0 => rfl
 | h1 l x ih =>
  rw [List.length_append, List.length_singleton, lkf_append]
  simp only [lkf, Int.zero_add, refL]
  have e : (l ++ [x]).getD l.length default = x := by simp
  have ho : openP p t (l ++ [x]) l.length ↔ lnk p t x := by
   unfold openP
   rw [e, List.drop_eq_nil_of_le (by simp)]
   simp
  rw [← ih]
  have hs := refL_snoc (p := p) (t := t) (l := l) (x := x) (Nat.le_refl l.length)
  unfold lst
  by_cases hl : lnk p t x
  ·rw [if_pos (ho.2 hl)]
   obtain ⟨h1, h2, h3, h4⟩ := hl
   rw [if_neg (by omega), if_neg (by omega), if_pos ⟨h1, h4⟩]
  ·rw [if_neg fun h => hl (ho.1 h)]
   by_cases hu : unl p t x
   ·rw [hs.1 hu]
    obtain ⟨h1, h2, h3⟩ := hu
    rw [if_neg (by omega), if_pos h1]
   ·rw [hs.2 hu]
    by_cases c : t < x.Time ∨ x.Place ≠ p
    ·rw [if_pos c]
    ·rw [if_neg c]
     have : ¬ x.Kind = 4 := fun h => hu ⟨h, by omega, by omega⟩
     rw [if_neg this]
     have : ¬ (x.Kind = 3 ∧ t < x.Until) := fun h => hl ⟨h.1, by omega, by omega, h.2⟩
     rw [if_neg this]
open Classical in
theorem findU (p t : Int) : ∀ m : List GAccess, findL (fun y => if unl p t y then some false else none) m = if ∀ y ∈ m, ¬ unl p t y then none else some false
 | [] => by simp [findL]
 | y :: r => by
  by_cases hu : unl p t y
  ·have : ¬ ∀ z ∈ y :: r, ¬ unl p t z := fun h => h y (by simp) hu
   rw [if_neg this]
   simp only [findL, if_pos hu]
  ·simp only [findL, if_neg hu, findU p t r]
   by_cases hr : ∀ z ∈ r, ¬ unl p t z
   ·have : ∀ z ∈ y :: r, ¬ unl p t z := fun z hz => by
     rcases List.mem_cons.1 hz with rfl | hz
     ·exact hu
     ·exact hr z hz
    rw [if_pos hr, if_pos this]
   ·have : ¬ ∀ z ∈ y :: r, ¬ unl p t z := fun h => hr fun z hz => h z (by simp [hz])
    rw [if_neg hr, if_neg this]
open Classical in
theorem open_ex {a : GEstate} {p t : Int} (hn : a.Events.length ≤ 120) (h : F_1 a p = some true) {k : Nat} (hk : k < a.Events.length) : ∃ b, F_e a p (k : Int) t = some b ∧ (b = true ↔ openP p t a.Events k) := by
 have i1 : in64 ((a.Events.length : Int) - 1) = true := in64_sm (by omega) (by omega)
 have i2 : decide (0 ≤ (k : Int) ∧ (k : Int) ≤ (a.Events.length : Int) - 1) = true := decide_eq_true (by omega)
 have i3 : inb (k : Int) a.Events.length = true := inb_iff.2 ⟨by omega, by omega⟩
 have i4 : in64 ((k : Int) + 1) = true := in64_sm (by omega) (by omega)
 have i5 : inc ((k : Int) + 1) (a.Events.length : Int) a.Events.length = true := inc_iff.2 ⟨by omega, by omega, by omega⟩
 have i6 : ((k : Int) + 1).toNat = k + 1 := by omega
 simp only [F_e, rplace_eq, h, Option.bind_some, Bool.not_true, cond_false, chk_true i1, rin_eq, i2, chk_true i3, chk_true i4, chk_true i5, i6, Int.toNat_natCast, grp]
 by_cases c1 : lnk p t (a.Events.getD k default)
 ·have c1' := c1
  unfold lnk at c1'
  have e : (!decide ((a.Events.getD k default).Kind = 3) || !decide ((a.Events.getD k default).Place = p) || decide (t < (a.Events.getD k default).Time) || decide ((a.Events.getD k default).Until ≤ t)) = false := by
   simp only [Bool.or_eq_false_iff, decide_eq_false_iff_not, Bool.not_eq_false', decide_eq_true_eq]; omega
  simp only [e, cond_false]
  rw [forL_find (fun y => if unl p t y then some false else none) (a.Events.drop (k + 1)) 0 fun k y _ => by
   simp only [F_3f, grp]
   by_cases hu : unl p t y
   ·have e : (decide (y.Kind = 4) && decide (y.Place = p) && decide (y.Time ≤ t)) = true := by
     simp only [Bool.and_eq_true, decide_eq_true_eq]; exact ⟨⟨hu.1, hu.2.1⟩, hu.2.2⟩
    simp only [e, cond_true, if_pos hu, flO]
   ·have e : (decide (y.Kind = 4) && decide (y.Place = p) && decide (y.Time ≤ t)) = false := by
     cases hh : (decide (y.Kind = 4) && decide (y.Place = p) && decide (y.Time ≤ t)) with
     | false => rfl
     | true =>
      simp only [Bool.and_eq_true, decide_eq_true_eq] at hh
      exact absurd ⟨hh.1.1, hh.1.2, hh.2⟩ hu
    simp only [e, cond_false, if_neg hu, flO]]
  simp only [Option.bind_some, elim_flO, findU]
  by_cases hr : ∀ y ∈ a.Events.drop (k + 1), ¬ unl p t y
  ·simp only [if_pos hr]
   exact ⟨true, rfl, fun _ => ⟨c1, hr⟩, fun _ => rfl⟩
  ·simp only [if_neg hr]
   exact ⟨false, rfl, iff_of_false (by simp) fun h => hr h.2⟩
 ·have e : (!decide ((a.Events.getD k default).Kind = 3) || !decide ((a.Events.getD k default).Place = p) || decide (t < (a.Events.getD k default).Time) || decide ((a.Events.getD k default).Until ≤ t)) = true := by
   unfold lnk at c1
   simp only [Bool.or_eq_true, decide_eq_true_eq, Bool.not_eq_true', decide_eq_false_iff_not]; omega
  simp only [e, cond_true]
  exact ⟨false, rfl, iff_of_false (by simp) fun h => c1 h.1⟩
open Classical in
theorem open_eq {a : GEstate} {p t : Int} (hn : a.Events.length ≤ 120) (h : F_1 a p = some true) {k : Nat} (hk : k < a.Events.length) : F_e a p (k : Int) t = some (decide (openP p t a.Events k)) := by
 obtain ⟨b, hb, hb2⟩ := open_ex (t := t) hn h hk
 rw [hb]
 by_cases c : openP p t a.Events k
 ·rw [hb2.2 c, decide_eq_true c]
 ·have : b = false := by cases b with
   | false => rfl
   | true => exact absurd (hb2.1 rfl) c
  rw [this, decide_eq_false c]
theorem rLinkedL {a : GEstate} {p t : Int} (hn : a.Events.length ≤ 120) (h : F_1 a p = some true) : ∀ {n : Nat}, n ≤ a.Events.length → ∃ r, loop (F_1j a p t) ((n : Int) - 1) = some r ∧ Sum.elim (fun _ => some (0, false)) (fun u => some u) r = some (refL p t a.Events n)
 | 0, hl => by
  rw [loop_eq]
  simp only [F_1j]
  exact ⟨.inl (), rfl, rfl⟩
 | n + 1, hl => by
  classical
  rw [loop_eq]
  have e0 : ((n + 1 : Nat) : Int) - 1 = (n : Int) := by omega
  have e1 : decide (0 ≤ (n : Int)) = true := decide_eq_true (by omega)
  rw [e0]
  simp only [F_1j, e1, cond_true, open_eq hn h (show n < a.Events.length by omega), Option.bind_some, refL]
  by_cases c : openP p t a.Events n
  ·simp only [c, decide_true, cond_true, Option.bind_some, Fl_ex, if_true]
   exact ⟨_, rfl, rfl⟩
  ·have i1 : in64 ((n : Int) - 1) = true := in64_sm (by omega) (by omega)
   simp only [c, decide_false, cond_false, chk_true i1, Option.bind_some, Fl_nx, if_false]
   exact rLinkedL hn h (by omega)
theorem rLinkedN {a : GEstate} {p t : Int} (hn : a.Events.length ≤ 120) (h : F_1 a p = some false) : ∀ {n : Nat}, n ≤ a.Events.length → loop (F_1j a p t) ((n : Int) - 1) = some (.inl ())
 | 0, hl => by
  rw [loop_eq]
  rfl
 | n + 1, hl => by
  rw [loop_eq]
  have e0 : ((n + 1 : Nat) : Int) - 1 = (n : Int) := by omega
  have e1 : decide (0 ≤ (n : Int)) = true := decide_eq_true (by omega)
  have i1 : in64 ((n : Int) - 1) = true := in64_sm (by omega) (by omega)
  rw [e0]
  simp only [F_1j, e1, cond_true, F_e, rplace_eq, h, Option.bind_some, Bool.not_false, cond_false, chk_true i1, Fl_nx]
  exact rLinkedN hn h (by omega)
theorem rLinked_eq (a : GEstate) (p t : Int) (hn : a.Events.length ≤ 120) : F_1f a p t = F_8 a p t := by
 have i1 : in64 ((a.Events.length : Int) - 1) = true := in64_sm (by omega) (by omega)
 simp only [F_1f, chk_true i1]
 rcases known_cases a p with ⟨h, _⟩ | h
 ·rw [linked_eq t h, ← refL_lkf]
  obtain ⟨r, h1, h2⟩ := rLinkedL (t := t) hn h (Nat.le_refl _)
  rw [h1]
  exact h2
 ·rw [linked_no t h, rLinkedN hn h (Nat.le_refl _)]
  rfl
end Go.Ab
namespace Go.Ab
open Go.Proofs
theorem rexists_eq {d : GDirectory} (hk : d.Kinds.length ≤ 24) (p : Int) : F_3 d p = some (decide (0 ≤ p ∧ p < d.Kinds.length)) := by
 unfold F_3
 rw [chk_true (in64_smD (by omega) (by omega))]
 simp only [F_d, grp, Option.bind_some]
 congr 1
 by_cases q : 0 ≤ p ∧ p < (d.Kinds.length : Int)
 ·rw [decide_eq_true q, decide_eq_true q.1, decide_eq_true (show p ≤ (d.Kinds.length : Int) - 1 by omega)]; rfl
 ·rw [decide_eq_false q]
  by_cases q1 : 0 ≤ p
  ·rw [decide_eq_true q1, decide_eq_false (show ¬ p ≤ (d.Kinds.length : Int) - 1 by omega)]; rfl
  ·rw [decide_eq_false q1]; rfl
theorem dvalid_of {d : GDirectory} (g : GoodD d) : F_9 d = some true := by
 have hk := g.kl
 have he := g.el
 have hin : ∀ x a b : Int, F_d x a b = some (decide (a ≤ x ∧ x ≤ b)) := fun x a b => by simp [F_d, grp]
 refine Ok.eq ?_
 unfold F_9
 refine Ok.grp (Ok.ite (fun q => ?_) fun _ => Ok.bind (P := fun o => o = .nx ()) (Ok.for (fun _ => True) _ 0 () trivial (fun k x s hx _ => ?_) fun s _ => rfl) fun o ho => ?_)
 ·simp only [Bool.or_eq_true, decide_eq_true_eq] at q; omega
 ·unfold F_3d
  rw [hin, decide_eq_true (g.kd x hx)]
  exact Ok.ret trivial
 subst ho
 rw [Fl_nx]
 refine Ok.bind (P := fun o => o = .nx ()) (Ok.forI (all := d.Events) (fun _ _ => True) _ [] 0 () rfl rfl trivial (fun pre x r s hw _ => ?_) fun s _ => rfl) fun o ho => by subst ho; exact Ok.ret rfl
 have hx : x ∈ d.Events := by rw [hw]; simp
 obtain ⟨m1, m2, m3, m4, m5, m6⟩ := g.ev x hx
 have hgr : F_18 d x.Group = some true := by
  unfold F_18
  rw [rexists_eq hk, decide_eq_true (show 0 ≤ x.Group ∧ x.Group < (d.Kinds.length : Int) from ⟨m5.1, m5.2.1⟩)]
  simp only [Option.bind_some, cond_true, jn, chk_true (inb_iff.2 ⟨m5.1, m5.2.1⟩), decide_eq_true m5.2.2]
 have hp : pre.length < d.Events.length := by rw [hw]; simp
 have rest : Ok ((F_3 d x.Principal).bind fun y251 => bif (!y251) then some (.ex false) else (F_18 d x.Group).bind fun y252 => bif (!y252) then some (.ex false) else bif decide (x.Principal = x.Group) then some (.ex false) else some (.nx ())) (Fl.elim (fun _ : Unit => True) fun r : Bool => (Fl.ex r : Fl Unit Bool) = .nx ()) := by
  rw [rexists_eq hk, decide_eq_true m4, hgr]
  simp only [Option.bind_some, Bool.not_true, cond_false, decide_eq_false m6]
  exact Ok.ret trivial
 unfold F_3e
 rw [hin, hin, decide_eq_true (show 1 ≤ x.Kind ∧ x.Kind ≤ 2 by omega), decide_eq_true (show 0 ≤ x.Time ∧ x.Time ≤ 1099511627776 from ⟨m2, m3⟩)]
 simp only [Option.bind_some, Bool.not_true, cond_false]
 refine Ok.ite (fun q => ?_) fun _ => rest
 have q : 0 < (pre.length : Int) := by simpa using q
 have h1 : (pre.length : Int) - 1 < d.Events.length := by omega
 refine Ok.chk (in64_smD (by omega) (by omega)) (Ok.chk (inb_iff.2 ⟨by omega, h1⟩) (Ok.ite (fun w => ?_) fun _ => rest))
 exfalso
 have w := of_decide_eq_true w
 have hlt : pre.length - 1 < d.Events.length := by omega
 have e : d.Events.getD ((pre.length : Int) - 1).toNat default = d.Events[pre.length - 1] := by
  rw [show ((pre.length : Int) - 1).toNat = pre.length - 1 by omega, List.getD_eq_getElem?_getD, List.getElem?_eq_getElem hlt]; rfl
 have e2 : d.Events[pre.length] = x := by simp [hw]
 have := (List.pairwise_iff_getElem.1 g.srt) (pre.length - 1) pre.length hlt hp (by omega)
 rw [e2] at this
 rw [e] at w
 omega
theorem rupward_eq {d : GDirectory} (g : GoodD d) {p : Int} (t : Int) (h0 : 0 ≤ p) (h1 : p < d.Kinds.length) : F_1k d p t = some (upl d p t) := by
 have hk := g.kl
 simp only [F_1k, dvalid_of g, rexists_eq hk, decide_eq_true (show 0 ≤ p ∧ p < (d.Kinds.length : Int) from ⟨h0, h1⟩), Option.bind_some, Bool.not_true, cond_false]
 have hu : upF d.Kinds.length (d.Events.map fun e => (e.Time, e.Kind, e.Principal, e.Group)) p t = some ((List.range d.Kinds.length).map (oul (dlk d t) d.Kinds.length (fun i => decide (i = p.toNat)) d.Kinds.length)) := by
  unfold upF
  rw [chk_true, chk_true]
  ·simp [dlk]
  ·simp only [List.all_eq_true, List.mem_map]
   rintro _ ⟨e, he, rfl⟩
   obtain ⟨_, _, _, h4, h5, _⟩ := g.ev e he
   have e1 : inb e.Principal 24 = true := inb_iff.2 ⟨h4.1, by omega⟩
   have e2 : inb e.Group 24 = true := inb_iff.2 ⟨h5.1, by omega⟩
   simp [e1, e2]
  ·rw [inb_iff.2 ⟨h0, h1⟩, decide_eq_true hk]; rfl
 rw [hu]
 generalize hy : (List.range d.Kinds.length).map (oul (dlk d t) d.Kinds.length (fun i => decide (i = p.toNat)) d.Kinds.length) = y
 have hyl : y.length = d.Kinds.length := by rw [← hy]; simp
 have hyi : ∀ i, i < d.Kinds.length → gt y i = oul (dlk d t) d.Kinds.length (fun i => decide (i = p.toNat)) d.Kinds.length i := fun i hi => by
  rw [← hy]; simp [gt, List.getD_eq_getElem?_getD, hi]
 have hpn : p.toNat < d.Kinds.length := by omega
 have hRT : ∀ i, i < d.Kinds.length → (gt y i = true ↔ RT (dlk d t) d.Kinds.length p.toNat i) := fun i hi => by
  rw [hyi i hi]
  constructor
  ·exact oul_sound (P := fun i => RT (dlk d t) d.Kinds.length p.toNat i) (fun a b ha hb h hl => .step h ha hb hl) (fun i h => by
    have := of_decide_eq_true h
    subst this; exact .refl) _ i
  ·intro h
   induction h with
   | refl => exact oul_mono (by simp) _
   | step h ha hb hl ih => exact oul_closed hpn _ _ ha hb (ih ha) hl
 have ht := those_eq y (by omega)
 have hup : F_3n = F_2k := rfl
 simp only [F_1g] at ht
 simp only [Option.bind_some, hup]
 rw [ht]
 simp only [upl, hyl]
 congr 2
 refine List.filter_congr fun i hi => ?_
 have := hRT i (List.mem_range.1 hi)
 cases e : gt y i with
 | true => simp [this.1 e]
 | false =>
  have h : ¬ RT (dlk d t) d.Kinds.length p.toNat i := fun h => by rw [this.2 h] at e; cases e
  simp [h]
theorem rhas_eq (l : List Int) (x : Int) : F_1a l x = some (decide (x ∈ l)) := by
 simp only [F_1a]
 rw [forL_find (fun y => if y = x then some true else none) l 0 (fun k y _ => by by_cases e : y = x <;> simp [F_3h, e, flO])]
 simp only [Option.bind_some, elim_flO]
 have : findL (fun y => if y = x then some true else none) l = if x ∈ l then some true else none := by
  induction l with
  | nil => rfl
  | cons y r ih =>
   by_cases e : y = x
   ·simp [findL, e]
   ·have e' : ¬ x = y := fun h => e h.symm
    simp [findL, e, e', ih]
 rw [this]
 by_cases e : x ∈ l <;> simp [e]
open Classical in
theorem rgranted_ex {d : GDirectory} {a : GEstate} {p pl t : Int} {U G : List Int} (h1 : F_1k d p t = some U) (h2 : F_1l a pl t = some G) : F_28 d a p pl t = some (decide (∃ x ∈ G, x ∈ U)) := by
 simp only [F_28, h1, h2, Option.bind_some]
 rw [forL_find (fun y => if y ∈ U then some true else none) G 0 (fun k y _ => by by_cases e : y ∈ U <;> simp [F_3o, rhas_eq, e, flO])]
 simp only [Option.bind_some, elim_flO]
 have : findL (fun y => if y ∈ U then some true else none) G = if ∃ x ∈ G, x ∈ U then some true else none := by
  clear h1 h2
  induction G with
  | nil => simp [findL]
  | cons y r ih =>
   by_cases e : y ∈ U
   ·simp [findL, e]
   ·simp only [findL, if_neg e]
    rw [ih]
    simp [e]
 rw [this]
 by_cases e : ∃ x ∈ G, x ∈ U <;> simp [e]
open Classical in
theorem rmay_eq {d : GDirectory} {a : GEstate} (g : GoodD d) (h : Good a) (p pl t : Int) : F_29 d a p pl t = some (decide (mayP d a p pl t)) := by
 simp only [F_29, dvalid_of g, rplace_eq, rreader_eq g, rLinked_eq a pl t h.len, rGranted_eq, Option.bind_some, Bool.not_true, cond_false]
 by_cases c1 : 0 ≤ pl ∧ pl ≤ a.Places - 1
 ·have hk := known_of h c1.1 c1.2
  simp only [hk, Option.bind_some, Bool.not_true, cond_false]
  by_cases c : rdr d p
  ·simp only [decide_eq_true c, Bool.not_true, cond_false, linked_eq t hk, Option.bind_some]
   cases e : (lkf pl t a.Events 0 (0, false)).2 with
   | true =>
    simp only [cond_true, jn, Option.bind_some]
    rw [decide_eq_true (show mayP d a p pl t from ⟨⟨c, c1⟩, .inl e⟩)]
   | false =>
    rw [rgranted_ex (rupward_eq g t c.1 c.2.1) (by rw [rGranted_eq]; exact granted_eq t h.len hk)]
    simp only [cond_false, jn, Option.bind_some, srtI_mem]
    congr 1
    refine decide_eq_decide.2 ⟨fun q => ⟨⟨c, c1⟩, .inr q⟩, fun q => ?_⟩
    rcases q.2 with q | q
    ·rw [e] at q; cases q
    ·exact q
  ·simp only [decide_eq_false c, Bool.not_false, cond_true]
   rw [decide_eq_false (fun q : mayP d a p pl t => c q.1.1)]
 ·have hk : F_1 a pl = some false := by
   rw [known_eq, decide_eq_false (fun q : Good a ∧ 0 ≤ pl ∧ pl ≤ a.Places - 1 => c1 q.2)]
  simp only [hk, Option.bind_some, Bool.not_false, cond_true]
  rw [decide_eq_false (fun q : mayP d a p pl t => c1 q.1.2)]
end Go.Ab
namespace Go.Ab
open Go.Proofs
theorem happened_ok {a : GEstate} (g : Good a) (t : Int) : Ok (F_l a t) fun n => ∃ k : Nat, n = (k : Int) ∧ k ≤ a.Events.length ∧ (∀ x ∈ a.Events.take k, x.Time ≤ t) ∧ ∀ x ∈ a.Events.drop k, t < x.Time := by
 have hl := g.len
 unfold F_l
 refine Ok.bind (Ok.loop (fun s : Int => ∃ k : Nat, s = (k : Int) ∧ k ≤ a.Events.length ∧ ∀ x ∈ a.Events.take k, x.Time ≤ t) (fun s => ((a.Events.length : Int) - s).toNat) (fun s hs => ?_) _ ⟨0, rfl, by omega, by simp⟩) fun r hr => Ok.ret hr
 obtain ⟨k, rfl, h1, h2⟩ := hs
 unfold F_21
 refine Ok.ite (fun q => ?_) fun q => Ok.ret ⟨k, rfl, h1, h2, fun x hx => ?_⟩
 ·have q : (k : Int) < a.Events.length := by simpa using q
  have hk : k < a.Events.length := by omega
  have e : a.Events.getD (k : Int).toNat default = a.Events[k] := by
   rw [Int.toNat_natCast, List.getD_eq_getElem?_getD, List.getElem?_eq_getElem hk]; rfl
  refine Ok.chk (inb_iff.2 ⟨by omega, q⟩) ?_
  rw [e]
  refine Ok.ite (fun w => Ok.chk (in64_smD (by omega) (by omega)) (Ok.ret ⟨⟨k + 1, by simp, by omega, fun x hx => ?_⟩, by show ((a.Events.length : Int) - ((k : Int) + 1)).toNat < ((a.Events.length : Int) - (k : Int)).toNat; omega⟩)) fun w => Ok.ret ⟨k, rfl, h1, h2, fun x hx => ?_⟩
  ·rw [List.take_succ, List.getElem?_eq_getElem hk] at hx
   simp only [Option.toList_some, List.mem_append, List.mem_singleton] at hx
   rcases hx with hx | rfl
   ·exact h2 x hx
   ·exact of_decide_eq_true w
  ·have w : ¬ a.Events[k].Time ≤ t := of_decide_eq_false w
   rw [List.drop_eq_getElem_cons hk] at hx
   have hs : (a.Events.drop k).Pairwise fun x y => x.Time ≤ y.Time := g.srt.sublist (List.drop_sublist _ _)
   rw [List.drop_eq_getElem_cons hk, List.pairwise_cons] at hs
   rcases List.mem_cons.1 hx with rfl | hx
   ·omega
   ·have := hs.1 x hx; omega
 ·have q : ¬ (k : Int) < a.Events.length := by simpa using q
  rw [List.drop_eq_nil_of_le (by omega)] at hx
  cases hx
theorem cfo_all {c t : Int} : ∀ {E : List GAccess} {s : Int → Bool}, (∀ x ∈ E, x.Time ≤ t) → cfo c t E s = E.foldl (fun s x => cst c x s) s
 | [], s, _ => rfl
 | x :: r, s, h => by
  simp only [cfo, List.foldl_cons, if_pos (h x (by simp))]
  exact cfo_all (E := r) fun y hy => h y (by simp [hy])
theorem cfo_no {c t : Int} : ∀ {E : List GAccess} {s : Int → Bool}, (∀ x ∈ E, t < x.Time) → cfo c t E s = s
 | [], s, _ => rfl
 | x :: r, s, h => by
  have := h x (by simp)
  simp only [cfo, List.foldl_cons, if_neg (show ¬ x.Time ≤ t by omega)]
  exact cfo_no (E := r) fun y hy => h y (by simp [hy])
theorem hld_take {a : GEstate} {c t : Int} {k : Nat} (h1 : ∀ x ∈ a.Events.take k, x.Time ≤ t) (h2 : ∀ x ∈ a.Events.drop k, t < x.Time) : hld a c t = (a.Events.take k).foldl (fun s x => cst c x s) fun _ => false := by
 have : hld a c t = cfo c t (a.Events.drop k) (cfo c t (a.Events.take k) fun _ => false) := by
  simp only [hld, cfo]
  rw [← List.foldl_append, List.take_append_drop]
 rw [this, cfo_no h2, cfo_all h1]
def bof (l : List Bool) (s : Int → Bool) : Prop := ∀ i : Int, 0 ≤ i → i < l.length → l.getD i.toNat default = s i
theorem bof_set {l : List Bool} {s : Int → Bool} (h : bof l s) {p : Int} {b : Bool} (hp : 0 ≤ p) (hl : p < l.length) : bof (l.set p.toNat b) (upd s p b) := by
 intro i h0 h1
 rw [List.length_set] at h1
 simp only [upd, List.getD_eq_getElem?_getD, List.getElem?_set]
 by_cases e : i = p
 ·subst e
  simp [show i.toNat < l.length by omega]
 ·rw [if_neg (by omega), if_neg e]
  have := h i h0 h1
  rwa [List.getD_eq_getElem?_getD] at this
theorem now_step {P c : Int} {l : List Bool} {s : Int → Bool} {x : GAccess} (k : Int) (h : xok P x) (hl : (l.length : Int) = P) (hw : bof l s) : Ok (F_2z c k x l) fun l' => l'.length = l.length ∧ bof l' (cst c x s) := by
 obtain ⟨_, _, h3, h4, h5⟩ := h
 have hp : inb x.Place l.length = true := inb_iff.2 ⟨h3, by omega⟩
 have hP := hw x.Place h3 (by omega)
 have fin : ∀ b b' : Bool, b = b' → Ok (chk (inb x.Place l.length) (some (l.set x.Place.toNat b))) fun l' => l'.length = l.length ∧ bof l' (upd s x.Place b') := fun b b' e => by
  subst e
  exact Ok.chk hp (Ok.ret ⟨by simp, bof_set hw h3 (by omega)⟩)
 unfold F_2z
 refine Ok.ite (fun q => ?_) fun q => Ok.ite (fun q2 => ?_) fun q2 => Ok.ite (fun q3 => ?_) fun q3 => ?_
 ·have q : x.Kind = 5 := by simpa using q
  simp only [cst, if_pos q]
  refine Ok.chk hp (Ok.ite (fun w => fin _ _ ?_) fun w => fin _ _ ?_)
  ·rw [hP] at w; rw [w]; rfl
  ·rw [hP] at w; rw [w]; rfl
 ·have q : ¬ x.Kind = 5 := by simpa using q
  have q2 : x.Kind = 6 := by simpa using q2
  simp only [cst, if_neg q, if_pos q2]
  refine Ok.chk hp (Ok.ite (fun w => fin _ _ ?_) fun w => fin _ _ ?_)
  ·rw [hP] at w; rw [w]; rfl
  ·rw [hP] at w; rw [w]; rfl
 ·have q : ¬ x.Kind = 5 := by simpa using q
  have q2 : ¬ x.Kind = 6 := by simpa using q2
  have q3 : x.Kind = 7 := by simpa using q3
  simp only [cst, if_neg q, if_neg q2, if_pos q3]
  refine Ok.chk hp (Ok.ite (fun w => fin _ _ ?_) fun w => Ok.chk (inb_iff.2 ⟨by omega, by omega⟩) (fin _ _ ?_))
  ·rw [hP] at w; rw [w]; rfl
  ·rw [hP] at w; rw [w, hw x.From (by omega) (by omega)]; rfl
 ·have q : ¬ x.Kind = 5 := by simpa using q
  have q2 : ¬ x.Kind = 6 := by simpa using q2
  have q3 : ¬ x.Kind = 7 := by simpa using q3
  simp only [cst, if_neg q, if_neg q2, if_neg q3]
  exact Ok.ret ⟨rfl, hw⟩
theorem now_ok {a : GEstate} (g : Good a) (c : Int) {k : Nat} (hk : k ≤ a.Events.length) : Ok (F_26 a c (k : Int)) fun l => (l.length : Int) = a.Places ∧ bof l ((a.Events.take k).foldl (fun s x => cst c x s) fun _ => false) := by
 have h2 := g.lo
 have h3 := g.hi
 unfold F_26
 refine Ok.chk (roomI_iff.2 ⟨by omega, by omega, by omega⟩) (Ok.chk (inc_iff.2 ⟨by omega, by omega, by omega⟩) ?_)
 rw [Int.toNat_natCast]
 refine Ok.bind (Ok.foldI (all := a.Events.take k) (fun pre l => (l.length : Int) = a.Places ∧ bof l (pre.foldl (fun s x => cst c x s) fun _ => false)) (a.Events.take k) [] 0 _ rfl rfl ⟨by simp; omega, fun i hi hl => ?_⟩ (fun pre x r s hw hs => ?_) fun s hs => hs) fun s hs => Ok.ret hs
 ·simp only [List.foldl_nil, List.length_replicate] at hl ⊢
  rw [List.getD_eq_getElem?_getD, List.getElem?_replicate, if_pos (by omega)]
  rfl
 ·have hx := g.ev x (List.mem_of_mem_take (i := k) (by rw [hw]; simp))
  refine Ok.mono (now_step _ hx hs.1 hs.2) fun l' hl' => ⟨by rw [hl'.1]; exact hs.1, ?_⟩
  simp only [List.foldl_append, List.foldl_cons, List.foldl_nil]
  exact hl'.2
end Go.Ab
namespace Go.Ab
open Go.Proofs
theorem upl_self {d : GDirectory} {p t : Int} (h0 : 0 ≤ p) (h1 : p < d.Kinds.length) : p ∈ upl d p t := mem_upl.2 ⟨h0, h1, .refl⟩
end Go.Ab
namespace Go.Ab
open Go.Proofs Classical
theorem din_eq {d : GDirectory} (g : GoodD d) {p : Int} (q t : Int) (h0 : 0 ≤ p) (h1 : p < d.Kinds.length) : F_1y d p q t = some (decide (q ∈ upl d p t ∧ q ≠ p)) := by
 have hne : upl d p t ≠ [] := fun h => by have := upl_self (d := d) (t := t) h0 h1; rw [h] at this; cases this
 simp only [F_1y, F_2o, upward_eq g t h0 h1, Option.bind_some, delI]
 rw [chk_true (decide_eq_true hne)]
 simp only [Option.bind_some, List.drop_zero]
 rw [List.take_left' rfl, dcont_eq]
 simp only [Option.bind_some]
 congr 1
 refine decide_eq_decide.2 ?_
 simp [List.mem_filter]
theorem nodup_len {α : Type} [DecidableEq α] : ∀ {l m : List α}, l.Nodup → (∀ x ∈ l, x ∈ m) → l.length ≤ m.length
 | [], m, _, _ => Nat.zero_le _
 | x :: r, m, hn, hs => by
  obtain ⟨h1, h2⟩ := List.nodup_cons.1 hn
  have hx := hs x (by simp)
  have := nodup_len (m := m.erase x) h2 fun y hy => (List.mem_erase_of_ne (fun e : y = x => h1 (by rw [← e]; exact hy))).2 (hs y (by simp [hy]))
  rw [List.length_erase_of_mem hx] at this
  have := List.length_pos_of_mem hx
  simp only [List.length_cons]; omega
theorem filter_len2 {α : Type} (p : α → Bool) : ∀ l : List α, l.length = (l.filter p).length + (l.filter fun x => !p x).length
 | [] => rfl
 | x :: r => by
  have := filter_len2 p r
  cases h : p x <;> simp [h] <;> omega
theorem range_len {l : List Int} {n : Nat} (hn : l.Nodup) (h : ∀ x ∈ l, 0 ≤ x ∧ x < n) : l.length ≤ n := by
 have := nodup_len (m := (List.range n).map fun i : Nat => (i : Int)) hn fun x hx => by
  obtain ⟨r1, r2⟩ := h x hx
  simp only [List.mem_map, List.mem_range]
  exact ⟨x.toNat, by omega, by omega⟩
 simpa using this
structure Tree (L : Nat → Nat → Bool) (n p : Nat) (b : List Int) (vis : List Nat) : Prop where
 bl : b.length = n
 nd : vis.Nodup
 hd : vis[0]? = some p
 lt : ∀ i ∈ vis, i < n
 vs : ∀ i, i < n → (0 ≤ b.getD i default ↔ i ∈ vis)
 pr : ∀ (k i : Nat), vis[k]? = some i → 0 < k → ∃ j a, j < k ∧ vis[j]? = some a ∧ b.getD i default = (a : Int) ∧ L a i = true
theorem getD_set {b : List Int} {k : Nat} {v : Int} (hk : k < b.length) (i : Nat) : (b.set k v).getD i default = if i = k then v else b.getD i default := by
 simp only [List.getD_eq_getElem?_getD, List.getElem?_set]
 by_cases e : k = i
 ·subst e; simp [hk]
 ·rw [if_neg e, if_neg (fun h => e h.symm)]
theorem Tree.len {L : Nat → Nat → Bool} {n p : Nat} {b : List Int} {vis : List Nat} (h : Tree L n p b vis) : vis.length ≤ n := by
 have h2 := nodup_len (m := List.range n) h.nd fun i hi => List.mem_range.2 (h.lt i hi)
 simpa using h2
theorem Tree.push {L : Nat → Nat → Bool} {n p : Nat} {b : List Int} {vis : List Nat} (h : Tree L n p b vis) {a i : Nat} (ha : a ∈ vis) (hi : i < n) (hv : i ∉ vis) (hl : L a i = true) : Tree L n p (b.set i (a : Int)) (vis ++ [i]) := by
 have hb : i < b.length := by rw [h.bl]; exact hi
 refine ⟨by simp [h.bl], ?_, ?_, fun j hj => ?_, fun j hj => ?_, fun k j hk h0 => ?_⟩
 ·rw [List.nodup_append]
  exact ⟨h.nd, by simp, fun x hx y hy => by simp only [List.mem_singleton] at hy; subst hy; exact fun e => hv (e ▸ hx)⟩
 ·have := h.hd
  have h0 : 0 < vis.length := (List.getElem?_eq_some_iff.1 this).1
  rw [List.getElem?_append_left h0]; exact this
 ·simp only [List.mem_append, List.mem_singleton] at hj
  rcases hj with hj | rfl
  ·exact h.lt j hj
  ·exact hi
 ·rw [getD_set hb]
  by_cases e : j = i
  ·subst e; simp
  ·rw [if_neg e, h.vs j hj]; simp [e]
 ·by_cases c : k < vis.length
  ·rw [List.getElem?_append_left c] at hk
   obtain ⟨q, a', h1, h2, h3, h4⟩ := h.pr k j hk h0
   have hne : j ≠ i := fun e => hv (e ▸ List.mem_of_getElem? hk)
   refine ⟨q, a', h1, ?_, ?_, h4⟩
   ·rw [List.getElem?_append_left (by omega)]; exact h2
   ·rw [getD_set hb, if_neg hne]; exact h3
  ·have e : k = vis.length := by
    have := (List.getElem?_eq_some_iff.1 hk).1
    simp at this; omega
   subst e
   simp at hk
   subst hk
   obtain ⟨q, hq, hqe⟩ := List.mem_iff_getElem.1 ha
   refine ⟨q, a, hq, ?_, ?_, hl⟩
   ·rw [List.getElem?_append_left hq, List.getElem?_eq_getElem hq, hqe]
   ·rw [getD_set hb]; simp
theorem whyrow_ok {L : Nat → Nat → Bool} {n p : Nat} (hn : n ≤ 24) {row : List Bool} (hr : row.length = n) {a : Nat} (hL : ∀ i, i < n → row.getD i false = L a i) (m : Nat) (b : List Int) (vis : List Nat) (hT : Tree L n p b vis) (ha : vis[m]? = some a) :
  Ok (foldL F_2t row 0 ((vis.drop m).map fun i : Nat => (i : Int), b)) fun s => ∃ news, Tree L n p s.2 (vis ++ news) ∧ s.1 = ((vis ++ news).drop m).map (fun i : Nat => (i : Int)) ∧ ∀ i, i < n → L a i = true → i ∈ vis ++ news := by
 have hm : m < vis.length := (List.getElem?_eq_some_iff.1 ha).1
 refine Ok.foldI (all := row) (fun pre s => ∃ news, Tree L n p s.2 (vis ++ news) ∧ s.1 = ((vis ++ news).drop m).map (fun i : Nat => (i : Int)) ∧ ∀ i, i < pre.length → L a i = true → i ∈ vis ++ news) row [] 0 _ rfl rfl ⟨[], by simpa using hT, by simp, fun i hi => by simp at hi⟩ (fun pre x r s hw hs => ?_) fun s hs => by rw [hr] at hs; exact hs
 obtain ⟨q', b'⟩ := s
 obtain ⟨news, h1, h2, h3⟩ := hs
 simp only at h1 h2 h3
 subst h2
 have hlen : pre.length < n := by rw [← hr, hw]; simp
 have hx : x = L a pre.length := by rw [← hL _ hlen, hw]; simp
 have hvl := h1.len
 unfold F_2t
 have hi : inb (pre.length : Int) b'.length = true := inb_iff.2 ⟨by omega, by rw [h1.bl]; omega⟩
 have hnext : ∀ (P : Nat → Prop), (∀ i, i < pre.length → L a i = true → P i) → (L a pre.length = true → P pre.length) → ∀ i, i < (pre ++ [x]).length → L a i = true → P i := fun P k1 k2 i hi hl => by
  simp only [List.length_append, List.length_singleton] at hi
  by_cases e : i = pre.length
  ·subst e; exact k2 hl
  ·exact k1 i (by omega) hl
 cases hxx : x with
 | false =>
  simp only [cond_false, jn, Option.bind_some]
  rw [hxx] at hx
  exact Ok.ret ⟨news, h1, rfl, hxx ▸ hnext (fun i => i ∈ vis ++ news) h3 fun hl => by rw [← hx] at hl; cases hl⟩
 | true =>
  rw [hxx] at hx
  simp only [cond_true, jn, chk_true hi, Option.bind_some, Int.toNat_natCast]
  by_cases hv : pre.length ∈ vis ++ news
  ·have : decide (b'.getD pre.length default < 0) = false := decide_eq_false (by have := (h1.vs _ hlen).2 hv; omega)
   simp only [this, cond_false]
   exact Ok.ret ⟨news, h1, rfl, hxx ▸ hnext (fun i => i ∈ vis ++ news) h3 fun _ => hv⟩
  ·have : decide (b'.getD pre.length default < 0) = true := decide_eq_true (Int.not_le.1 fun h => hv ((h1.vs _ hlen).1 h))
   simp only [this, cond_true]
   have hq0 : ((((vis ++ news).drop m).map fun i : Nat => (i : Int)).getD 0 default) = (a : Int) := by
    have : (vis ++ news)[m]? = some a := by rw [List.getElem?_append_left hm]; exact ha
    rw [List.getD_eq_getElem?_getD, List.getElem?_map, List.getElem?_drop, Nat.add_zero, this]; rfl
   have hl0 : (0 : Int) < ((((vis ++ news).drop m).map fun i : Nat => (i : Int)).length : Int) := by simp; omega
   refine Ok.chk (inb_iff.2 ⟨by omega, hl0⟩) (Ok.chk (room_smD (by simp only [List.length_map, List.length_drop, List.length_singleton]; have h24 : (vis ++ news).length ≤ 24 := Nat.le_trans hvl hn; generalize (vis ++ news).length = z at h24 ⊢; omega)) (Ok.ret ⟨news ++ [pre.length], ?_, ?_, ?_⟩))
   ·rw [hq0, ← List.append_assoc]
    exact h1.push (by simp [List.mem_of_getElem? ha]) hlen hv hx.symm
   ·rw [← List.append_assoc, List.drop_append_of_le_length (l₁ := vis ++ news) (by simp; omega)]
    simp
   ·rw [← List.append_assoc]
    exact hxx ▸ hnext (fun i => i ∈ vis ++ news ++ [pre.length]) (fun i k1 k2 => List.mem_append_left _ (h3 i k1 k2)) fun _ => by simp
theorem search_ok {L : Nat → Nat → Bool} {n p : Nat} (hn : n ≤ 24) (hp : p < n) (T : List (List Bool)) (hT : T.length = n) (hrow : ∀ a, a < n → (T.getD a default).length = n ∧ ∀ i, i < n → (T.getD a default).getD i false = L a i) :
  Ok (loop (F_3b T) ([(p : Int)], (List.replicate n (-1 : Int)).set p (p : Int))) fun b => ∃ vis, Tree L n p b vis ∧ ∀ i, RT L n p i → i ∈ vis := by
 refine Ok.loop (fun (s : List Int × List Int) => ∃ (vis : List Nat) (m : Nat), Tree L n p s.2 vis ∧ s.1 = (vis.drop m).map (fun i : Nat => (i : Int)) ∧ m ≤ vis.length ∧ ∀ j a, j < m → vis[j]? = some a → ∀ i, i < n → L a i = true → i ∈ vis)
  (fun (s : List Int × List Int) => 2 * (s.2.filter fun x => decide (x < 0)).length + s.1.length) (fun s hs => ?_) _ ?_
 ·obtain ⟨q, b⟩ := s
  obtain ⟨vis, m, h1, h2, h3, h4⟩ := hs
  simp only at h1 h2 h3 h4
  subst h2
  unfold F_3b
  refine Ok.ite (fun cq => ?_) fun cq => ?_
  ·have hm : m < vis.length := by have cq := of_decide_eq_true cq; simp at cq; omega
   have ha : vis[m]? = some vis[m] := List.getElem?_eq_getElem hm
   have hq0 : (((vis.drop m).map fun i : Nat => (i : Int)).getD 0 default) = (vis[m] : Int) := by simp [List.getD_eq_getElem?_getD, hm]
   have han : vis[m] < n := h1.lt _ (List.getElem_mem hm)
   simp only [hq0]
   refine Ok.chk (inb_iff.2 ⟨by omega, by simp; omega⟩) (Ok.chk (inb_iff.2 ⟨by omega, by rw [hT]; omega⟩) ?_)
   rw [Int.toNat_natCast]
   obtain ⟨r1, r2⟩ := hrow _ han
   refine Ok.bind (whyrow_ok hn r1 r2 m b vis h1 ha) fun s hs => ?_
   obtain ⟨q', b'⟩ := s
   obtain ⟨news, k1, k2, k3⟩ := hs
   simp only at k1 k2 k3
   subst k2
   refine Ok.chk (inc_iff.2 ⟨by omega, by simp; omega, by omega⟩) (Ok.ret ?_)
   have e1 : ((((vis ++ news).drop m).map fun i : Nat => (i : Int)).drop 1).take ((((vis ++ news).drop m).map fun i : Nat => (i : Int)).length - 1) = ((vis ++ news).drop (m + 1)).map fun i : Nat => (i : Int) := by
    rw [List.take_of_length_le (by simp; omega), ← List.map_drop, List.drop_drop]
   rw [e1]
   have hcount : ∀ {b : List Int} {vis : List Nat}, Tree L n p b vis → (b.filter fun x => decide (x < 0)).length = n - vis.length := by
    intro b vis h
    have e2 : (b.filter fun x => decide (x < 0)).length = ((List.range n).filter fun i => !decide (i ∈ vis)).length := by
     have hb : b = (List.range n).map fun i => b.getD i default := by
      apply List.ext_getElem
      ·simp [h.bl]
      ·intro i h1 h2; simp [List.getD_eq_getElem?_getD, h1]
     rw [hb, List.filter_map, List.length_map]
     congr 1
     refine List.filter_congr fun i hi => ?_
     have := h.vs i (List.mem_range.1 hi)
     simp only [Function.comp]
     rw [Bool.eq_iff_iff]
     simp only [decide_eq_true_eq, Bool.not_eq_true', decide_eq_false_iff_not, ← this]
     omega
    rw [e2]
    have e3 := filter_len2 (fun i => decide (i ∈ vis)) (List.range n)
    have e4 : ((List.range n).filter fun i => decide (i ∈ vis)).Perm vis := by
     rw [List.perm_ext_iff_of_nodup (List.nodup_range.filter _) h.nd]
     intro i
     simp only [List.mem_filter, List.mem_range, decide_eq_true_eq]
     exact ⟨fun h => h.2, fun hi => ⟨h.lt i hi, hi⟩⟩
    have e5 := e4.length_eq
    rw [List.length_range] at e3
    omega
   refine ⟨⟨vis ++ news, m + 1, k1, rfl, by simp; omega, fun j a' hj hja i hi hl => ?_⟩, ?_⟩
   ·by_cases e : j = m
    ·subst e
     rw [List.getElem?_append_left hm, ha] at hja
     cases hja
     exact k3 i hi hl
    ·rw [List.getElem?_append_left (by omega)] at hja
     exact List.mem_append_left _ (h4 j a' (by omega) hja i hi hl)
   ·show 2 * (b'.filter _).length + _ < 2 * (b.filter _).length + _
    rw [hcount k1, hcount h1]
    have := k1.len
    simp only [List.length_map, List.length_drop, List.length_append] at this ⊢
    omega
  ·have hm : vis.length ≤ m := by have cq := of_decide_eq_false cq; simp at cq; omega
   have hm : m = vis.length := by omega
   subst hm
   refine Ok.ret ⟨vis, h1, fun i hi => ?_⟩
   induction hi with
   | refl => exact List.mem_of_getElem? h1.hd
   | step h ha hb hl ih =>
    obtain ⟨j, hj, hje⟩ := List.mem_iff_getElem.1 ih
    exact h4 j _ hj (by rw [List.getElem?_eq_getElem hj, hje]) _ hb hl
 ·have hb : p < (List.replicate n (-1 : Int)).length := by simpa using hp
  refine ⟨[p],0, ⟨by simp, by simp, rfl, by simp [hp], fun i hi => ?_, fun k i hk h0 => ?_⟩, by simp, by simp, fun j a hj => by omega⟩
  ·rw [getD_set hb]
   by_cases e : i = p
   ·subst e; simp
   ·rw [if_neg e]
    simp [List.getD_eq_getElem?_getD, List.getElem?_replicate, hi, e]
  ·have : k < 1 := by have := (List.getElem?_eq_some_iff.1 hk).1; simpa using this
   omega
structure Chn (L : Nat → Nat → Bool) (n : Nat) (ch : List Int) : Prop where
 rg : ∀ x ∈ ch, 0 ≤ x ∧ x < n
 nd : ch.Nodup
 lk : ∀ k, k + 1 < ch.length → L (ch.getD k default).toNat (ch.getD (k + 1) default).toNat = true
theorem back_ok {L : Nat → Nat → Bool} {n p : Nat} (hn : n ≤ 24) (b : List Int) (vis : List Nat) (hT : Tree L n p b vis) {q : Nat} (hq : q ∈ vis) :
  Ok (loop (F_3c (p : Int) b) [(q : Int)]) fun ch => Chn L n ch ∧ ch.getD 0 default = p ∧ ch.getD (ch.length - 1) default = q ∧ 0 < ch.length := by
 refine Ok.loop (fun out : List Int => ∃ (k : Nat) (a : Nat), vis[k]? = some a ∧ out.getD 0 default = (a : Int) ∧ 0 < out.length ∧ Chn L n out ∧ out.getD (out.length - 1) default = q ∧ ∀ x ∈ out, ∃ j, k ≤ j ∧ vis[j]? = some x.toNat)
  (fun out => n - out.length) (fun out hs => ?_) _ ?_
 ·obtain ⟨k, a, h1, h2, h3, h4, h5, h6⟩ := hs
  have han := hT.lt a (List.mem_of_getElem? h1)
  have hlen : ∀ {l : List Int}, Chn L n l → l.length ≤ n := fun {l} hc => by
    exact range_len hc.nd hc.rg
  unfold F_3c
  refine Ok.chk (inb_iff.2 ⟨by omega, by omega⟩) ?_
  rw [h2]
  refine Ok.ite (fun c => ?_) fun c => ?_
  ·have c : ¬ (a : Int) = p := by simpa using c
   have hk0 : 0 < k := by
    rcases Nat.eq_zero_or_pos k with e | e
    ·subst e; rw [hT.hd] at h1; cases h1; exact absurd rfl c
    ·exact e
   obtain ⟨j, a', j1, j2, j3, j4⟩ := hT.pr k a h1 hk0
   have ha'n := hT.lt a' (List.mem_of_getElem? j2)
   refine Ok.chk (inb_iff.2 ⟨by omega, by omega⟩) (Ok.chk (inb_iff.2 ⟨by omega, by rw [hT.bl]; omega⟩) ?_)
   rw [Int.toNat_natCast, j3]
   have hne : out ≠ [] := fun e => by rw [e] at h3; simp at h3
   have hll := hlen h4
   have hins : insI out [(a' : Int)] = some ((a' : Int) :: out) := by
    unfold insI
    rw [chk_true]
    ·rfl
    ·simp [hne]; omega
   rw [hins]
   have hnew : Chn L n ((a' : Int) :: out) := by
    refine ⟨fun x hx => ?_, ?_, fun i hi => ?_⟩
    ·rcases List.mem_cons.1 hx with rfl | hx
     ·exact ⟨by omega, by omega⟩
     ·exact h4.rg x hx
    ·rw [List.nodup_cons]
     refine ⟨fun hm => ?_, h4.nd⟩
     obtain ⟨i, i1, i2⟩ := h6 _ hm
     rw [Int.toNat_natCast] at i2
     have := (List.getElem?_inj (i := j) (j := i) (List.getElem?_eq_some_iff.1 j2).1 hT.nd).1 (by rw [j2, i2])
     omega
    ·cases i with
     | zero =>
      have : ((a' : Int) :: out).getD (0 + 1) default = out.getD 0 default := rfl
      rw [this, h2]
      simpa using j4
     | succ i =>
      simp only [List.length_cons] at hi
      exact h4.lk i (by omega)
   have hnl := hlen hnew
   refine Ok.ret ⟨⟨j, a', j2, rfl, by simp, hnew, ?_, fun x hx => ?_⟩, ?_⟩
   ·have : ((a' : Int) :: out).getD (((a' : Int) :: out).length - 1) default = out.getD (out.length - 1) default := by
     simp only [List.length_cons, Nat.add_sub_cancel]
     obtain ⟨y, r, rfl⟩ : ∃ y r, out = y :: r := by
      cases out with
      | nil => exact absurd rfl hne
      | cons y r => exact ⟨y, r, rfl⟩
     simp [List.getD_eq_getElem?_getD]
    rw [this]; exact h5
   ·rcases List.mem_cons.1 hx with rfl | hx
    ·exact ⟨j, Nat.le_refl _, by rw [Int.toNat_natCast]; exact j2⟩
    ·obtain ⟨i, i1, i2⟩ := h6 x hx
     exact ⟨i, by omega, i2⟩
   ·show n - ((a' : Int) :: out).length < n - out.length
    simp only [List.length_cons] at hnl ⊢
    omega
  ·have c : (a : Int) = p := by simpa using c
   exact Ok.ret ⟨h4, by rw [h2, c], h5, h3⟩
 ·obtain ⟨k, hk, hke⟩ := List.mem_iff_getElem.1 hq
  refine ⟨k, q, by rw [List.getElem?_eq_getElem hk, hke], rfl, by simp, ⟨fun x hx => ?_, by simp, fun i hi => by simp at hi⟩, rfl, fun x hx => ?_⟩
  ·simp only [List.mem_singleton] at hx
   subst hx
   have := hT.lt q hq
   exact ⟨by omega, by omega⟩
  ·simp only [List.mem_singleton] at hx
   subst hx
   exact ⟨k, Nat.le_refl _, by rw [Int.toNat_natCast, List.getElem?_eq_getElem hk, hke]⟩
theorem dwhy_ok {d : GDirectory} (g : GoodD d) {p q t : Int} (h0 : 0 ≤ p) (h1 : p < d.Kinds.length) (hq : q ∈ upl d p t) (hne : q ≠ p) :
  Ok (F_1z d p q t) fun y => y.2 = true ∧ Chn (dlk d t) d.Kinds.length y.1 ∧ y.1.getD 0 default = p ∧ y.1.getD (y.1.length - 1) default = q ∧ 2 ≤ y.1.length := by
 have hk := g.kl
 unfold F_1z
 rw [din_eq g q t h0 h1]
 have hb : (!decide (q ∈ upl d p t ∧ q ≠ p)) = false := by simp [hq, hne]
 simp only [Option.bind_some, hb, cond_false, at_eq g]
 have hr : repI [-1] ((((List.range d.Kinds.length).map fun j => (List.range d.Kinds.length).map fun i => dlk d t j i).length : Nat) : Int) = some (List.replicate d.Kinds.length (-1)) := by
  unfold repI
  rw [chk_true]
  ·simp
  ·simp; omega
 rw [hr]
 simp only [Option.bind_some]
 refine Ok.chk (inb_iff.2 ⟨h0, by simpa using h1⟩) ?_
 obtain ⟨m0, m1, m2⟩ := mem_upl.1 hq
 have e1 : ((p.toNat : Nat) : Int) = p := Int.toNat_of_nonneg h0
 have e2 : ((q.toNat : Nat) : Int) = q := Int.toNat_of_nonneg m0
 have hs := search_ok (L := dlk d t) (n := d.Kinds.length) (p := p.toNat) hk (by omega) ((List.range d.Kinds.length).map fun j => (List.range d.Kinds.length).map fun i => dlk d t j i) (by simp) fun a ha => by
  have e : ((List.range d.Kinds.length).map fun j => (List.range d.Kinds.length).map fun i => dlk d t j i).getD a default = (List.range d.Kinds.length).map fun i => dlk d t a i := by simp [List.getD_eq_getElem?_getD, ha]
  rw [e]
  exact ⟨by simp, fun i hi => by simp [List.getD_eq_getElem?_getD, hi]⟩
 rw [e1] at hs
 refine Ok.bind hs fun b hb => ?_
 obtain ⟨vis, b1, b2⟩ := hb
 have hbk := back_ok hk b vis b1 (b2 _ m2)
 rw [e1, e2] at hbk
 refine Ok.bind hbk fun ch hch => Ok.ret ⟨rfl, hch.1, hch.2.1, hch.2.2.1, ?_⟩
 obtain ⟨c1, c2, c3, c4⟩ := hch
 rcases Nat.lt_or_ge ch.length 2 with h | h
 ·have : ch.length = 1 := by omega
  rw [this] at c3
  exact absurd (c3.symm.trans c2) hne
 ·exact h
end Go.Ab
namespace Go.Ab
open Go.Proofs Classical
theorem asc_adj : ∀ {l : List Int}, l.Pairwise (fun x y => x < y) ↔ ∀ i : Nat, i + 1 < l.length → l.getD i default < l.getD (i + 1) default
 | [] => by simp
 | [x] => by simp
 | x :: y :: r => by
  rw [List.pairwise_cons, asc_adj (l := y :: r)]
  constructor
  ·rintro ⟨h1, h2⟩ i hi
   cases i with
   | zero => exact h1 y (by simp)
   | succ i => exact h2 i (by simpa using hi)
  ·intro h
   have h0 : x < y := h 0 (by simp)
   have h2 : ∀ i : Nat, i + 1 < (y :: r).length → (y :: r).getD i default < (y :: r).getD (i + 1) default := fun i hi => h (i + 1) (by simp at hi ⊢; omega)
   refine ⟨fun z hz => ?_, h2⟩
   rcases List.mem_cons.1 hz with rfl | hz
   ·exact h0
   ·have := (List.pairwise_cons.1 (asc_adj.2 h2)).1 z hz
    omega
theorem asc_eq (l : List Int) (hn : l.length ≤ 1000) : F_w l = some (decide (l.Pairwise fun x y => x < y)) := by
 refine Ok.eq ?_
 unfold F_w
 refine Ok.bind (Ok.loop (Q := fun r : Sum Unit Bool => (r = .inl () ∧ l.Pairwise fun x y => x < y) ∨ (r = .inr false ∧ ¬ l.Pairwise fun x y => x < y))
  (fun x : Int => ∃ n : Nat, x = (n : Int) + 1 ∧ n ≤ l.length ∧ ∀ i : Nat, i < n → i + 1 < l.length → l.getD i default < l.getD (i + 1) default) (fun x => l.length + 1 - x.toNat) (fun x hx => ?_) 1 ⟨0, by omega, by omega, fun i hi => by omega⟩) fun r hr => ?_
 ·obtain ⟨n, rfl, hl, h⟩ := hx
  unfold F_43
  refine Ok.ite (fun c => ?_) fun c => ?_
  ·have c : (n : Int) + 1 < (l.length : Int) := of_decide_eq_true c
   have e1 : (n : Int) + 1 - 1 = n := by omega
   have e2 : ((n : Int) + 1).toNat = n + 1 := by omega
   rw [e1, e2, Int.toNat_natCast]
   refine Ok.chk (in64_smD (by omega) (by omega)) (Ok.chk (inb_iff.2 ⟨by omega, by omega⟩) (Ok.chk (inb_iff.2 ⟨by omega, by omega⟩) (Ok.ite (fun c2 => ?_) fun c2 => ?_)))
   ·have c2 := of_decide_eq_true c2
    refine Ok.ret (.inr ⟨rfl, fun hp => ?_⟩)
    have := asc_adj.1 hp n (by omega)
    omega
   ·have c2 := of_decide_eq_false c2
    refine Ok.chk (in64_smD (by omega) (by omega)) (Ok.ret ⟨⟨n + 1, by omega, by omega, fun i hi hi2 => ?_⟩, by omega⟩)
    by_cases e : i = n
    ·subst e; omega
    ·exact h i (by omega) hi2
  ·have c : ¬ (n : Int) + 1 < (l.length : Int) := of_decide_eq_false c
   exact Ok.ret (.inl ⟨rfl, asc_adj.2 fun i hi => h i (by omega) hi⟩)
 ·rcases hr with ⟨rfl, h⟩ | ⟨rfl, h⟩
  ·exact Ok.ret (by simp [h])
  ·exact Ok.ret (by simp [h])
theorem Chn.pre {L : Nat → Nat → Bool} {n : Nat} {l m : List Int} (h : Chn L n (l ++ m)) : Chn L n l := by
 refine ⟨fun x hx => h.rg x (by simp [hx]), (List.nodup_append.1 h.nd).1, fun k hk => ?_⟩
 have := h.lk k (by simp; omega)
 rwa [List.getD_eq_getElem?_getD, List.getD_eq_getElem?_getD, List.getElem?_append_left (by omega), List.getElem?_append_left hk, ← List.getD_eq_getElem?_getD, ← List.getD_eq_getElem?_getD] at this
theorem getD_last {l : List Int} (x : Int) : (l ++ [x]).getD l.length default = x := by simp [List.getD_eq_getElem?_getD]
theorem getD_fst {l m : List Int} {k : Nat} (h : k < l.length) : (l ++ m).getD k default = l.getD k default := by
 rw [List.getD_eq_getElem?_getD, List.getD_eq_getElem?_getD, List.getElem?_append_left h]
theorem Chn.snoc {L : Nat → Nat → Bool} {n : Nat} {l : List Int} {x : Int} : Chn L n (l ++ [x]) ↔ Chn L n l ∧ (0 ≤ x ∧ x < n) ∧ x ∉ l ∧ (0 < l.length → L (l.getD (l.length - 1) default).toNat x.toNat = true) := by
 constructor
 ·intro h
  refine ⟨h.pre, h.rg x (by simp), fun hx => ?_, fun h0 => ?_⟩
  ·have := (List.nodup_append.1 h.nd).2.2 x hx x (by simp)
   exact this rfl
  ·have := h.lk (l.length - 1) (by simp; omega)
   rwa [show l.length - 1 + 1 = l.length by omega, getD_last, getD_fst (by omega)] at this
 ·rintro ⟨h1, h2, h3, h4⟩
  refine ⟨fun y hy => ?_, ?_, fun k hk => ?_⟩
  ·rcases List.mem_append.1 hy with hy | hy
   ·exact h1.rg y hy
   ·simp only [List.mem_singleton] at hy; subst hy; exact h2
  ·rw [List.nodup_append]
   exact ⟨h1.nd, by simp, fun y hy z hz e => by simp only [List.mem_singleton] at hz; subst hz; exact h3 (e ▸ hy)⟩
  ·simp only [List.length_append, List.length_singleton] at hk
   by_cases e : k + 1 = l.length
   ·have := h4 (by omega)
    rwa [e, getD_last, getD_fst (by omega), show k = l.length - 1 by omega]
   ·rw [getD_fst (by omega), getD_fst (by omega)]
    exact h1.lk k (by omega)
theorem dproves_eq {d : GDirectory} (g : GoodD d) (t : Int) (ch : List Int) (hn : ch.length ≤ 1000) : F_2e d t ch = some (decide (2 ≤ ch.length ∧ Chn (dlk d t) d.Kinds.length ch)) := by
 have hk := g.kl
 refine Ok.eq ?_
 simp only [F_2e, dcheck_eq, if_pos g, Option.bind_some, decide_true, Bool.not_true, Bool.false_or, grp]
 refine Ok.ite (fun c => Ok.ret ?_) fun c => ?_
 ·have c := of_decide_eq_true c
  rw [eq_comm, decide_eq_false]; intro h; omega
 have c := of_decide_eq_false c
 rw [at_eq g]
 simp only [Option.bind_some]
 refine Ok.bind (P := fun o : Fl Unit Bool => (o = .nx () ∧ Chn (dlk d t) d.Kinds.length ch) ∨ (o = .ex false ∧ ¬ Chn (dlk d t) d.Kinds.length ch))
  (Ok.forI (all := ch) (fun pre _ => Chn (dlk d t) d.Kinds.length pre) ch [] 0 () rfl rfl ⟨fun x hx => by (cases hx), by simp, fun k hk => by simp at hk⟩ (fun pre x r s hw hs => ?_) fun s hs => .inl ⟨by cases s; rfl, hs⟩) fun o ho => ?_
 ·unfold F_3s
  have hno : ∀ h : ¬ Chn (dlk d t) d.Kinds.length (pre ++ [x]), ¬ Chn (dlk d t) d.Kinds.length ch := fun h hc => h (by
   rw [hw, show pre ++ x :: r = (pre ++ [x]) ++ r by simp] at hc
   exact hc.pre)
  rw [Chn.snoc] at hno
  simp only [dexists_eq, Option.bind_some]
  refine Ok.ite (fun c1 => Ok.ret (.inr ⟨rfl, hno fun h => ?_⟩)) fun c1 => ?_
  ·simp only [Bool.not_eq_true', decide_eq_false_iff_not] at c1; exact c1 h.2.1
  have c1 : 0 ≤ x ∧ x < (d.Kinds.length : Int) := by simpa using c1
  have hl : pre.length < ch.length := by rw [hw]; simp
  refine Ok.chk (inc_iff.2 ⟨by omega, by omega, by omega⟩) ?_
  have e1 : ch.take ((pre.length : Nat) : Int).toNat = pre := by rw [Int.toNat_natCast, hw, List.take_left' rfl]
  rw [e1, dcont_eq]
  simp only [Option.bind_some]
  refine Ok.ite (fun c2 => Ok.ret (.inr ⟨rfl, hno fun h => h.2.2.1 (of_decide_eq_true c2)⟩)) fun c2 => ?_
  have c2 := of_decide_eq_false c2
  refine Ok.ite (fun c3 => ?_) fun c3 => ?_
  ·have c3 : 0 < pre.length := by have := of_decide_eq_true c3; omega
   have e2 : ((pre.length : Int) - 1).toNat = pre.length - 1 := by omega
   have e3 : ch.getD (pre.length - 1) default = pre.getD (pre.length - 1) default := by rw [hw, getD_fst (by omega)]
   obtain ⟨y0, y1⟩ := hs.rg (pre.getD (pre.length - 1) default) (by
    rw [List.getD_eq_getElem?_getD, List.getElem?_eq_getElem (by omega)]
    exact List.getElem_mem _)
   rw [e2, e3]
   have e4 : ((List.range d.Kinds.length).map fun j => (List.range d.Kinds.length).map fun i => dlk d t j i).getD (pre.getD (pre.length - 1) default).toNat default = (List.range d.Kinds.length).map fun i => dlk d t (pre.getD (pre.length - 1) default).toNat i := by
    rw [List.getD_eq_getElem?_getD, List.getElem?_map, List.getElem?_eq_getElem (by rw [List.length_range]; omega)]; simp
   rw [e4]
   have e5 : ((List.range d.Kinds.length).map fun i => dlk d t (pre.getD (pre.length - 1) default).toNat i).getD x.toNat default = dlk d t (pre.getD (pre.length - 1) default).toNat x.toNat := by
    rw [List.getD_eq_getElem?_getD, List.getElem?_map, List.getElem?_eq_getElem (by simp; omega)]; simp
   rw [e5]
   refine Ok.chk (in64_smD (by omega) (by omega)) (Ok.chk (inb_iff.2 ⟨by omega, by omega⟩) (Ok.chk (inb_iff.2 ⟨y0, by simpa using y1⟩) (Ok.chk (inb_iff.2 ⟨c1.1, by simpa using c1.2⟩) (Ok.ite (fun c4 => Ok.ret (.inr ⟨rfl, hno fun h => ?_⟩)) fun c4 => Ok.ret (Chn.snoc.2 ⟨hs, c1, c2, fun _ => ?_⟩)))))
   ·have := h.2.2.2 c3
    rw [this] at c4; cases c4
   ·simpa using c4
  ·have c3 : ¬ 0 < pre.length := by have := of_decide_eq_false c3; omega
   exact Ok.ret (Chn.snoc.2 ⟨hs, c1, c2, fun h => absurd h c3⟩)
 ·rcases ho with ⟨rfl, h⟩ | ⟨rfl, h⟩
  ·exact Ok.ret (by rw [eq_comm, decide_eq_true]; exact ⟨by omega, h⟩)
  ·exact Ok.ret (by rw [eq_comm, decide_eq_false]; exact fun hh => h hh.2)
theorem link_eq {a : GEstate} (hn : a.Events.length ≤ 1000) (pl t k : Int) : F_z a pl t k = some (decide (0 ≤ k ∧ k < a.Events.length ∧ openP pl t a.Events k.toNat)) := by
 refine Ok.eq ?_
 simp only [F_z, grp]
 refine Ok.ite (fun c => Ok.ret ?_) fun c => ?_
 ·simp only [Bool.or_eq_true, decide_eq_true_eq] at c
  rw [eq_comm, decide_eq_false]; intro h; omega
 simp only [Bool.or_eq_false_iff, decide_eq_false_iff_not] at c
 refine Ok.chk (inb_iff.2 ⟨by omega, by omega⟩) ?_
 by_cases c1 : lnk pl t (a.Events.getD k.toNat default)
 ·obtain ⟨l1, l2, l3, l4⟩ := c1
  simp only [l1, l2, l3, l4, decide_true, Bool.and_self, cond_true, jn]
  rw [chk_true (in64_smD (by omega) (by omega)), chk_true (inc_iff.2 ⟨by omega, by omega, by omega⟩)]
  have hc : F_2c (a.Events.drop (k + 1).toNat) pl t = some (decide (∃ x ∈ a.Events.drop (k + 1).toNat, unl pl t x)) := by
   unfold F_2c F_33
   rw [contains_ofD (fun x => unl pl t x) _ fun k x => ?_]
   ·exact congrArg some (decide_eq_decide.2 Iff.rfl)
   ·simp only [F_3r, F_y, grp, Option.bind_some]
    by_cases c : unl pl t x
    ·simp [c.1, c.2.1, c.2.2, c]
    ·have : (decide (x.Kind = 4) && decide (x.Place = pl) && decide (x.Time ≤ t)) = false := by
      rw [Bool.eq_false_iff]
      intro h
      simp only [Bool.and_eq_true, decide_eq_true_eq] at h
      exact c ⟨h.1.1, h.1.2, h.2⟩
     rw [this, if_neg c]; rfl
  rw [hc]
  simp only [Option.bind_some]
  refine Ok.ret ?_
  rw [Bool.eq_iff_iff]
  simp only [Bool.not_eq_true', decide_eq_false_iff_not, decide_eq_true_eq]
  rw [show (k + 1).toNat = k.toNat + 1 by omega]
  constructor
  ·intro h
   exact ⟨by omega, by omega, ⟨l1, l2, l3, l4⟩, fun y hy hu => h ⟨y, hy, hu⟩⟩
  ·rintro h ⟨y, hy, hu⟩
   exact h.2.2.2 y hy hu
 ·have : (decide ((a.Events.getD k.toNat default).Kind = 3) && decide ((a.Events.getD k.toNat default).Place = pl) && decide ((a.Events.getD k.toNat default).Time ≤ t) && decide (t < (a.Events.getD k.toNat default).Until)) = false := by
   rw [Bool.eq_false_iff]
   intro h
   simp only [Bool.and_eq_true, decide_eq_true_eq] at h
   exact c1 ⟨h.1.1.1, h.1.1.2, h.1.2, h.2⟩
  simp only [this, cond_false, jn, Option.bind_some]
  exact Ok.ret (by rw [eq_comm, decide_eq_false]; exact fun h => c1 h.2.2.1)
theorem aget_key (p t q : Int) (l : List GAccess) : (aget q (grf p t l)).isSome = decide (q ∈ keysf p t l) := by rw [aget_isSome, grf_keys]
def provP (d : GDirectory) (a : GEstate) (p : Int) (r : GReading) : Prop :=
 (rdr d p ∧ 0 ≤ r.Place ∧ r.Place ≤ a.Places - 1) ∧
  ((r.Link ≠ -1 ∧ r.Grant = -1 ∧ r.Chain = [] ∧ 0 ≤ r.Link ∧ r.Link < a.Events.length ∧ openP r.Place r.Time a.Events r.Link.toNat) ∨
   (r.Link = -1 ∧ r.Chain ≠ [] ∧ 0 ≤ r.Grant ∧ r.Grant < a.Events.length ∧ (a.Events.getD r.Grant.toNat default).Kind = 1 ∧ (a.Events.getD r.Grant.toNat default).Place = r.Place ∧ (a.Events.getD r.Grant.toNat default).Time ≤ r.Time ∧
    (a.Events.getD r.Grant.toNat default).Principal ∈ keysf r.Place r.Time a.Events ∧ r.Chain.getD 0 default = p ∧ r.Chain.getD (r.Chain.length - 1) default = (a.Events.getD r.Grant.toNat default).Principal ∧ (r.Chain.length = 1 ∨ 2 ≤ r.Chain.length ∧ Chn (dlk d r.Time) d.Kinds.length r.Chain)))
theorem granted1_eq {a : GEstate} {pl : Int} (hk : F_1 a pl = some true) (t n : Int) : F_2d a pl t n = some (if 0 ≤ n ∧ n < a.Events.length then
  (if (a.Events.getD n.toNat default).Principal ∈ keysf pl t a.Events then ((a.Events.getD n.toNat default).Principal, decide ((a.Events.getD n.toNat default).Kind = 1 ∧ (a.Events.getD n.toNat default).Place = pl ∧ (a.Events.getD n.toNat default).Time ≤ t)) else ((a.Events.getD n.toNat default).Principal, false)) else (0, false)) := by
 refine Ok.eq ?_
 simp only [F_2d, grp]
 refine Ok.ite (fun c => Ok.ret ?_) fun c => ?_
 ·simp only [Bool.or_eq_true, decide_eq_true_eq] at c
  rw [if_neg (by omega)]
 simp only [Bool.or_eq_false_iff, decide_eq_false_iff_not] at c
 rw [if_pos (by omega)]
 refine Ok.chk (inb_iff.2 ⟨by omega, by omega⟩) ?_
 rw [grant_eq _ _ hk]
 simp only [Option.bind_some, aget_key]
 by_cases c1 : (a.Events.getD n.toNat default).Principal ∈ keysf pl t a.Events
 ·rw [decide_eq_true c1, if_pos c1, cond_true]
  by_cases c2 : (a.Events.getD n.toNat default).Kind = 1
  ·rw [decide_eq_true c2, cond_true]
   by_cases c3 : (a.Events.getD n.toNat default).Place = pl
   ·rw [decide_eq_true c3, cond_true]; exact Ok.ret (by simp only [c2, c3, true_and])
   ·rw [decide_eq_false c3, cond_false]; exact Ok.ret (by rw [decide_eq_false (fun h => c3 h.2.1)])
  ·rw [decide_eq_false c2, cond_false]; exact Ok.ret (by rw [decide_eq_false (fun h => c2 h.1)])
 ·rw [decide_eq_false c1, if_neg c1, cond_false]; exact Ok.ret rfl
theorem proves_eq {d : GDirectory} {a : GEstate} (g : GoodD d) (h : Good a) (p : Int) (r : GReading) (hn : r.Chain.length ≤ 1000) : F_1m d a p r = some (decide (provP d a p r)) := by
 have hen := h.len
 refine Ok.eq ?_
 simp only [F_1m, fine_eq g h, Option.bind_some]
 refine Ok.ite (fun c1 => Ok.ret ?_) fun c1 => ?_
 ·rw [eq_comm, decide_eq_false]; intro hh; simp [hh.1] at c1
 have c1 : rdr d p ∧ 0 ≤ r.Place ∧ r.Place ≤ a.Places - 1 := by simpa using c1
 have hk := known_of h c1.2.1 c1.2.2
 refine Ok.ite (fun c2 => ?_) fun c2 => ?_
 ·have c2 : ¬ r.Link = -1 := by simpa using c2
  simp only [grp, link_eq (a := a) (by omega), jn, Option.bind_some]
  by_cases c3 : r.Grant = -1 ∧ r.Chain = []
  ·simp only [c3.1, c3.2, List.length_nil, decide_true, Int.natCast_zero, Bool.and_self, cond_true, Option.bind_some]
   refine Ok.ret (decide_eq_decide.2 ⟨fun hh => ⟨c1, .inl ⟨c2, c3.1, c3.2, hh⟩⟩, fun hh => ?_⟩)
   rcases hh.2 with hh | hh
   ·exact hh.2.2.2
   ·exact absurd hh.1 c2
  ·have : (decide (r.Grant = -1) && decide ((r.Chain.length : Int) = 0)) = false := by
    rw [Bool.eq_false_iff]; intro hh
    simp only [Bool.and_eq_true, decide_eq_true_eq] at hh
    exact c3 ⟨hh.1, List.length_eq_zero_iff.1 (by omega)⟩
   simp only [this, cond_false, Option.bind_some]
   refine Ok.ret ?_
   rw [eq_comm, decide_eq_false]; intro hh
   rcases hh.2 with hh | hh
   ·exact c3 ⟨hh.2.1, hh.2.2.1⟩
   ·exact c2 hh.1
 ·have c2 : r.Link = -1 := by simpa using c2
  simp only [granted1_eq hk, Option.bind_some, grp]
  by_cases c3 : 0 ≤ r.Grant ∧ r.Grant < (a.Events.length : Int)
  ·rw [if_pos c3]
   by_cases c4 : (a.Events.getD r.Grant.toNat default).Principal ∈ keysf r.Place r.Time a.Events
   ·rw [if_pos c4]
    refine Ok.ite (fun c5 => Ok.ret ?_) fun c5 => ?_
    ·rw [eq_comm, decide_eq_false]; intro hh
     rcases hh.2 with hh | hh
     ·exact hh.1 c2
     ·have hl : ¬ (r.Chain.length : Int) = 0 := fun e => hh.2.1 (List.length_eq_zero_iff.1 (by omega))
      simp only [decide_eq_true (show (a.Events.getD r.Grant.toNat default).Kind = 1 ∧ (a.Events.getD r.Grant.toNat default).Place = r.Place ∧ (a.Events.getD r.Grant.toNat default).Time ≤ r.Time from ⟨hh.2.2.2.2.1, hh.2.2.2.2.2.1, hh.2.2.2.2.2.2.1⟩), Bool.not_true, decide_eq_false hl, Bool.or_self] at c5
      cases c5
    ·simp only [Bool.or_eq_false_iff, Bool.not_eq_false', decide_eq_true_eq, decide_eq_false_iff_not] at c5
     have hl : 0 < r.Chain.length := by omega
     refine Ok.chk (inb_iff.2 ⟨by omega, by omega⟩) (Ok.ite (fun c6 => Ok.ret ?_) fun c6 => ?_)
     ·have c6 : ¬ r.Chain.getD 0 default = p := by simpa using c6
      rw [eq_comm, decide_eq_false]; intro hh
      rcases hh.2 with hh | hh
      ·exact hh.1 c2
      ·exact c6 hh.2.2.2.2.2.2.2.2.1
     have c6 : r.Chain.getD 0 default = p := by simpa using c6
     have e1 : ((r.Chain.length : Int) - 1).toNat = r.Chain.length - 1 := by omega
     rw [e1]
     refine Ok.chk (in64_smD (by omega) (by omega)) (Ok.chk (inb_iff.2 ⟨by omega, by omega⟩) (Ok.ite (fun c7 => Ok.ret ?_) fun c7 => ?_))
     ·have c7 : ¬ r.Chain.getD (r.Chain.length - 1) default = (a.Events.getD r.Grant.toNat default).Principal := by simpa using c7
      rw [eq_comm, decide_eq_false]; intro hh
      rcases hh.2 with hh | hh
      ·exact hh.1 c2
      ·exact c7 hh.2.2.2.2.2.2.2.2.2.1
     have c7 : r.Chain.getD (r.Chain.length - 1) default = (a.Events.getD r.Grant.toNat default).Principal := by simpa using c7
     simp only [dproves_eq g _ _ hn, jn, Option.bind_some]
     have hne : r.Chain ≠ [] := fun e => by rw [e] at hl; simp at hl
     by_cases c8 : r.Chain.length = 1
     ·simp only [c8, Int.natCast_one, decide_true, cond_true, Option.bind_some]
      exact Ok.ret (by rw [eq_comm, decide_eq_true]; exact ⟨c1, .inr ⟨c2, hne, c3.1, c3.2, c5.1.1, c5.1.2.1, c5.1.2.2, c4, c6, c7, .inl c8⟩⟩)
     ·rw [decide_eq_false (show ¬ (r.Chain.length : Int) = 1 by omega), cond_false]
      simp only [Option.bind_some]
      refine Ok.ret (decide_eq_decide.2 ⟨fun hh => ⟨c1, .inr ⟨c2, hne, c3.1, c3.2, c5.1.1, c5.1.2.1, c5.1.2.2, c4, c6, c7, .inr hh⟩⟩, fun hh => ?_⟩)
      rcases hh.2 with hh | hh
      ·exact absurd c2 hh.1
      ·rcases hh.2.2.2.2.2.2.2.2.2.2 with hh | hh
       ·exact absurd hh c8
       ·exact hh
   ·rw [if_neg c4]
    simp only [Bool.not_false, Bool.true_or, cond_true]
    refine Ok.ret ?_
    rw [eq_comm, decide_eq_false]; intro hh
    rcases hh.2 with hh | hh
    ·exact hh.1 c2
    ·exact c4 hh.2.2.2.2.2.2.2.1
  ·rw [if_neg c3]
   simp only [Bool.not_false, Bool.true_or, cond_true]
   refine Ok.ret ?_
   rw [eq_comm, decide_eq_false]; intro hh
   rcases hh.2 with hh | hh
   ·exact hh.1 c2
   ·exact c3 ⟨hh.2.2.1, hh.2.2.2.1⟩
theorem refL_open {p t : Int} {l : List GAccess} : ∀ {n : Nat}, n ≤ l.length → (refL p t l n).2 = true → ∃ k : Nat, k < n ∧ refL p t l n = ((k : Int), true) ∧ openP p t l k
 | 0, h, e => by cases e
 | n + 1, h, e => by
  unfold refL at e ⊢
  split at e
  ·rename_i c; rw [if_pos c]; exact ⟨n, by omega, rfl, c⟩
  ·rename_i c; rw [if_neg c]
   obtain ⟨k, k1, k2, k3⟩ := refL_open (by omega) e
   exact ⟨k, by omega, k2, k3⟩
theorem why_ok {d : GDirectory} {a : GEstate} (g : GoodD d) (h : Good a) (p pl t : Int) : Ok (F_17 d a p pl t) fun y => y.2 = decide (mayP d a p pl t) ∧ (mayP d a p pl t → y.1.Place = pl ∧ y.1.Time = t ∧ y.1.Chain.length ≤ 24 ∧ provP d a p y.1) ∧ (¬ mayP d a p pl t → y.1 = ⟨0,0,0,0,[]⟩) := by
 have hkl := g.kl
 unfold F_17
 rw [may_eq g h]
 simp only [Option.bind_some]
 refine Ok.ite (fun c => ?_) fun c => ?_
 ·have c : ¬ mayP d a p pl t := by simpa using c
  exact Ok.ret ⟨by simp [c], fun hm => absurd hm c, fun _ => rfl⟩
 have c : mayP d a p pl t := by simpa using c
 obtain ⟨⟨cr, c0, c1⟩, c2⟩ := id c
 have hk := known_of h c0 c1
 rw [linked_eq t hk]
 simp only [Option.bind_some]
 refine Ok.ite (fun c3 => ?_) fun c3 => ?_
 ·rw [← refL_lkf] at c3 ⊢
  obtain ⟨k, k1, k2, k3⟩ := refL_open (Nat.le_refl _) c3
  rw [k2]
  refine Ok.ret ⟨by simp [c], fun _ => ⟨rfl, rfl, by simp, ⟨cr, c0, c1⟩, .inl ⟨by show (k : Int) ≠ -1; omega, rfl, rfl, by show 0 ≤ (k : Int); omega, by show (k : Int) < _; omega, by show openP pl t a.Events (k : Int).toNat; rw [Int.toNat_natCast]; exact k3⟩⟩, fun hm => absurd c hm⟩
 ·rw [rgrant_eq (upward_eq g t cr.1 cr.2.1) (granted_eq t h.len hk)]
  simp only [Option.bind_some]
  obtain ⟨q, hq, hu, e⟩ : ∃ q, q ∈ keysf pl t a.Events ∧ q ∈ upl d p t ∧ fst0 ((srtI (keysf pl t a.Events)).find? fun x => decide (x ∈ upl d p t)) = (q, true) := by
   cases e : (srtI (keysf pl t a.Events)).find? fun x => decide (x ∈ upl d p t) with
   | some y =>
    exact ⟨y, srtI_mem.1 (List.mem_of_find?_eq_some e), by have := List.find?_some e; simpa using this, rfl⟩
   | none =>
    rcases c2 with c2 | ⟨x, hx, hu⟩
    ·rw [c3] at c2; cases c2
    ·have := List.find?_eq_none.1 e x (srtI_mem.2 hx)
     simp [hu] at this
  rw [e]
  simp only [grant_eq q t hk, Option.bind_some]
  obtain ⟨v, hv⟩ : ∃ v, aget q (grf pl t a.Events) = some v := aget_some (by rw [grf_keys]; exact hq)
  obtain ⟨n, rfl, n1, n2, n3, n4, n5, n6⟩ := grant_told _ _ _ _ _ hv
  rw [hv]
  simp only [Option.getD_some]
  refine Ok.jn (P := fun j : GReading => ∃ ch : List Int, j = ⟨pl, t, -1, (n : Int), ch⟩ ∧ ch ≠ [] ∧ ch.length ≤ 24 ∧ ch.getD 0 default = p ∧ ch.getD (ch.length - 1) default = q ∧ (ch.length = 1 ∨ 2 ≤ ch.length ∧ Chn (dlk d t) d.Kinds.length ch)) ?_ fun j hj => ?_
  ·refine Ok.ite (fun c4 => ?_) fun c4 => ?_
   ·have c4 : ¬ q = p := by simpa using c4
    refine Ok.bind (dwhy_ok g cr.1 cr.2.1 hu c4) fun y hy => Ok.ret ⟨y.1, rfl, fun e => ?_, ?_, hy.2.2.1, hy.2.2.2.1, .inr ⟨hy.2.2.2.2, hy.2.1⟩⟩
    ·have := hy.2.2.2.2; rw [e] at this; simp at this
    ·have hc := hy.2.1
     have := range_len hc.nd hc.rg
     omega
   ·have c4 : q = p := by simpa using c4
    exact Ok.ret ⟨[p], rfl, by simp, by simp, rfl, c4.symm, .inl rfl⟩
  ·obtain ⟨ch, rfl, j1, j2, j3, j4, j5⟩ := hj
   refine Ok.ret ⟨by simp [c], fun _ => ⟨rfl, rfl, j2, ⟨cr, c0, c1⟩, .inr ⟨rfl, j1, by show 0 ≤ (n : Int); omega, by show (n : Int) < _; omega, ?_⟩⟩, fun hm => absurd c hm⟩
   simp only [Int.toNat_natCast]
   exact ⟨n2, n3, n5, by rw [n4]; exact hq, j3, by rw [n4]; exact j4, j5⟩
end Go.Ab
namespace Go.Ab
open Go.Proofs Classical
def norem (E : List GAccess) (c q t : Int) (i n : Nat) : Prop := ∀ k : Nat, i ≤ k → k < n → ¬ ((E.getD k default).Kind = 6 ∧ (E.getD k default).Content = c ∧ (E.getD k default).Place = q ∧ (E.getD k default).Time ≤ t)
inductive WayC (E : List GAccess) (c t : Int) : List Int → Int → Nat → Prop
 | put (k n : Nat) (hk : k < n) (h1 : (E.getD k default).Kind = 5) (h2 : (E.getD k default).Content = c) (h3 : (E.getD k default).Time ≤ t) (h4 : norem E c (E.getD k default).Place t (k + 1) n) : WayC E c t [(k : Int)] (E.getD k default).Place n
 | copy (w : List Int) (k n : Nat) (hw : WayC E c t w (E.getD k default).From k) (hk : k < n) (h1 : (E.getD k default).Kind = 7) (h3 : (E.getD k default).Time ≤ t) (h4 : norem E c (E.getD k default).Place t (k + 1) n) : WayC E c t (w ++ [(k : Int)]) (E.getD k default).Place n
theorem WayC.next {E : List GAccess} {c t : Int} {w : List Int} {q : Int} {n : Nat} (h : WayC E c t w q n) (hn : ¬ ((E.getD n default).Kind = 6 ∧ (E.getD n default).Content = c ∧ (E.getD n default).Place = q ∧ (E.getD n default).Time ≤ t)) : WayC E c t w q (n + 1) := by
 cases h with
 | put k n hk h1 h2 h3 h4 =>
  refine .put k _ (by omega) h1 h2 h3 fun i hi hn' => ?_
  by_cases e : i = n
  ·subst e; exact hn
  ·exact h4 i hi (by omega)
 | copy w k n hw hk h1 h3 h4 =>
  refine .copy w k _ hw (by omega) h1 h3 fun i hi hn' => ?_
  by_cases e : i = n
  ·subst e; exact hn
  ·exact h4 i hi (by omega)
theorem WayC.ne {E : List GAccess} {c t : Int} {w : List Int} {q : Int} {n : Nat} (h : WayC E c t w q n) : 0 < w.length := by
 cases h <;> simp
def stepOK (E : List GAccess) (c t : Int) (w : List Int) (n : Nat) (i : Nat) : Prop :=
 0 ≤ w.getD i default ∧ (w.getD i default).toNat < n ∧ (E.getD (w.getD i default).toNat default).Time ≤ t ∧
 (i = 0 → (E.getD (w.getD i default).toNat default).Kind = 5 ∧ (E.getD (w.getD i default).toNat default).Content = c) ∧
 (0 < i → (E.getD (w.getD i default).toNat default).Kind = 7 ∧ (E.getD (w.getD i default).toNat default).From = (E.getD (w.getD (i - 1) default).toNat default).Place) ∧
 (i + 1 < w.length → w.getD i default < w.getD (i + 1) default ∧ norem E c (E.getD (w.getD i default).toNat default).Place t ((w.getD i default).toNat + 1) (w.getD (i + 1) default).toNat) ∧
 (i + 1 = w.length → norem E c (E.getD (w.getD i default).toNat default).Place t ((w.getD i default).toNat + 1) n)
theorem WayC.steps {E : List GAccess} {c t : Int} {w : List Int} {q : Int} {n : Nat} (h : WayC E c t w q n) : (∀ i, i < w.length → stepOK E c t w n i) ∧ (E.getD (w.getD (w.length - 1) default).toNat default).Place = q := by
 induction h with
 | put k n hk h1 h2 h3 h4 =>
  refine ⟨fun i hi => ?_, by simp⟩
  have : i = 0 := by simp at hi; omega
  subst this
  unfold stepOK
  simp only [List.getD_cons_zero, Int.toNat_natCast]
  exact ⟨by omega, hk, h3, fun _ => ⟨h1, h2⟩, fun h => by omega, fun h => by simp at h, fun _ => h4⟩
 | copy w k n hw hk h1 h3 h4 ih =>
  have hl := hw.ne
  have el : (w ++ [(k : Int)]).getD w.length default = (k : Int) := getD_last _
  have ef : ∀ i, i < w.length → (w ++ [(k : Int)]).getD i default = w.getD i default := fun i hi => getD_fst hi
  have hL : (w ++ [(k : Int)]).length = w.length + 1 := by simp
  refine ⟨fun i hi => ?_, by rw [hL, Nat.add_sub_cancel, el, Int.toNat_natCast]⟩
  rw [hL] at hi
  unfold stepOK
  rw [hL]
  by_cases e : i = w.length
  ·subst e
   rw [el]
   simp only [Int.toNat_natCast]
   refine ⟨by omega, hk, h3, fun h => by omega, fun _ => ⟨h1, ?_⟩, fun h => by omega, fun _ => h4⟩
   rw [ef _ (by omega)]
   exact ih.2.symm
  ·have hi' : i < w.length := by omega
   obtain ⟨s1, s2, s3, s4, s5, s6, s7⟩ := ih.1 i hi'
   rw [ef i hi']
   refine ⟨s1, by omega, s3, s4, fun h => ?_, fun h => ?_, fun h => by omega⟩
   ·rw [ef (i - 1) (by omega)]; exact s5 h
   ·by_cases e2 : i + 1 = w.length
    ·rw [e2, el, Int.toNat_natCast]
     exact ⟨by omega, s7 e2⟩
    ·rw [ef (i + 1) (by omega)]
     exact s6 (by omega)
theorem WayC.mono {E : List GAccess} {c t : Int} {w : List Int} {q : Int} {n : Nat} (h : WayC E c t w q n) : w.length ≤ n := by
 induction h with
 | put k n hk => simp; omega
 | copy w k n hw hk h1 h3 h4 ih => simp; omega
theorem clone_eqI {s : List Int} (h : s.length ≤ 1000) : F_1x s = some s := by
 have hr : room (([] : List Int).length + s.length) 8 = true := room_smD (by simp; omega)
 unfold F_1x
 rw [chk_true hr, List.nil_append]
 refine amb_eq fun h => ?_
 rw [List.isEmpty_iff.1 h]
def waysOK (E : List GAccess) (c t : Int) (n : Nat) (W : List (List Int)) (s : Int → Bool) : Prop :=
 ∀ i : Nat, i < W.length → (s i = true ↔ 0 < (W.getD i default).length) ∧ (0 < (W.getD i default).length → WayC E c t (W.getD i default) i n)
theorem getD_setL {W : List (List Int)} {k : Nat} {v : List Int} (hk : k < W.length) (i : Nat) : (W.set k v).getD i default = if i = k then v else W.getD i default := by
 simp only [List.getD_eq_getElem?_getD, List.getElem?_set]
 by_cases e : k = i
 ·subst e; simp [hk]
 ·rw [if_neg e, if_neg (fun h => e h.symm)]
theorem way_step {P : Int} {E : List GAccess} {c t : Int} {n : Nat} {W : List (List Int)} {s : Int → Bool} {x : GAccess} (hx : E.getD n default = x) (hok : xok P x) (hP : (W.length : Int) = P) (hn : n ≤ 120) (h : waysOK E c t n W s) :
  Ok (F_2s c t (n : Int) x W) fun W' => W'.length = W.length ∧ waysOK E c t (n + 1) W' (if x.Time ≤ t then cst c x s else s) := by
 obtain ⟨x0, x1, x2, x3, x4⟩ := hok
 have hpn : x.Place.toNat < W.length := by omega
 have hpi : ((x.Place.toNat : Nat) : Int) = x.Place := Int.toNat_of_nonneg x2
 have keep : (∀ i : Nat, i < W.length → ¬ (x.Kind = 6 ∧ x.Content = c ∧ x.Place = i ∧ x.Time ≤ t)) → ∀ i : Nat, i < W.length → 0 < (W.getD i default).length → WayC E c t (W.getD i default) i (n + 1) := fun hh i hi hl =>
  ((h i hi).2 hl).next (by rw [hx]; exact hh i hi)
 unfold F_2s
 refine Ok.chk (inb_iff.2 ⟨x2, by omega⟩) (Ok.ite (fun c1 => ?_) fun c1 => ?_)
 ·have c1 := of_decide_eq_true c1
  rw [if_neg (by omega)]
  exact Ok.ret ⟨rfl, fun i hi => ⟨(h i hi).1, keep (fun i _ q => by omega) i hi⟩⟩
 have c1 := of_decide_eq_false c1
 rw [if_pos (by omega)]
 simp only [grp]
 have hs := h x.Place.toNat hpn
 rw [hpi] at hs
 have hset : ∀ (v : List Int) (b : Bool), (b = true ↔ 0 < v.length) → (0 < v.length → WayC E c t v x.Place (n + 1)) → (∀ i : Nat, i < W.length → (i : Int) ≠ x.Place → ¬ (x.Kind = 6 ∧ x.Content = c ∧ x.Place = i ∧ x.Time ≤ t)) → waysOK E c t (n + 1) (W.set x.Place.toNat v) (upd s x.Place b) := fun v b hb hv hh i hi => by
  rw [List.length_set] at hi
  rw [getD_setL hpn]
  by_cases e : i = x.Place.toNat
  ·rw [if_pos e, e, hpi]
   exact ⟨by rw [show upd s x.Place b x.Place = b by simp [upd]]; exact hb, hv⟩
  ·rw [if_neg e]
   have hne : (i : Int) ≠ x.Place := by omega
   refine ⟨by rw [show upd s x.Place b i = s i by simp [upd, hne]]; exact (h i hi).1, fun hl => ((h i hi).2 hl).next (by rw [hx]; exact hh i hi hne)⟩
 have hsame : ∀ b : Bool, b = s x.Place → (∀ i : Nat, i < W.length → ¬ (x.Kind = 6 ∧ x.Content = c ∧ x.Place = i ∧ x.Time ≤ t)) → waysOK E c t (n + 1) W (upd s x.Place b) := fun b hb hh i hi => by
  refine ⟨?_, keep hh i hi⟩
  rw [← (h i hi).1]
  by_cases e : (i : Int) = x.Place
  ·rw [e, show upd s x.Place b x.Place = b by simp [upd], hb]
  ·simp [upd, e]
 by_cases k5 : x.Kind = 5
 ·have e : cst c x s = upd s x.Place (s x.Place || decide (x.Content = c)) := by simp [cst, k5]
  rw [e]
  by_cases cc : x.Content = c
  ·by_cases hl : 0 < (W.getD x.Place.toNat default).length
   ·have d1 : decide (0 < ((W.getD x.Place.toNat default).length : Int)) = true := decide_eq_true (by omega)
    simp only [k5, cc, d1, decide_true, Bool.not_true, Bool.and_false, cond_false, show decide ((5 : Int) = 6) = false from rfl, show decide ((5 : Int) = 7) = false from rfl, Bool.false_and, jn, Option.bind_some]
    refine Ok.ret ⟨rfl, ?_⟩
    simp only [Bool.or_true]
    exact hsame true (hs.1.2 hl).symm fun i _ q => by omega
   ·have d1 : decide (0 < ((W.getD x.Place.toNat default).length : Int)) = false := decide_eq_false (by omega)
    simp only [k5, cc, d1, decide_true, Bool.not_false, Bool.and_self, cond_true]
    refine Ok.chk (inb_iff.2 ⟨x2, by omega⟩) (Ok.ret ⟨by simp, ?_⟩)
    simp only [Bool.or_true]
    refine hset _ true (by simp) (fun _ => ?_) fun i _ _ q => by omega
    have := WayC.put (E := E) (c := c) (t := t) n (n + 1) (by omega) (by rw [hx]; exact k5) (by rw [hx]; exact cc) (by rw [hx]; omega) (fun i hi hi2 => by omega)
    rwa [hx] at this
  ·simp only [k5, cc, decide_true, decide_false, Bool.and_false, Bool.false_and, cond_false, show decide ((5 : Int) = 6) = false from rfl, show decide ((5 : Int) = 7) = false from rfl, jn, Option.bind_some]
   refine Ok.ret ⟨rfl, hsame _ (by simp) fun i _ q => by omega⟩
 by_cases k6 : x.Kind = 6
 ·have e : cst c x s = upd s x.Place (s x.Place && !decide (x.Content = c)) := by simp [cst, k6]
  rw [e]
  by_cases cc : x.Content = c
  ·simp only [k6, cc, decide_true, Bool.and_self, cond_true, show decide ((6 : Int) = 5) = false from rfl, Bool.false_and, cond_false]
   refine Ok.chk (inb_iff.2 ⟨x2, by omega⟩) (Ok.ret ⟨by simp, ?_⟩)
   simp only [Bool.not_true, Bool.and_false]
   exact hset _ false (by simp) (fun h => by simp at h) fun i _ hne q => hne q.2.2.1.symm
  ·simp only [k6, cc, decide_true, decide_false, Bool.and_false, Bool.false_and, cond_false, show decide ((6 : Int) = 5) = false from rfl, show decide ((6 : Int) = 7) = false from rfl, jn, Option.bind_some]
   refine Ok.ret ⟨rfl, hsame _ (by simp) fun i _ q => cc q.2.1⟩
 by_cases k7 : x.Kind = 7
 ·have e : cst c x s = upd s x.Place (s x.Place || s x.From) := by simp [cst, k7]
  rw [e]
  have xf : 0 ≤ x.From ∧ x.From ≤ P - 1 := by omega
  have hfn : x.From.toNat < W.length := by omega
  have hfi : ((x.From.toNat : Nat) : Int) = x.From := Int.toNat_of_nonneg xf.1
  have hf := h x.From.toNat hfn
  rw [hfi] at hf
  have no6 : ∀ i : Nat, i < W.length → ¬ (x.Kind = 6 ∧ x.Content = c ∧ x.Place = i ∧ x.Time ≤ t) := fun i _ q => by omega
  simp only [k7, decide_true, show decide ((7 : Int) = 5) = false from rfl, show decide ((7 : Int) = 6) = false from rfl, Bool.false_and, cond_false, Bool.true_and]
  by_cases hl : 0 < (W.getD x.Place.toNat default).length
  ·have d1 : decide (0 < ((W.getD x.Place.toNat default).length : Int)) = true := decide_eq_true (by omega)
   simp only [d1, Bool.not_true, cond_false, jn, Option.bind_some]
   refine Ok.ret ⟨rfl, hsame _ ?_ no6⟩
   rw [hs.1.2 hl]; rfl
  ·have d1 : decide (0 < ((W.getD x.Place.toNat default).length : Int)) = false := decide_eq_false (by omega)
   have hsp : s x.Place = false := by
    cases q : s x.Place with
    | false => rfl
    | true => exact absurd (hs.1.1 q) hl
   simp only [d1, Bool.not_false, cond_true, jn]
   rw [chk_true (inb_iff.2 ⟨xf.1, by omega⟩)]
   simp only [Option.bind_some]
   by_cases hl2 : 0 < (W.getD x.From.toNat default).length
   ·have d2 : decide (0 < ((W.getD x.From.toNat default).length : Int)) = true := decide_eq_true (by omega)
    have hw := hf.2 hl2
    have hwl := hw.mono
    simp only [d2, cond_true]
    refine Ok.chk (inb_iff.2 ⟨xf.1, by omega⟩) ?_
    rw [clone_eqI (by omega)]
    simp only [Option.bind_some]
    refine Ok.chk (room_smD (by simp only [List.length_singleton]; omega)) (Ok.chk (inb_iff.2 ⟨x2, by omega⟩) (Ok.ret ⟨by simp, ?_⟩))
    refine hset _ _ (by rw [hf.1.2 hl2]; simp) (fun _ => ?_) fun i hi _ => no6 i hi
    have := WayC.copy (E := E) (c := c) (t := t) (W.getD x.From.toNat default) n (n + 1) (by rw [hx]; exact hw) (by omega) (by rw [hx]; exact k7) (by rw [hx]; omega) (fun i hi hi2 => by omega)
    rwa [hx] at this
   ·have d2 : decide (0 < ((W.getD x.From.toNat default).length : Int)) = false := decide_eq_false (by omega)
    have hsf : s x.From = false := by
     cases q : s x.From with
     | false => rfl
     | true => exact absurd (hf.1.1 q) hl2
    simp only [d2, cond_false]
    exact Ok.ret ⟨rfl, hsame _ (by rw [hsp, hsf]; rfl) no6⟩
 ·have e : cst c x s = s := by simp [cst, k5, k6, k7]
  rw [e]
  simp only [k5, k6, k7, decide_false, Bool.false_and, cond_false, jn, Option.bind_some]
  exact Ok.ret ⟨rfl, fun i hi => ⟨(h i hi).1, keep (fun i _ q => k6 q.1) i hi⟩⟩
theorem way_ok {a : GEstate} (g : Good a) {c : Int} (h0 : 0 ≤ c) (h1 : c ≤ 63) {q t : Int} (q0 : 0 ≤ q) (q1 : q ≤ a.Places - 1) : Ok (F_1h a c q t) fun y => hld a c t q = true → y.2 = true ∧ WayC a.Events c t y.1 q a.Events.length := by
 have hlo := g.lo
 have hhi := g.hi
 have hlen := g.len
 have hc : F_2 c = some true := by simp [F_2, among_eq, h0, h1]
 simp only [F_1h, check_eq, if_pos g, Option.bind_some, decide_true, Bool.not_true, cond_false, hc, place_eq a q hlo hhi, decide_eq_true (show 0 ≤ q ∧ q ≤ a.Places - 1 from ⟨q0, q1⟩)]
 refine Ok.chk (roomI_iff.2 ⟨by omega, by omega, by omega⟩) (Ok.bind (Ok.foldI (all := a.Events) (fun pre W => (W.length : Int) = a.Places ∧ waysOK a.Events c t pre.length W (cfo c t pre fun _ => false)) a.Events [] 0 _ rfl rfl ⟨by simp; omega, fun i hi => ?_⟩ (fun pre x r W hw hW => ?_) fun s hs => hs) fun W hW => ?_)
 ·rw [List.length_replicate] at hi
  have : (List.replicate a.Places.toNat ([] : List Int)).getD i default = [] := by simp [List.getD_eq_getElem?_getD, List.getElem?_replicate, hi]
  rw [this]
  exact ⟨by simp [cfo], fun h => by simp at h⟩
 ·have hp : pre.length < a.Events.length := by rw [hw]; simp
  have hx : a.Events.getD pre.length default = x := by rw [hw]; simp
  refine (way_step (P := a.Places) hx (g.ev x (by rw [hw]; simp)) hW.1 (by omega) hW.2).mono fun W' hW' => ⟨by rw [hW'.1]; exact hW.1, ?_⟩
  have e : cfo c t (pre ++ [x]) (fun _ => false) = if x.Time ≤ t then cst c x (cfo c t pre fun _ => false) else cfo c t pre fun _ => false := by simp [cfo]
  rw [e, List.length_append, List.length_singleton]
  exact hW'.2
 ·have hqn : q.toNat < W.length := by omega
  have hq := hW.2 q.toNat hqn
  rw [Int.toNat_of_nonneg q0] at hq
  refine Ok.chk (inb_iff.2 ⟨q0, by omega⟩) (Ok.chk (inb_iff.2 ⟨q0, by omega⟩) (Ok.ret fun hh => ?_))
  have hl := hq.1.1 hh
  exact ⟨decide_eq_true (by show (0 : Int) < ((W.getD q.toNat default).length : Int); omega), hq.2 hl⟩
theorem removed_eq (l : List GAccess) (c q t : Int) : F_x l c q t = some (decide (∃ x ∈ l, x.Kind = 6 ∧ x.Content = c ∧ x.Place = q ∧ x.Time ≤ t)) := by
 have : F_2a l c q t = some (decide (∃ x ∈ l, x.Kind = 6 ∧ x.Content = c ∧ x.Place = q ∧ x.Time ≤ t)) := by
  unfold F_2a F_32
  rw [contains_ofD (fun x : GAccess => x.Kind = 6 ∧ x.Content = c ∧ x.Place = q ∧ x.Time ≤ t) _ fun k x => ?_]
  simp only [F_3p, F_31, grp, Option.bind_some]
  by_cases h : x.Kind = 6 ∧ x.Content = c ∧ x.Place = q ∧ x.Time ≤ t
  ·simp [h.1, h.2.1, h.2.2.1, h.2.2.2]
  ·have e : (decide (x.Kind = 6) && decide (x.Content = c) && decide (x.Place = q) && decide (x.Time ≤ t)) = false := by
    rw [Bool.eq_false_iff]; intro h'
    simp only [Bool.and_eq_true, decide_eq_true_eq] at h'
    exact h ⟨h'.1.1.1, h'.1.1.2, h'.1.2, h'.2⟩
   rw [e, if_neg h]; rfl
 simp only [F_x, this, Option.bind_some]
theorem norem_cut {E : List GAccess} {c q t : Int} {i n : Nat} (h : norem E c q t i n) : ¬ ∃ x ∈ (E.take n).drop i, x.Kind = 6 ∧ x.Content = c ∧ x.Place = q ∧ x.Time ≤ t := by
 rintro ⟨x, hx, hh⟩
 obtain ⟨j, hj, rfl⟩ := List.mem_iff_getElem.1 hx
 simp only [List.length_drop, List.length_take] at hj
 rw [List.getElem_drop, List.getElem_take] at hh
 refine h (i + j) (by omega) (by omega) ?_
 have e : E.getD (i + j) default = E[i + j]'(by omega) := by rw [List.getD_eq_getElem?_getD, List.getElem?_eq_getElem (by omega)]; rfl
 rw [e]; exact hh
theorem cproves_ok {a : GEstate} (g : Good a) {c : Int} (h0 : 0 ≤ c) (h1 : c ≤ 63) {q t : Int} (q0 : 0 ≤ q) (q1 : q ≤ a.Places - 1) {w : List Int} (hw : WayC a.Events c t w q a.Events.length) : F_2b a c q t w = some true := by
 have hlo := g.lo
 have hhi := g.hi
 have hlen := g.len
 have hl := hw.ne
 have hwl := hw.mono
 obtain ⟨hs, hlast⟩ := hw.steps
 have hc : F_2 c = some true := by simp [F_2, among_eq, h0, h1]
 have hasc : F_w w = some true := by
  rw [asc_eq w (by omega), decide_eq_true]
  exact asc_adj.2 fun i hi => ((hs i (by omega)).2.2.2.2.2.1 hi).1
 have hd : decide ((w.length : Int) = 0) = false := decide_eq_false (by omega)
 refine Ok.eq ?_
 unfold F_2b
 simp only [check_eq, if_pos g, Option.bind_some, decide_true, Bool.not_true, cond_false, hc, place_eq a q hlo hhi, decide_eq_true (show 0 ≤ q ∧ q ≤ a.Places - 1 from ⟨q0, q1⟩), hd, Bool.or_self, grp, hasc, jn, Fl_nx]
 obtain ⟨f1, f2, _⟩ := hs 0 hl
 obtain ⟨l1, l2, _⟩ := hs (w.length - 1) (by omega)
 have e1 : ((w.length : Int) - 1).toNat = w.length - 1 := by omega
 have i1 : in64 ((w.length : Int) - 1) = true := in64_smD (by omega) (by omega)
 have i2 : inb ((w.length : Int) - 1) w.length = true := inb_iff.2 ⟨by omega, by omega⟩
 rw [e1]
 refine Ok.chk (inb_iff.2 ⟨by omega, by omega⟩) (Ok.ite (fun c1 => ?_) fun _ => Ok.chk i1 (Ok.chk i2 (Ok.ite (fun c2 => ?_) fun _ => ?_)))
 ·have c1 := of_decide_eq_true c1; omega
 ·have c2 := of_decide_eq_true c2; omega
 refine Ok.bind (P := fun o : Fl Unit Bool => o = .nx ()) (Ok.forI (all := w) (fun _ _ => True) w [] 0 () rfl rfl trivial (fun pre x r s hw' _ => ?_) fun s _ => rfl) fun o ho => ?_
 ·have hp : pre.length < w.length := by rw [hw']; simp
  have hx : w.getD pre.length default = x := by rw [hw']; simp
  have hst := hs pre.length hp
  unfold stepOK at hst
  rw [hx] at hst
  obtain ⟨s1, s2, s3, s4, s5, s6, s7⟩ := hst
  unfold F_3q
  refine Ok.chk (inb_iff.2 ⟨s1, by omega⟩) ?_
  refine Ok.jn (P := fun n : Int => ∃ m : Nat, n = m ∧ x.toNat < m ∧ m ≤ a.Events.length ∧ norem a.Events c (a.Events.getD x.toNat default).Place t (x.toNat + 1) m) (Ok.ite (fun c1 => ?_) fun c1 => ?_) fun n hn => ?_
  ·have c1 := of_decide_eq_true c1
   have e : ((pre.length : Int) + 1).toNat = pre.length + 1 := by omega
   rw [e]
   obtain ⟨z1, z2⟩ := s6 (by omega)
   have zz := (hs (pre.length + 1) (by omega))
   refine Ok.chk (inb_iff.2 ⟨by omega, by omega⟩) (Ok.ret ⟨(w.getD (pre.length + 1) default).toNat, by have := zz.1; omega, by have := zz.1; omega, by have := zz.2.1; omega, z2⟩)
  ·have c1 := of_decide_eq_false c1
   exact Ok.ret ⟨a.Events.length, rfl, s2, Nat.le_refl _, s7 (by omega)⟩
  obtain ⟨m, rfl, m1, m2, m3⟩ := hn
  have hrm : F_x ((a.Events.take ((m : Int)).toNat).drop ((x + 1)).toNat) c (a.Events.getD x.toNat default).Place t = some false := by
   rw [removed_eq, Int.toNat_natCast, show (x + 1).toNat = x.toNat + 1 by omega, decide_eq_false (norem_cut m3)]
  have fin : Ok (bif decide (t < (a.Events.getD x.toNat default).Time) then some (.ex false) else chk (in64 (x + 1)) (chk (inc (x + 1) (m : Int) a.Events.length) ((F_x ((a.Events.take ((m : Int)).toNat).drop ((x + 1)).toNat) c (a.Events.getD x.toNat default).Place t).bind fun y188 => bif y188 then some (.ex false) else some (.nx ())))) (Fl.elim (fun _ : Unit => True) fun r : Bool => (Fl.ex r : Fl Unit Bool) = .nx ()) := by
   refine Ok.ite (fun c2 => by have c2 := of_decide_eq_true c2; omega) fun _ => Ok.chk (in64_smD (by omega) (by omega)) (Ok.chk (inc_iff.2 ⟨by omega, by omega, by omega⟩) ?_)
   rw [hrm]
   exact Ok.ret trivial
  simp only [grp]
  by_cases z : pre.length = 0
  ·obtain ⟨p1, p2⟩ := s4 z
   have d1 : decide (0 < ((pre.length : Nat) : Int)) = false := decide_eq_false (by omega)
   have d0 : decide (((pre.length : Nat) : Int) = 0) = true := decide_eq_true (by omega)
   simp only [d0, p1, p2, decide_true, Bool.and_self, d1, cond_false, jn, Option.bind_some, Bool.not_true]
   exact fin
  ·obtain ⟨p1, p2⟩ := s5 (by omega)
   have d1 : decide (0 < ((pre.length : Nat) : Int)) = true := decide_eq_true (by omega)
   have d0 : decide (((pre.length : Nat) : Int) = 0) = false := decide_eq_false (by omega)
   have e : ((pre.length : Int) - 1).toNat = pre.length - 1 := by omega
   have zz := hs (pre.length - 1) (by omega)
   simp only [d0, Bool.false_and, d1, cond_true, p1, decide_true, Bool.not_false, e]
   rw [chk_true (in64_smD (by omega) (by omega)), chk_true (inb_iff.2 ⟨by omega, by omega⟩), chk_true (inb_iff.2 ⟨zz.1, by have := zz.2.1; omega⟩)]
   simp only [jn, Option.bind_some, p2, decide_true, Bool.not_true, cond_false]
   exact fin
 ·subst ho
  rw [Fl_nx]
  refine Ok.chk i1 (Ok.chk i2 (Ok.chk (inb_iff.2 ⟨l1, by omega⟩) (Ok.ret ?_)))
  exact decide_eq_true hlast
end Go.Ab
namespace Go.Ab
open Go.Proofs Classical
theorem sin_time {d : GDirectory} {a : GEstate} (g : GoodD d) (h : Good a) {c p t : Int} (hs : sin d a c p = some t) : 0 ≤ t ∧ t ≤ 1099511627776 := by
 rcases mem_tms.1 (List.mem_of_find?_eq_some hs) with ⟨x, hx, rfl⟩ | ⟨x, hx, rfl⟩
 ·exact ⟨(h.ev x hx).1, (h.ev x hx).2.1⟩
 ·exact ⟨(g.ev x hx).2.1, (g.ev x hx).2.2.1⟩
theorem cfo_congr {c s t : Int} : ∀ {E : List GAccess} {z : Int → Bool}, (∀ x ∈ E, x.Time ≤ t ↔ x.Time ≤ s) → cfo c t E z = cfo c s E z
 | [], z, _ => rfl
 | x :: r, z, h => by
  have ih := fun z => cfo_congr (c := c) (E := r) (z := z) fun y hy => h y (by simp [hy])
  simp only [cfo, List.foldl_cons] at ih ⊢
  by_cases e : x.Time ≤ t
  ·rw [if_pos e, if_pos ((h x (by simp)).1 e)]; exact ih _
  ·rw [if_neg e, if_neg (fun q => e ((h x (by simp)).2 q))]; exact ih _
theorem lk_mono {p s t : Int} (hst : s ≤ t) : ∀ {E : List GAccess} {b b' : Bool}, (∀ x ∈ E, x.Time ≤ t ↔ x.Time ≤ s) → (b = true → b' = true) → E.foldl (lk1 p t) b = true → E.foldl (lk1 p s) b' = true
 | [], b, b', _, hb, h => hb h
 | x :: r, b, b', hx, hb, h => by
  rw [List.foldl_cons] at h ⊢
  refine lk_mono hst (fun y hy => hx y (by simp [hy])) (fun q => ?_) h
  have := hx x (by simp)
  unfold lk1 at q ⊢
  by_cases e : t < x.Time ∨ x.Place ≠ p
  ·rw [if_pos e] at q; rw [if_pos (by omega)]; exact hb q
  ·rw [if_neg e] at q; rw [if_neg (by omega)]
   by_cases e4 : x.Kind = 4
   ·rw [if_pos e4] at q; cases q
   ·rw [if_neg e4] at q ⊢
    by_cases e3 : x.Kind = 3 ∧ t < x.Until
    ·rw [if_pos (by omega)]
    ·rw [if_neg e3] at q
     split
     ·rfl
     ·exact hb q
theorem kst_congr {p s t : Int} {x : GAccess} (h : x.Time ≤ t ↔ x.Time ≤ s) (ks : List Int) : kst p t x ks = kst p s x ks := by
 have : (t < x.Time) = (s < x.Time) := propext (by omega)
 simp only [kst, this]
theorem keys_congr {p s t : Int} : ∀ {E : List GAccess} {ks : List Int}, (∀ x ∈ E, x.Time ≤ t ↔ x.Time ≤ s) → E.foldl (fun ks x => kst p t x ks) ks = E.foldl (fun ks x => kst p s x ks) ks
 | [], _, _ => rfl
 | x :: r, ks, h => by
  rw [List.foldl_cons, List.foldl_cons, kst_congr (h x (by simp))]
  exact keys_congr fun y hy => h y (by simp [hy])
theorem zst_congr {s t : Int} : ∀ {E : List GMember} {Z : Nat → Nat → Bool}, (∀ x ∈ E, x.Time ≤ t ↔ x.Time ≤ s) → E.foldl (zst t) Z = E.foldl (zst s) Z
 | [], _, _ => rfl
 | x :: r, Z, h => by
  rw [List.foldl_cons, List.foldl_cons, show zst t Z x = zst s Z x from by
   have : (x.Time ≤ t) = (x.Time ≤ s) := propext (h x (by simp))
   funext j i; simp only [zst, this]]
  exact zst_congr fun y hy => h y (by simp [hy])
theorem pla_iff {d : GDirectory} {a : GEstate} {c p t : Int} : (pla d a c p t).isSome = true ↔ ∃ x ∈ whr a c t, see d a p t x = true := by
 unfold pla
 rw [List.find?_isSome]
theorem pla_step {d : GDirectory} {a : GEstate} (g : GoodD d) (h : Good a) {c : Int} (h0 : 0 ≤ c) (h1 : c ≤ 63) {p t : Int} (ht : t ∉ tms d a) (hs : (pla d a c p t).isSome = true) : (pla d a c p (t - 1)).isSome = true := by
 have ha : ∀ x ∈ a.Events, x.Time ≤ t ↔ x.Time ≤ t - 1 := fun x hx => by
  have : x.Time ≠ t := fun e => ht (mem_tms.2 (.inl ⟨x, hx, e⟩))
  omega
 have hd : ∀ x ∈ d.Events, x.Time ≤ t ↔ x.Time ≤ t - 1 := fun x hx => by
  have : x.Time ≠ t := fun e => ht (mem_tms.2 (.inr ⟨x, hx, e⟩))
  omega
 obtain ⟨x, hx, hv⟩ := pla_iff.1 hs
 refine pla_iff.2 ⟨x, ?_, ?_⟩
 ·rw [mem_whr h h0 h1] at hx ⊢
  refine ⟨hx.1, ?_⟩
  have : hld a c t = hld a c (t - 1) := cfo_congr ha
  rw [← this]; exact hx.2
 ·have hlk : (lkf x t a.Events 0 (0, false)).2 = true → (lkf x (t - 1) a.Events 0 (0, false)).2 = true := by
   rw [lkf_lk1, lkf_lk1]
   exact lk_mono (by omega) ha id
  unfold see at hv ⊢
  by_cases e : p = -1
  ·rw [if_pos e] at hv ⊢; exact hlk hv
  ·rw [if_neg e] at hv ⊢
   have hm := of_decide_eq_true hv
   refine decide_eq_true ⟨hm.1, ?_⟩
   rcases hm.2 with q | ⟨y, q1, q2⟩
   ·exact .inl (hlk q)
   ·refine .inr ⟨y, ?_, ?_⟩
    ·have : keysf x t a.Events = keysf x (t - 1) a.Events := keys_congr ha
     rw [← this]; exact q1
    ·have e1 : dlk d t = dlk d (t - 1) := by rw [dlk_fold, dlk_fold]; exact zst_congr hd
     have e2 : ∀ (d : GDirectory) (t : Int), upl d p t = upL (dlk d t) d.Kinds.length p.toNat := fun _ _ => rfl
     rw [e2, ← e1, ← e2]; exact q2
theorem pla_neg {d : GDirectory} {a : GEstate} (h : Good a) {c : Int} (h0 : 0 ≤ c) (h1 : c ≤ 63) {p t : Int} (ht : t < 0) : ¬ (pla d a c p t).isSome = true := fun hs => by
 obtain ⟨x, hx, _⟩ := pla_iff.1 hs
 have := ((mem_whr h h0 h1).1 hx).2
 have e : hld a c t = fun _ => false := by
  unfold hld
  have : ∀ {E : List GAccess}, (∀ y ∈ E, ¬ y.Time ≤ t) → cfo c t E (fun _ => false) = fun _ => false := by
   intro E
   induction E with
   | nil => exact fun _ => rfl
   | cons y r ih =>
    intro hE
    have : cfo c t (y :: r) (fun _ => false) = cfo c t r fun _ => false := by simp only [cfo, List.foldl_cons, if_neg (hE y (by simp))]
    rw [this]; exact ih fun z hz => hE z (by simp [hz])
  exact this fun y hy => by have := (h.ev y hy).1; omega
 rw [e] at this; cases this
theorem sin_least {d : GDirectory} {a : GEstate} (g : GoodD d) (h : Good a) {c : Int} (h0 : 0 ≤ c) (h1 : c ≤ 63) {p : Int} {m : Nat} (hm : (pla d a c p m).isSome = true) (hl : ∀ k : Nat, k < m → ¬ (pla d a c p k).isSome = true) : sin d a c p = some (m : Int) := by
 have hT : (m : Int) ∈ tms d a := Classical.byContradiction fun hT => by
  have := pla_step g h h0 h1 hT hm
  cases m with
  | zero => exact pla_neg h h0 h1 (by omega) this
  | succ k =>
   have e : ((k + 1 : Nat) : Int) - 1 = (k : Int) := by omega
   rw [e] at this
   exact hl k (by omega) this
 unfold sin
 rw [find_iff (tms_sorted d a)]
 refine ⟨⟨hT, hm⟩, fun s hs hq => ?_⟩
 have s0 : 0 ≤ s := by
  rcases mem_tms.1 hs with ⟨x, hx, e⟩ | ⟨x, hx, e⟩
  ·have := (h.ev x hx).1; omega
  ·have := (g.ev x hx).2.1; omega
 refine Classical.byContradiction fun hn => hl s.toNat (by omega) ?_
 rw [Int.toNat_of_nonneg s0]; exact hq
theorem push_idx : ∀ (xs : List Bool) (k : Nat) (s : List Int), s.length + xs.length ≤ 1000 → foldL F_30 xs (k : Int) s = some (s ++ ((List.range xs.length).filter fun i => xs.getD i false).map fun i : Nat => ((k + i : Nat) : Int))
 | [], k, s, _ => by simp [foldL]
 | x :: r, k, s, h => by
  simp only [List.length_cons] at h
  have e1 : ((List.range (r.length + 1)).filter fun i => (x :: r).getD i false) = (if x then [0] else []) ++ ((List.range r.length).filter fun i => r.getD i false).map fun i => i + 1 := by
   rw [List.range_succ_eq_map, List.filter_cons, List.filter_map]
   cases x <;> simp [Function.comp_def]
  have e2 : ((k : Int) + 1) = ((k + 1 : Nat) : Int) := by omega
  have hm : (((List.range r.length).filter fun i => r.getD i false).map fun i => i + 1).map (fun i : Nat => ((k + i : Nat) : Int)) = ((List.range r.length).filter fun i => r.getD i false).map fun i : Nat => ((k + 1 + i : Nat) : Int) := by
   rw [List.map_map]
   refine List.map_congr_left fun i _ => ?_
   simp only [Function.comp]; omega
  rw [List.length_cons, e1, List.map_append, hm]
  simp only [foldL, F_30]
  cases x with
  | false =>
   simp only [cond_false, Option.bind_some]
   rw [e2, push_idx r (k + 1) s (by omega)]
   simp
  | true =>
   have hr : room (s.length + [(k : Int)].length) 8 = true := room_smD (by simp; omega)
   simp only [cond_true, chk_true hr, Option.bind_some]
   rw [e2, push_idx r (k + 1) _ (by simp; omega)]
   simp
theorem rWhere_eq {a : GEstate} (g : Good a) {c : Int} (h0 : 0 ≤ c) (h1 : c ≤ 63) (t : Int) : F_27 a c t = some (whr a c t) := by
 have hlo := g.lo
 have hhi := g.hi
 have hr : F_v a c = some true := by
  simp only [F_v, valid_eq, decide_eq_true g, Option.bind_some, decide_eq_true h0, decide_eq_true h1, jn, grp, cond_true, Bool.and_self]
 refine Ok.eq ?_
 simp only [F_27, hr, Option.bind_some, Bool.not_true, cond_false]
 refine Ok.bind (happened_ok g t) fun n hn => ?_
 obtain ⟨k, rfl, k1, k2, k3⟩ := hn
 refine Ok.bind (now_ok g c k1) fun l hl => ?_
 obtain ⟨l1, l2⟩ := hl
 have := push_idx l 0 [] (by simp; omega)
 rw [show ((0 : Nat) : Int) = 0 from rfl] at this
 rw [this]
 refine Ok.ret ?_
 have e2 := hld_take (c := c) k2 k3
 rw [← e2] at l2
 rw [whr_eq g h0 h1]
 have e : l.length = a.Places.toNat := by omega
 simp only [List.nil_append, Nat.zero_add, e]
 congr 1
 refine List.filter_congr fun i hi => ?_
 have hi := List.mem_range.1 hi
 have := l2 (i : Int) (by omega) (by omega)
 rw [Int.toNat_natCast] at this
 exact this
theorem look_fold {d : GDirectory} {a : GEstate} (g : GoodD d) (h : Good a) {c : Int} (h0 : 0 ≤ c) (h1 : c ≤ 63) (y6 : GDirectory × GTape) (e6 : y6.1 = d) (y8 : GEstate × GTape) (e8 : y8.1 = a) (x : Int × Int) (hp : -1 ≤ x.2) (z : Int × Int) :
  ∀ (l : List Int) (k : Int) (s : Int), (∀ q ∈ l, 0 ≤ q ∧ q ≤ a.Places - 1) → foldL (F_2f y6 y8 x z) l k s = some (if ∃ q ∈ l, see d a x.2 z.2 q = true then z.2 else s)
 | [], k, s, _ => by simp [foldL]
 | q :: r, k, s, hl => by
  have hq := hl q (by simp)
  have ih := look_fold g h h0 h1 y6 e6 y8 e8 x hp z r
  have hb : F_2f y6 y8 x z k q s = some (if see d a x.2 z.2 q = true then z.2 else s) := by
   subst e6 e8
   simp only [F_2f, rLinked_eq _ _ _ h.len, linked_eq z.2 (known_of h hq.1 hq.2), Option.bind_some, grp, rmay_eq g h, see]
   by_cases c1 : x.2 = -1
   ·have c2 : ¬ 0 ≤ x.2 := by omega
    simp only [c1, decide_true, Bool.true_and, if_true]
    cases (lkf q z.2 y8.1.Events 0 (0, false)).2 <;> simp [jn]
   ·have c2 : 0 ≤ x.2 := by omega
    simp only [c1, c2, decide_false, decide_true, Bool.false_and, cond_false, cond_true, if_false, jn, Option.bind_some]
    by_cases c3 : mayP y6.1 y8.1 x.2 q z.2 <;> simp [c3]
  simp only [foldL, hb, Option.bind_some]
  rw [ih _ _ fun y hy => hl y (by simp [hy])]
  congr 1
  by_cases c1 : see d a x.2 z.2 q = true
  ·simp [c1]
  ·simp [c1]
theorem look_step {d : GDirectory} {a : GEstate} (g : GoodD d) (h : Good a) {c : Int} (h0 : 0 ≤ c) (h1 : c ≤ 63) (y6 : GDirectory × GTape) (e6 : y6.1 = d) (y8 : GEstate × GTape) (e8 : y8.1 = a) (y10 : Int × GTape) (e10 : y10.1 = c) (x : Int × Int) (hp : -1 ≤ x.2) (t : Int) (t0 : 0 ≤ t) (t1 : t < 45) :
  F_1o y6 y8 y10 x (-1, t) = some (.nx (if (pla d a c x.2 t).isSome = true then t else -1, t + 1)) := by
 have i1 : in64 (t + 1) = true := in64_smD (by omega) (by omega)
 have e1 : (decide (t < 45) && decide ((-1 : Int) < 0)) = true := by rw [decide_eq_true t1]; rfl
 simp only [F_1o, grp, e1, cond_true, e8, e10, rWhere_eq h h0 h1, Option.bind_some]
 rw [look_fold g h h0 h1 y6 e6 y8 e8 x hp _ _ _ _ (whr_mem h h0 h1 _)]
 simp only [Option.bind_some, chk_true i1, pla_iff]
theorem look_stop (y6 : GDirectory × GTape) (y8 : GEstate × GTape) (y10 : Int × GTape) (x : Int × Int) (f t : Int) (h : ¬ (t < 45 ∧ f < 0)) : F_1o y6 y8 y10 x (f, t) = some (.ex f) := by
 have e1 : (decide (t < 45) && decide (f < 0)) = false := by
  rw [Bool.eq_false_iff]; intro q
  simp only [Bool.and_eq_true, decide_eq_true_eq] at q
  exact h q
 simp only [F_1o, grp, e1, cond_false]
theorem look_ok {d : GDirectory} {a : GEstate} (g : GoodD d) (h : Good a) {c : Int} (h0 : 0 ≤ c) (h1 : c ≤ 63) (y6 : GDirectory × GTape) (e6 : y6.1 = d) (y8 : GEstate × GTape) (e8 : y8.1 = a) (y10 : Int × GTape) (e10 : y10.1 = c) (x : Int × Int) (hp : -1 ≤ x.2) :
  ∀ (j n : Nat), n + j = 45 → (∀ m : Nat, m < n → ¬ (pla d a c x.2 m).isSome = true) → Ok (loop (F_1o y6 y8 y10 x) ((-1), (n : Int))) fun r => (r = -1 ∧ ∀ m : Nat, m < 45 → ¬ (pla d a c x.2 m).isSome = true) ∨ ∃ m : Nat, r = m ∧ m < 45 ∧ (pla d a c x.2 m).isSome = true ∧ ∀ k : Nat, k < m → ¬ (pla d a c x.2 k).isSome = true
 | 0, n, hj, hn => by
  rw [loop_eq, look_stop _ _ _ _ _ _ (by omega)]
  exact Ok.ret (.inl ⟨rfl, fun m hm => hn m (by omega)⟩)
 | j + 1, n, hj, hn => by
  rw [loop_eq, look_step g h h0 h1 y6 e6 y8 e8 y10 e10 x hp _ (by omega) (by omega)]
  by_cases q : (pla d a c x.2 n).isSome = true
  ·rw [if_pos q]
   show Ok (loop _ ((n : Int), (n : Int) + 1)) _
   rw [loop_eq, look_stop _ _ _ _ _ _ (by omega)]
   exact Ok.ret (.inr ⟨n, rfl, by omega, q, hn⟩)
  ·rw [if_neg q]
   have := look_ok g h h0 h1 y6 e6 y8 e8 y10 e10 x hp j (n + 1) (by omega) fun m hm => by
    by_cases e : m = n
    ·subst e; exact q
    ·exact hn m (by omega)
   exact this
theorem leak_ok {d : GDirectory} {a : GEstate} (g : GoodD d) (h : Good a) {c : Int} (h0 : 0 ≤ c) (h1 : c ≤ 63) {p : Int} : Ok (F_c d a c p) fun y => (sin d a c p = none → y.2 = false) ∧ ∀ t, sin d a c p = some t → y.2 = true ∧ F_1n d a c ⟨p, t⟩ y.1 = some true := by
 have hen := h.len
 unfold F_c
 rw [Since_eq g h h0 h1]
 simp only [Option.bind_some]
 cases hs : sin d a c p with
 | none =>
  simp only [fst0, Bool.not_false, cond_true]
  exact Ok.ret ⟨fun _ => rfl, fun t ht => by cases ht⟩
 | some t =>
  simp only [fst0, Bool.not_true, cond_false, place_eqX g h h0 h1, Option.bind_some]
  have hq : (pla d a c p t).isSome = true := by
   have := List.find?_some hs
   simpa using this
  obtain ⟨x, hx⟩ := Option.isSome_iff_exists.1 hq
  have tt := sin_time g h hs
  have hxm := List.mem_of_find?_eq_some hx
  have hxs : see d a p t x = true := by have := List.find?_some hx; simpa using this
  obtain ⟨⟨x0, x1⟩, hh⟩ := (mem_whr h h0 h1).1 hxm
  rw [hx]
  simp only [fst0]
  refine Ok.bind (way_ok h h0 h1 (t := t) x0 x1) fun w hw => ?_
  have hw := (hw hh).2
  have hk := known_of h x0 x1
  have hpr : ∀ r : GReading, r.Place = x → r.Time = t → (p ≠ -1 → F_1m d a p r = some true) → (p = -1 → r.Grant = -1 ∧ r.Chain = [] ∧ F_z a x t r.Link = some true) → F_1n d a c ⟨p, t⟩ ⟨w.1, r⟩ = some true := fun r r1 r2 r3 r4 => by
   simp only [F_1n, echeck_eq g h h0 h1, Option.bind_some, decide_true, Bool.not_true, Bool.false_or, r1, r2, decide_eq_false (show ¬ t < 0 by omega), decide_eq_false (show ¬ 1099511627776 < t by omega), grp, cond_false, Bool.or_self, cproves_ok h h0 h1 x0 x1 hw]
   by_cases e : p = -1
   ·obtain ⟨z1, z2, z3⟩ := r4 e
    simp only [e, z1, z2, z3, decide_true, Bool.not_true, cond_false, List.length_nil, Int.natCast_zero, Bool.and_self, cond_true, Option.bind_some, jn]
   ·simp only [e, decide_false, Bool.not_false, cond_true, r3 e, Option.bind_some]
  refine Ok.ite (fun c1 => ?_) fun c1 => ?_
  ·have c1 : p ≠ -1 := by simpa using c1
   unfold see at hxs
   rw [if_neg c1] at hxs
   have hm := of_decide_eq_true hxs
   refine Ok.bind (why_ok g h p x t) fun y hy => Ok.ret ⟨fun e => (by cases e), fun t' e => ?_⟩
   cases e
   obtain ⟨y1, y2, y3, y4⟩ := hy.2.1 hm
   exact ⟨rfl, hpr _ y1 y2 (fun _ => by rw [proves_eq g h p _ (by omega), decide_eq_true y4]) fun e => absurd e c1⟩
  ·have c1 : p = -1 := by simpa using c1
   unfold see at hxs
   rw [if_pos c1] at hxs
   rw [linked_eq t hk]
   simp only [Option.bind_some]
   refine Ok.ret ⟨fun e => (by cases e), fun t' e => ?_⟩
   cases e
   refine ⟨rfl, hpr _ rfl rfl (fun e => absurd c1 e) fun _ => ⟨rfl, rfl, ?_⟩⟩
   rw [← refL_lkf] at hxs ⊢
   obtain ⟨k, k1, k2, k3⟩ := refL_open (Nat.le_refl _) hxs
   rw [k2, link_eq (by omega), decide_eq_true]
   exact ⟨by show 0 ≤ (k : Int); omega, by show (k : Int) < _; omega, by show openP x t a.Events (k : Int).toNat; rw [Int.toNat_natCast]; exact k3⟩
theorem expo_split (d : GDirectory) (a : GEstate) (c : Int) : ∀ (m n : Nat) (k : Int), expo d a c (m + n) k = expo d a c m k ++ expo d a c n (k + m)
 | 0, n, k => by simp [expo]
 | m + 1, n, k => by
  rw [Nat.succ_add, expo, expo_split d a c m n (k + 1), expo, List.append_assoc]
  have : k + 1 + (m : Int) = k + ((m + 1 : Nat) : Int) := by simp; omega
  rw [this]
theorem readers30 (l : List Int) : F_34 l = some true := by
 refine Ok.eq ?_
 unfold F_34
 have haw : Ok (F_1b.bind fun y => some y) (· = true) := by rw [awake30]; exact ⟨true, rfl, rfl⟩
 refine Ok.ite (fun _ => haw) fun c => ?_
 have c : ¬ 400 < (l.length : Int) := by simpa using c
 refine Ok.bind (dir_ok (t := ⟨l, 0⟩) ⟨Int.le_refl 0, by show l.length ≤ 400; omega⟩) fun y6 hd => ?_
 obtain ⟨gd, d1, d2, d3, d4, d5⟩ := hd
 refine Ok.bind (estate_ok d5 d2) fun y8 he => ?_
 obtain ⟨ga, a1, a2, a3, a4⟩ := he
 refine Ok.bind (next_ok a4 (by omega)) fun y10 hc => ?_
 have h0 : 0 ≤ y10.1 := hc.1
 have h1 : y10.1 ≤ 63 := by omega
 rw [All_eq gd ga h0 h1]
 simp only [Option.bind_some, decide_true, Bool.not_true, cond_false]
 have hsin : ∀ p t, sin y6.1 y8.1 y10.1 p = some t → 0 ≤ t ∧ t < 45 := fun p t hs => by
  have ht : t ∈ tms y6.1 y8.1 := List.mem_of_find?_eq_some hs
  rcases mem_tms.1 ht with ⟨x, hx, e⟩ | ⟨x, hx, e⟩
  ·have := (ga.ev x hx).1; have := a3 x hx; omega
  ·have := (gd.ev x hx).2.1; have := d4 x hx; omega
 have hkl := gd.kl
 have hel : (exps y6.1 y8.1 y10.1).length ≤ 25 := by
  have := expo_len y6.1 y8.1 y10.1 (y6.1.Kinds.length + 1) (-1)
  unfold exps; omega
 refine Ok.bind (Ok.loop (Q := fun r : Sum Int Bool => r = .inl ((exps y6.1 y8.1 y10.1).length : Int)) (fun x : Int × Int => ∃ k : Nat, x.2 = (k : Int) - 1 ∧ k ≤ y6.1.Kinds.length + 1 ∧ x.1 = ((expo y6.1 y8.1 y10.1 k (-1)).length : Int)) (fun x => (y6.1.Kinds.length - x.2 + 1).toNat) (fun x hx => ?_) (0, (-1)) ⟨0, rfl, by omega, rfl⟩) fun r hr => ?_
 ·obtain ⟨k, hk1, hk2, hk3⟩ := hx
  unfold F_45
  dsimp only
  refine Ok.ite (fun c1 => ?_) fun c1 => ?_
  ·have c1 := of_decide_eq_true c1
   have hkk : k ≤ y6.1.Kinds.length := by omega
   have hsplit : exps y6.1 y8.1 y10.1 = expo y6.1 y8.1 y10.1 k (-1) ++ expo y6.1 y8.1 y10.1 (y6.1.Kinds.length + 1 - k) (-1 + (k : Int)) := by
    rw [← expo_split]; unfold exps; rw [show k + (y6.1.Kinds.length + 1 - k) = y6.1.Kinds.length + 1 by omega]
   have hp : (-1 : Int) + (k : Int) = x.2 := by omega
   have hxl : 0 ≤ x.1 ∧ x.1 ≤ 25 := by
    have := expo_len y6.1 y8.1 y10.1 k (-1); omega
   refine Ok.jn (P := fun o : Fl Int Bool => o = .nx (((expo y6.1 y8.1 y10.1 (k + 1) (-1)).length : Nat) : Int)) (Ok.bind (look_ok gd ga h0 h1 y6 rfl y8 rfl y10 rfl x (by omega) 45 0 rfl (fun m hm => by omega)) fun r hr => ?_) fun o ho => ?_
   ·have hle : Ok (F_c y6.1 y8.1 y10.1 x.2) _ := leak_ok gd ga h0 h1
    rcases hr with ⟨rfl, hr⟩ | ⟨m, rfl, m1, m2, m3⟩
    ·have hn : sin y6.1 y8.1 y10.1 x.2 = none := by
      cases hs : sin y6.1 y8.1 y10.1 x.2 with
      | none => rfl
      | some t =>
       obtain ⟨t0, t1⟩ := hsin _ _ hs
       have := List.find?_some hs
       refine absurd ?_ (hr t.toNat (by omega))
       rw [Int.toNat_of_nonneg t0]; simpa using this
     rw [show decide ((-1 : Int) < 0) = true from rfl, cond_true]
     refine Ok.bind hle fun y hy => ?_
     have hstep : expo y6.1 y8.1 y10.1 (k + 1) (-1) = expo y6.1 y8.1 y10.1 k (-1) := by rw [expo_snoc, hp, hn]; simp
     rw [hy.1 hn, cond_false, hstep]
     exact Ok.ret (by rw [hk3])
    ·have hn := sin_least gd ga h0 h1 m2 m3
     rw [decide_eq_false (show ¬ (m : Int) < 0 by omega), cond_false]
     have hlen : (expo y6.1 y8.1 y10.1 k (-1)).length < (exps y6.1 y8.1 y10.1).length := by
      rw [hsplit, List.length_append, show y6.1.Kinds.length + 1 - k = (y6.1.Kinds.length - k) + 1 by omega, expo, hp, hn]
      simp
     have hget : (exps y6.1 y8.1 y10.1).getD x.1.toNat default = ⟨x.2, (m : Int)⟩ := by
      have : x.1.toNat = (expo y6.1 y8.1 y10.1 k (-1)).length := by omega
      rw [this, hsplit, show y6.1.Kinds.length + 1 - k = (y6.1.Kinds.length - k) + 1 by omega, expo, hp, hn, List.getD_eq_getElem?_getD, List.getElem?_append_right (Nat.le_refl _)]
      simp
     rw [decide_eq_false (show ¬ ((exps y6.1 y8.1 y10.1).length : Int) ≤ x.1 by omega), cond_false]
     refine Ok.chk (inb_iff.2 ⟨by omega, by omega⟩) ?_
     rw [hget]
     simp only [decide_true, Bool.and_self, Bool.not_true, cond_false]
     refine Ok.bind hle fun y hy => ?_
     obtain ⟨y1, y2⟩ := hy.2 _ hn
     rw [y1]
     simp only [Bool.not_true, cond_false]
     refine Ok.chk (inb_iff.2 ⟨by omega, by omega⟩) ?_
     rw [y2]
     simp only [Option.bind_some, Bool.not_true, cond_false]
     refine Ok.chk (in64_smD (by omega) (by omega)) (Ok.ret ?_)
     have hstep : expo y6.1 y8.1 y10.1 (k + 1) (-1) = expo y6.1 y8.1 y10.1 k (-1) ++ [⟨x.2, (m : Int)⟩] := by rw [expo_snoc, hp, hn]
     rw [hstep, hk3]
     simp
   ·subst ho
    rw [Fl_nx]
    refine Ok.chk (in64_smD (by omega) (by omega)) (Ok.ret ⟨⟨k + 1, by show x.2 + 1 = _; omega, by omega, rfl⟩, ?_⟩)
    show (y6.1.Kinds.length - (x.2 + 1) + 1).toNat < (y6.1.Kinds.length - x.2 + 1).toNat
    omega
  ·have c1 := of_decide_eq_false c1
   have : k = y6.1.Kinds.length + 1 := by omega
   subst this
   refine Ok.ret ?_
   show Sum.inl x.1 = _
   rw [hk3]; rfl
 ·subst hr
  simp only [Sum.elim_inl, decide_true, cond_true, jn]
  refine Ok.bind (P := (· = true)) haw fun j hj => Ok.ret hj
end Go.Ab
