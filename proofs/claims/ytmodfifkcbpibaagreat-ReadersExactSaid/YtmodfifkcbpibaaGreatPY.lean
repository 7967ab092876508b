/- The reference's estates are the program's: what is valid. -/
import Derived.Test.YtmodfifkcbpibaaGreatPX
import Derived.Test.YtmodfifkcbpibaaGreatLC
import Derived.Test.YtmodfifkcbpibaaGreatLD
set_option linter.all false
set_option linter.all false
namespace Go.Ab
open Go.Proofs
theorem rin_eq (n lo hi : Int) : F_6 n lo hi = some (decide (lo ≤ n ∧ n ≤ hi)) := by simp [F_6, grp]
open Classical in
theorem event_eq (a : GEstate) (x : GAccess) (h1 : 1 ≤ a.Places) (h2 : a.Places ≤ 16) : F_1l a x = some (decide (xok a.Places x)) := by
 have hin : ∀ o : Option Bool, chk (in64 (a.Places - 1)) o = o := fun o => chk_true (in64_sm (n := a.Places - 1) (by omega) (by omega))
 obtain ⟨T, K, P, pr, U, C, F⟩ := x
 simp only [F_1l, rin_eq, Option.bind_some, jn, grp, hin, decide_true, Bool.true_and]
 by_cases t1 : 0 ≤ T ∧ T ≤ 1099511627776
 · by_cases t2 : 0 ≤ P ∧ P ≤ a.Places - 1
   · simp only [t1, t2, and_self, decide_true, Bool.not_true, cond_false]
     by_cases k1 : K = 1
     · subst k1
       by_cases c1 : U = 0 <;> by_cases c2 : C = 0 <;> by_cases c3 : F = 0 <;> simp [xok, c1, c2, c3, t1, t2]
     by_cases k2 : K = 2
     · subst k2
       by_cases c1 : U = 0 <;> by_cases c2 : C = 0 <;> by_cases c3 : F = 0 <;> simp [xok, c1, c2, c3, t1, t2]
     by_cases k3 : K = 3
     · subst k3
       by_cases c1 : pr = 0 <;> by_cases c2 : C = 0 <;> by_cases c3 : F = 0 <;> by_cases c4 : T < U <;> simp [xok, c1, c2, c3, c4, t1, t2]
     by_cases k4 : K = 4
     · subst k4
       by_cases c1 : pr = 0 <;> by_cases c2 : C = 0 <;> by_cases c3 : F = 0 <;> by_cases c4 : U = 0 <;> simp [xok, c1, c2, c3, c4, t1, t2]
     by_cases k5 : K = 5
     · subst k5
       by_cases c1 : pr = 0 <;> by_cases c2 : U = 0 <;> by_cases c3 : F = 0 <;> simp [xok, c1, c2, c3, t1, t2]
     by_cases k6 : K = 6
     · subst k6
       by_cases c1 : pr = 0 <;> by_cases c2 : U = 0 <;> by_cases c3 : F = 0 <;> simp [xok, c1, c2, c3, t1, t2]
     by_cases k7 : K = 7
     · subst k7
       by_cases c1 : pr = 0 <;> by_cases c2 : U = 0 <;> by_cases c3 : C = 0 <;> by_cases c4 : F = P <;> simp [xok, c1, c2, c3, c4, t1, t2] <;> omega
     · simp [xok, k1, k2, k3, k4, k5, k6, k7, t1, t2]
   · have : ¬ xok a.Places ⟨T, K, P, pr, U, C, F⟩ := fun h => t2 ⟨h.2.2.1, h.2.2.2.1⟩
     simp [t1, t2, this]
 · have : ¬ xok a.Places ⟨T, K, P, pr, U, C, F⟩ := fun h => t1 ⟨h.1, h.2.1⟩
   simp [t1, this]
open Classical in
theorem validL_eq (a : GEstate) (h1 : 1 ≤ a.Places) (h2 : a.Places ≤ 16) (hn : a.Events.length ≤ 120) : ∀ (l : List GAccess) (k : Nat) (last : Int), a.Events.drop k = l → (0 < k → (a.Events.getD (k - 1) default).Time = last) → (k = 0 → last = 0) → k ≤ a.Events.length →
   forL (F_2s a) l (k : Int) () = some (if chain a.Places last l then .nx () else .ex false)
 | [], k, last, hd, hl, h0, hk => by simp [forL, chain]
 | x :: r, k, last, hd, hl, h0, hk => by
   have hlt : k < a.Events.length := by
     rcases Nat.lt_or_ge k a.Events.length with h | h
     · exact h
     · rw [List.drop_eq_nil_of_le h] at hd; cases hd
   rw [List.drop_eq_getElem_cons hlt] at hd
   obtain ⟨e1, e2⟩ := List.cons.inj hd
   have hx : (a.Events.getD (k + 1 - 1) default) = x := by rw [Nat.add_sub_cancel, List.getD_eq_getElem?_getD, List.getElem?_eq_getElem hlt]; exact e1
   have ih := fun last h => validL_eq a h1 h2 hn r (k + 1) last e2 h (by omega) hlt
   simp only [forL, F_2s, event_eq a x h1 h2, Option.bind_some, chain]
   by_cases c : xok a.Places x
   · simp only [c, decide_true, Bool.not_true, cond_false, true_and]
     have ih' := ih x.Time (fun _ => by rw [hx])
     rw [show ((k + 1 : Nat) : Int) = (k : Int) + 1 by simp] at ih'
     by_cases ck : 0 < k
     · have e3 : decide (0 < (k : Int)) = true := decide_eq_true (by omega)
       have e4 : in64 ((k : Int) - 1) = true := in64_sm (by omega) (by omega)
       have e5 : inb ((k : Int) - 1) a.Events.length = true := inb_iff.2 ⟨by omega, by omega⟩
       have e6 : ((k : Int) - 1).toNat = k - 1 := by omega
       simp only [e3, cond_true, chk_true e4, chk_true e5, e6, hl ck]
       by_cases c3 : x.Time < last
       · have : ¬ last ≤ x.Time := by omega
         simp [c3, this, Fl_ex]
       · have : last ≤ x.Time := by omega
         simp [c3, this, Fl_nx, ih']
     · have e3 : decide (0 < (k : Int)) = false := decide_eq_false (by omega)
       have hk0 : k = 0 := by omega
       have : last ≤ x.Time := by rw [h0 hk0]; exact c.1
       simp only [e3, cond_false, Option.bind_some, Fl_nx, this, true_and, ih']
   · simp [c, Fl_ex]
open Classical in
theorem valid_eq (a : GEstate) : F_17 a = some (decide (Good a)) := by
 simp only [F_17, rin_eq, Option.bind_some, grp]
 by_cases c : 1 ≤ a.Places ∧ a.Places ≤ 16
 · by_cases c2 : a.Events.length ≤ 120
   · have c' : (!decide (1 ≤ a.Places ∧ a.Places ≤ 16) || decide (120 < (a.Events.length : Int))) = false := by simp [c]; omega
     have h := validL_eq a c.1 c.2 c2 a.Events 0 0 rfl (fun h => by omega) (fun _ => rfl) (by omega)
     simp only [show ((0 : Nat) : Int) = 0 from rfl] at h
     simp only [c', cond_false, h, Option.bind_some]
     by_cases hc : chain a.Places 0 a.Events
     · have : Good a := (good_iff a).2 ⟨c, c2, hc⟩
       simp [this, hc, Fl_nx]
     · have : ¬ Good a := fun h => hc ((good_iff a).1 h).2.2
       simp [this, hc, Fl_ex]
   · have c' : (!decide (1 ≤ a.Places ∧ a.Places ≤ 16) || decide (120 < (a.Events.length : Int))) = true := by simp; omega
     have : ¬ Good a := fun h => c2 h.len
     simp only [c', cond_true, this, decide_false]
 · have : ¬ Good a := fun h => c ⟨h.lo, h.hi⟩
   simp [c, this]
open Classical in
theorem rplace_eq (a : GEstate) (p : Int) : F_3 a p = F_1 a p := by
 rw [known_eq]
 simp only [F_3, valid_eq, Option.bind_some, jn]
 by_cases h : Good a
 · have := h.lo; have := h.hi
   simp [h, rin_eq, chk_true (in64_sm (n := a.Places - 1) (by omega) (by omega))]
 · simp [h]
theorem known_cases (a : GEstate) (p : Int) : (F_1 a p = some true ∧ Good a ∧ 0 ≤ p ∧ p ≤ a.Places - 1) ∨ F_1 a p = some false := by
 classical
 rw [known_eq]
 by_cases h : Good a ∧ 0 ≤ p ∧ p ≤ a.Places - 1
 · left; exact ⟨congrArg some (decide_eq_true h), h⟩
 · right; exact congrArg some (decide_eq_false h)
theorem aget_aput {β : Type} (q k : Int) (v : β) : ∀ m : List (Int × β), aget q (aput k v m) = if q = k then some v else aget q m
 | [] => by by_cases e : q = k <;> simp [aput, aget, e]
 | (a, b) :: r => by
   by_cases e : k = a
   · subst e
     by_cases e2 : q = k <;> simp [aput, aget, e2]
   · simp only [aput, if_neg e, aget, aget_aput q k v r]
     by_cases e2 : q = a
     · subst e2
       have : ¬ q = k := fun h => e h.symm
       simp [this]
     · simp [e2]
theorem aget_none {β : Type} {q : Int} : ∀ {m : List (Int × β)}, q ∉ m.map Prod.fst → aget q m = none
 | [], h => rfl
 | (a, b) :: r, h => by
   simp only [List.map_cons, List.mem_cons, not_or] at h
   simp only [aget, if_neg h.1, aget_none h.2]
theorem aget_some {β : Type} {q : Int} : ∀ {m : List (Int × β)}, q ∈ m.map Prod.fst → ∃ v, aget q m = some v
 | (a, b) :: r, h => by
   by_cases e : q = a
   · exact ⟨b, by simp [aget, e]⟩
   · have : q ∈ r.map Prod.fst := by simpa [e] using h
     obtain ⟨v, hv⟩ := aget_some this
     exact ⟨v, by simp [aget, e, hv]⟩
theorem aget_isSome {β : Type} (q : Int) (m : List (Int × β)) : (aget q m).isSome = decide (q ∈ m.map Prod.fst) := by
 by_cases h : q ∈ m.map Prod.fst
 · obtain ⟨v, hv⟩ := aget_some h
   rw [hv]; exact (decide_eq_true h).symm
 · rw [aget_none h]; exact (decide_eq_false h).symm
theorem aget_adel {β : Type} (q k : Int) : ∀ m : List (Int × β), (m.map Prod.fst).Nodup → aget q (adel k m) = if q = k then none else aget q m
 | [], h => by simp [adel, aget]
 | (a, b) :: r, h => by
   simp only [List.map_cons, List.nodup_cons] at h
   by_cases e : k = a
   · subst e
     by_cases e2 : q = k
     · subst e2
       simp only [adel, if_true]
       exact aget_none h.1
     · simp [adel, aget, e2]
   · simp only [adel, if_neg e, aget, aget_adel q k r h.2]
     by_cases e2 : q = a
     · subst e2
       have : ¬ q = k := fun h => e h.symm
       simp [this]
     · simp [e2]
theorem grf_nodup (p t : Int) (l : List GAccess) : ((grf p t l).map Prod.fst).Nodup := by rw [grf_keys]; exact keysf_nodup p t l
theorem grf_snoc (p t : Int) (l : List GAccess) (x : GAccess) : grf p t (l ++ [x]) = gst p t l.length x (grf p t l) := by
 simp only [grf, foldP_append, foldP, Int.zero_add]
def told (p t q : Int) (l : List GAccess) (n : Nat) : Prop :=
 n < l.length ∧ (l.getD n default).Kind = 1 ∧ (l.getD n default).Place = p ∧ (l.getD n default).Principal = q ∧ (l.getD n default).Time ≤ t ∧ ∀ y ∈ l.drop (n + 1), ¬ (y.Kind = 2 ∧ y.Place = p ∧ y.Principal = q ∧ y.Time ≤ t)
theorem told_snoc {p t q : Int} {l : List GAccess} {n : Nat} {x : GAccess} (h : told p t q l n) (hx : ¬ (x.Kind = 2 ∧ x.Place = p ∧ x.Principal = q ∧ x.Time ≤ t)) : told p t q (l ++ [x]) n := by
 obtain ⟨h1, h2, h3, h4, h5, h6⟩ := h
 have e : (l ++ [x]).getD n default = l.getD n default := by rw [List.getD_eq_getElem?_getD, List.getD_eq_getElem?_getD, List.getElem?_append_left h1]
 refine ⟨by simp; omega, by rw [e]; exact h2, by rw [e]; exact h3, by rw [e]; exact h4, by rw [e]; exact h5, fun y hy => ?_⟩
 rw [List.drop_append_of_le_length (by omega), List.mem_append, List.mem_singleton] at hy
 rcases hy with hy | rfl
 · exact h6 y hy
 · exact hx
theorem grant_told (p t q : Int) (l : List GAccess) (k : Int) (h : aget q (grf p t l) = some k) : ∃ n : Nat, k = n ∧ told p t q l n := by
 induction l using revList_ind generalizing k with
 | h0 => cases h
 | h1 l x ih =>
   rw [grf_snoc] at h
   unfold gst at h
   split at h
   · rename_i c
     obtain ⟨n, e, hn⟩ := ih k h
     exact ⟨n, e, told_snoc hn (by omega)⟩
   · rename_i c
     split at h
     · rename_i c2
       rw [aget_aput] at h
       split at h
       · rename_i c3
         cases h
         refine ⟨l.length, rfl, by simp, ?_⟩
         have e : (l ++ [x]).getD l.length default = x := by simp
         rw [e]
         refine ⟨c2, by omega, c3.symm, by omega, fun y hy => ?_⟩
         rw [List.drop_eq_nil_of_le (by simp)] at hy
         cases hy
       · obtain ⟨n, e, hn⟩ := ih k h
         exact ⟨n, e, told_snoc hn (by omega)⟩
     · split at h
       · rw [aget_adel _ _ _ (grf_nodup p t l)] at h
         split at h
         · cases h
         · rename_i c3
           obtain ⟨n, e, hn⟩ := ih k h
           exact ⟨n, e, told_snoc hn fun hh => c3 hh.2.2.1.symm⟩
       · obtain ⟨n, e, hn⟩ := ih k h
         exact ⟨n, e, told_snoc hn (by omega)⟩
open Classical in
theorem rreader_eq {d : GDirectory} (g : GoodD d) (p : Int) : F_s d p = some (decide (rdr d p)) := by
 have hk := g.kl
 have hx : F_4 d p = some (decide (0 ≤ p ∧ p < d.Kinds.length)) := by
   unfold F_4
   rw [chk_true (in64_smD (by omega) (by omega))]
   simp only [F_5, grp, Option.bind_some]
   congr 1
   by_cases q : 0 ≤ p ∧ p < (d.Kinds.length : Int)
   · rw [decide_eq_true q, decide_eq_true q.1, decide_eq_true (show p ≤ (d.Kinds.length : Int) - 1 by omega)]; rfl
   · rw [decide_eq_false q]
     by_cases q1 : 0 ≤ p
     · rw [decide_eq_true q1, decide_eq_false (show ¬ p ≤ (d.Kinds.length : Int) - 1 by omega)]; rfl
     · rw [decide_eq_false q1]; rfl
 unfold F_s
 simp only [hx, Option.bind_some, jn]
 by_cases q : 0 ≤ p ∧ p < (d.Kinds.length : Int)
 · simp only [decide_eq_true q, cond_true, chk_true (inb_iff.2 q), Option.bind_some]
   by_cases w : d.Kinds.getD p.toNat default = 2
   · have : ¬ rdr d p := fun h => h.2.2 w
     rw [decide_eq_true w, decide_eq_false this]; rfl
   · have : rdr d p := ⟨q.1, q.2, w⟩
     rw [decide_eq_false w, decide_eq_true this]; rfl
 · have : ¬ rdr d p := fun h => q ⟨h.1, h.2.1⟩
   simp [decide_eq_false q, this]
end Go.Ab
namespace Go.Ab
open Go.Proofs
def rgst (p q t : Int) (i : Int) (x : GAccess) (s : Int) : Int :=
 if t < x.Time ∨ x.Place ≠ p ∨ x.Principal ≠ q then s else if x.Kind = 1 then i else if x.Kind = 2 then -1 else s
theorem rgst_body (p q t k : Int) (x : GAccess) (s : Int) : F_2t p q t k x s = some (rgst p q t k x s) := by
 simp only [F_2t, grp, rgst]
 by_cases c : t < x.Time ∨ x.Place ≠ p ∨ x.Principal ≠ q
 · have c' : (decide (t < x.Time) || !decide (x.Place = p) || !decide (x.Principal = q)) = true := by
     simp only [Bool.or_eq_true, decide_eq_true_eq, Bool.not_eq_true', decide_eq_false_iff_not]; omega
   simp only [c', cond_true, if_pos c]
 · have c' : (decide (t < x.Time) || !decide (x.Place = p) || !decide (x.Principal = q)) = false := by
     simp only [Bool.or_eq_false_iff, decide_eq_false_iff_not, Bool.not_eq_false', decide_eq_true_eq]; omega
   simp only [c', cond_false, if_neg c]
   by_cases c2 : x.Kind = 1
   · simp [c2]
   · by_cases c3 : x.Kind = 2 <;> simp [c2, c3]
theorem rgrant_aget (p q t : Int) (l : List GAccess) : foldP (rgst p q t) l 0 (-1) = (aget q (grf p t l)).getD (-1) := by
 induction l using revList_ind with
 | h0 => rfl
 | h1 l x ih =>
   rw [foldP_append, grf_snoc]
   simp only [foldP, Int.zero_add, ih, rgst, gst]
   by_cases c : t < x.Time ∨ x.Place ≠ p
   · rw [if_pos (by omega), if_pos c]
   · rw [if_neg c]
     by_cases cq : x.Principal = q
     · rw [if_neg (by omega)]
       by_cases c2 : x.Kind = 1
       · rw [if_pos c2, if_pos c2, aget_aput, if_pos cq.symm]; rfl
       · rw [if_neg c2, if_neg c2]
         by_cases c3 : x.Kind = 2
         · rw [if_pos c3, if_pos c3, aget_adel _ _ _ (grf_nodup p t l), if_pos cq.symm]; rfl
         · rw [if_neg c3, if_neg c3]
     · have cq' : ¬ q = x.Principal := fun h => cq h.symm
       rw [if_pos (by omega)]
       by_cases c2 : x.Kind = 1
       · rw [if_pos c2, aget_aput, if_neg cq']
       · rw [if_neg c2]
         by_cases c3 : x.Kind = 2
         · rw [if_pos c3, aget_adel _ _ _ (grf_nodup p t l), if_neg cq']
         · rw [if_neg c3]
theorem rgrantx_eq (a : GEstate) (p q t : Int) : F_18 a p q t = some ((aget q (grf p t a.Events)).getD (-1)) := by
 simp only [F_18, foldL_plain (rgst p q t) (rgst_body p q t), Option.bind_some, rgrant_aget]
theorem aget_nonneg {p t q k : Int} {l : List GAccess} (h : aget q (grf p t l) = some k) : 0 ≤ k := by
 obtain ⟨n, rfl, _⟩ := grant_told p t q l k h; omega
theorem rGrant_eq (a : GEstate) (p q t : Int) : F_1m a p q t = F_o a p q t := by
 simp only [F_1m, rplace_eq]
 rcases known_cases a p with ⟨h, _⟩ | h
 · rw [grant_eq q t h, h]
   simp only [Option.bind_some, Bool.not_true, cond_false, rgrantx_eq]
   cases ha : aget q (grf p t a.Events) with
   | none => rfl
   | some k =>
     have := aget_nonneg ha
     simp [this]
 · simp [h, F_o]
theorem pairwise_range (n : Nat) : ((List.range n).map fun i : Nat => (i : Int)).Pairwise fun x y => x < y := by
 rw [List.pairwise_map]
 exact List.pairwise_lt_range.imp fun h => by omega
theorem rGranted_eq (a : GEstate) (p t : Int) : F_z a p t = F_m a p t := by
 simp only [F_z, rplace_eq]
 rcases known_cases a p with ⟨h, g, _⟩ | h
 · rw [granted_eq t g.len h, h]
   simp only [Option.bind_some, Bool.not_true, cond_false]
   have key : ∀ q : Int, decide (0 ≤ (aget q (grf p t a.Events)).getD (-1)) = decide (q ∈ keysf p t a.Events) := fun q => by
     have e : (aget q (grf p t a.Events)).isSome = decide (q ∈ keysf p t a.Events) := by rw [aget_isSome, grf_keys]
     rw [← e]
     cases ha : aget q (grf p t a.Events) with
     | none => rfl
     | some k => simpa using aget_nonneg ha
   refine Ok.eq (Ok.bind (Ok.loop (Q := fun r => r = srtI (keysf p t a.Events)) (fun x => 0 ≤ x.1 ∧ x.1 ≤ 24 ∧ x.2 = ((List.range x.1.toNat).map fun i : Nat => (i : Int)).filter fun q => decide (q ∈ keysf p t a.Events)) (fun x => (24 - x.1).toNat) (fun x hx => ?_) _ ⟨by omega, by omega, rfl⟩) fun r hr => Ok.ret hr)
   obtain ⟨i, out⟩ := x
   obtain ⟨h1, h2, h3⟩ := hx
   simp only at h1 h2 h3
   subst h3
   have hl := List.length_filter_le (fun q => decide (q ∈ keysf p t a.Events)) ((List.range i.toNat).map fun i : Nat => (i : Int))
   simp only [List.length_map, List.length_range] at hl
   unfold F_3o
   refine Ok.ite (fun c => ?_) fun c => ?_
   · have c : i < 24 := by simpa using c
     rw [rgrantx_eq]
     simp only [Option.bind_some, key]
     have e1 : (i + 1).toNat = i.toNat + 1 := by omega
     refine Ok.jn (P := fun j => j = ((List.range (i + 1).toNat).map fun i : Nat => (i : Int)).filter fun q => decide (q ∈ keysf p t a.Events)) (Ok.ite (fun cc => Ok.chk (room_sm (by simp only [List.length_singleton]; omega)) (Ok.ret ?_)) fun cc => Ok.ret ?_) fun j hj => ?_
     · rw [e1, List.range_succ, List.map_append, List.filter_append]
       have e2 : ((i.toNat : Nat) : Int) = i := by omega
       simp only [List.map_cons, List.map_nil, e2, List.filter_cons, cc, if_true, List.filter_nil]
     · rw [e1, List.range_succ, List.map_append, List.filter_append]
       have e2 : ((i.toNat : Nat) : Int) = i := by omega
       simp [e2, cc]
     · refine Ok.chk (in64_sm (by omega) (by omega)) (Ok.ret ?_)
       exact ⟨⟨by show 0 ≤ i + 1; omega, by show i + 1 ≤ 24; omega, hj⟩, by show (24 - (i + 1)).toNat < (24 - i).toNat; omega⟩
   · have c : ¬ i < 24 := by simpa using c
     have : i = 24 := by omega
     subst this
     refine Ok.ret ?_
     show _ = _
     have hsr : (((List.range (Int.toNat 24)).map fun i : Nat => (i : Int)).filter fun q => decide (q ∈ keysf p t a.Events)).Pairwise (fun x y => x ≤ y) := List.Pairwise.filter _ ((pairwise_range 24).imp fun h => Int.le_of_lt h)
     refine sorted_unique ?_ hsr (srtI_sorted _)
     refine List.Perm.trans ?_ (srtI_perm _).symm
     refine (List.perm_ext_iff_of_nodup ?_ (keysf_nodup p t a.Events)).2 fun q => ?_
     · exact List.Pairwise.filter _ ((pairwise_range 24).imp fun h => Int.ne_of_lt h)
     · simp only [List.mem_filter, List.mem_map, List.mem_range, decide_eq_true_eq]
       constructor
       · rintro ⟨_, h⟩; exact h
       · intro hq
         refine ⟨?_, hq⟩
         obtain ⟨w, hw, hw1, hw2, _⟩ := keysf_mem hq
         have := (g.ev w hw).2.2.2.2
         exact ⟨q.toNat, by show q.toNat < (24 : Int).toNat; omega, by omega⟩
 · simp [h, F_m]
def unl (p t : Int) (y : GAccess) : Prop := y.Kind = 4 ∧ y.Place = p ∧ y.Time ≤ t
def lnk (p t : Int) (x : GAccess) : Prop := x.Kind = 3 ∧ x.Place = p ∧ x.Time ≤ t ∧ t < x.Until
def openP (p t : Int) (l : List GAccess) (k : Nat) : Prop := lnk p t (l.getD k default) ∧ ∀ y ∈ l.drop (k + 1), ¬ unl p t y
open Classical in
noncomputable def refL (p t : Int) (l : List GAccess) : Nat → Int × Bool
 | 0 => (0, false)
 | n + 1 => if openP p t l n then ((n : Int), true) else refL p t l n
theorem openP_snoc {p t : Int} {l : List GAccess} {x : GAccess} {k : Nat} (hk : k < l.length) : openP p t (l ++ [x]) k ↔ openP p t l k ∧ ¬ unl p t x := by
 unfold openP
 rw [show (l ++ [x]).getD k default = l.getD k default by rw [List.getD_eq_getElem?_getD, List.getD_eq_getElem?_getD, List.getElem?_append_left hk], List.drop_append_of_le_length (by omega)]
 simp only [List.mem_append, List.mem_singleton]
 constructor
 · rintro ⟨h1, h2⟩
   exact ⟨⟨h1, fun y hy => h2 y (.inl hy)⟩, h2 x (.inr rfl)⟩
 · rintro ⟨⟨h1, h2⟩, h3⟩
   refine ⟨h1, fun y hy => ?_⟩
   rcases hy with hy | rfl
   · exact h2 y hy
   · exact h3
theorem refL_snoc {p t : Int} {l : List GAccess} {x : GAccess} : ∀ {n : Nat}, n ≤ l.length → (unl p t x → refL p t (l ++ [x]) n = (0, false)) ∧ (¬ unl p t x → refL p t (l ++ [x]) n = refL p t l n)
 | 0, h => ⟨fun _ => rfl, fun _ => rfl⟩
 | n + 1, h => by
   have ih := refL_snoc (p := p) (t := t) (l := l) (x := x) (n := n) (by omega)
   constructor
   · intro hu
     have : ¬ openP p t (l ++ [x]) n := fun h' => ((openP_snoc (by omega)).1 h').2 hu
     simp only [refL, if_neg this, ih.1 hu]
   · intro hu
     have : openP p t (l ++ [x]) n ↔ openP p t l n := by rw [openP_snoc (by omega)]; exact ⟨fun h => h.1, fun h => ⟨h, hu⟩⟩
     by_cases hh : openP p t l n
     · simp only [refL, if_pos (this.2 hh), if_pos hh]
     · simp only [refL, if_neg (fun h => hh (this.1 h)), if_neg hh, ih.2 hu]
theorem refL_lkf (p t : Int) (l : List GAccess) : refL p t l l.length = lkf p t l 0 (0, false) := by
 induction l using revList_ind with
 | h0 => rfl
 | h1 l x ih =>
   rw [List.length_append, List.length_singleton, lkf_append]
   simp only [lkf, Int.zero_add, refL]
   have e : (l ++ [x]).getD l.length default = x := by simp
   have ho : openP p t (l ++ [x]) l.length ↔ lnk p t x := by
     unfold openP
     rw [e, List.drop_eq_nil_of_le (by simp)]
     simp
   rw [← ih]
   have hs := refL_snoc (p := p) (t := t) (l := l) (x := x) (Nat.le_refl l.length)
   unfold lst
   by_cases hl : lnk p t x
   · rw [if_pos (ho.2 hl)]
     obtain ⟨h1, h2, h3, h4⟩ := hl
     rw [if_neg (by omega), if_neg (by omega), if_pos ⟨h1, h4⟩]
   · rw [if_neg fun h => hl (ho.1 h)]
     by_cases hu : unl p t x
     · rw [hs.1 hu]
       obtain ⟨h1, h2, h3⟩ := hu
       rw [if_neg (by omega), if_pos h1]
     · rw [hs.2 hu]
       by_cases c : t < x.Time ∨ x.Place ≠ p
       · rw [if_pos c]
       · rw [if_neg c]
         have : ¬ x.Kind = 4 := fun h => hu ⟨h, by omega, by omega⟩
         rw [if_neg this]
         have : ¬ (x.Kind = 3 ∧ t < x.Until) := fun h => hl ⟨h.1, by omega, by omega, h.2⟩
         rw [if_neg this]
open Classical in
theorem findU (p t : Int) : ∀ m : List GAccess, findL (fun y => if unl p t y then some false else none) m = if ∀ y ∈ m, ¬ unl p t y then none else some false
 | [] => by simp [findL]
 | y :: r => by
   by_cases hu : unl p t y
   · have : ¬ ∀ z ∈ y :: r, ¬ unl p t z := fun h => h y (by simp) hu
     rw [if_neg this]
     simp only [findL, if_pos hu]
   · simp only [findL, if_neg hu, findU p t r]
     by_cases hr : ∀ z ∈ r, ¬ unl p t z
     · have : ∀ z ∈ y :: r, ¬ unl p t z := fun z hz => by
         rcases List.mem_cons.1 hz with rfl | hz
         · exact hu
         · exact hr z hz
       rw [if_pos hr, if_pos this]
     · have : ¬ ∀ z ∈ y :: r, ¬ unl p t z := fun h => hr fun z hz => h z (by simp [hz])
       rw [if_neg hr, if_neg this]
open Classical in
theorem open_ex {a : GEstate} {p t : Int} (hn : a.Events.length ≤ 120) (h : F_1 a p = some true) {k : Nat} (hk : k < a.Events.length) : ∃ b, F_j a p (k : Int) t = some b ∧ (b = true ↔ openP p t a.Events k) := by
 have i1 : in64 ((a.Events.length : Int) - 1) = true := in64_sm (by omega) (by omega)
 have i2 : decide (0 ≤ (k : Int) ∧ (k : Int) ≤ (a.Events.length : Int) - 1) = true := decide_eq_true (by omega)
 have i3 : inb (k : Int) a.Events.length = true := inb_iff.2 ⟨by omega, by omega⟩
 have i4 : in64 ((k : Int) + 1) = true := in64_sm (by omega) (by omega)
 have i5 : inc ((k : Int) + 1) (a.Events.length : Int) a.Events.length = true := inc_iff.2 ⟨by omega, by omega, by omega⟩
 have i6 : ((k : Int) + 1).toNat = k + 1 := by omega
 simp only [F_j, rplace_eq, h, Option.bind_some, Bool.not_true, cond_false, chk_true i1, rin_eq, i2, chk_true i3, chk_true i4, chk_true i5, i6, Int.toNat_natCast, grp]
 by_cases c1 : lnk p t (a.Events.getD k default)
 · have c1' := c1
   unfold lnk at c1'
   have e : (!decide ((a.Events.getD k default).Kind = 3) || !decide ((a.Events.getD k default).Place = p) || decide (t < (a.Events.getD k default).Time) || decide ((a.Events.getD k default).Until ≤ t)) = false := by
     simp only [Bool.or_eq_false_iff, decide_eq_false_iff_not, Bool.not_eq_false', decide_eq_true_eq]; omega
   simp only [e, cond_false]
   rw [forL_find (fun y => if unl p t y then some false else none) (a.Events.drop (k + 1)) 0 fun k y _ => by
     simp only [F_2x, grp]
     by_cases hu : unl p t y
     · have e : (decide (y.Kind = 4) && decide (y.Place = p) && decide (y.Time ≤ t)) = true := by
         simp only [Bool.and_eq_true, decide_eq_true_eq]; exact ⟨⟨hu.1, hu.2.1⟩, hu.2.2⟩
       simp only [e, cond_true, if_pos hu, flO]
     · have e : (decide (y.Kind = 4) && decide (y.Place = p) && decide (y.Time ≤ t)) = false := by
         cases hh : (decide (y.Kind = 4) && decide (y.Place = p) && decide (y.Time ≤ t)) with
         | false => rfl
         | true =>
           simp only [Bool.and_eq_true, decide_eq_true_eq] at hh
           exact absurd ⟨hh.1.1, hh.1.2, hh.2⟩ hu
       simp only [e, cond_false, if_neg hu, flO]]
   simp only [Option.bind_some, elim_flO, findU]
   by_cases hr : ∀ y ∈ a.Events.drop (k + 1), ¬ unl p t y
   · simp only [if_pos hr]
     exact ⟨true, rfl, fun _ => ⟨c1, hr⟩, fun _ => rfl⟩
   · simp only [if_neg hr]
     exact ⟨false, rfl, iff_of_false (by simp) fun h => hr h.2⟩
 · have e : (!decide ((a.Events.getD k default).Kind = 3) || !decide ((a.Events.getD k default).Place = p) || decide (t < (a.Events.getD k default).Time) || decide ((a.Events.getD k default).Until ≤ t)) = true := by
     unfold lnk at c1
     simp only [Bool.or_eq_true, decide_eq_true_eq, Bool.not_eq_true', decide_eq_false_iff_not]; omega
   simp only [e, cond_true]
   exact ⟨false, rfl, iff_of_false (by simp) fun h => c1 h.1⟩
open Classical in
theorem open_eq {a : GEstate} {p t : Int} (hn : a.Events.length ≤ 120) (h : F_1 a p = some true) {k : Nat} (hk : k < a.Events.length) : F_j a p (k : Int) t = some (decide (openP p t a.Events k)) := by
 obtain ⟨b, hb, hb2⟩ := open_ex (t := t) hn h hk
 rw [hb]
 by_cases c : openP p t a.Events k
 · rw [hb2.2 c, decide_eq_true c]
 · have : b = false := by cases b with
     | false => rfl
     | true => exact absurd (hb2.1 rfl) c
   rw [this, decide_eq_false c]
theorem rLinkedL {a : GEstate} {p t : Int} (hn : a.Events.length ≤ 120) (h : F_1 a p = some true) : ∀ {n : Nat}, n ≤ a.Events.length → ∃ r, loop (F_2e a p t) ((n : Int) - 1) = some r ∧ Sum.elim (fun _ => some (0, false)) (fun u => some u) r = some (refL p t a.Events n)
 | 0, hl => by
   rw [loop_eq]
   simp only [F_2e]
   exact ⟨.inl (), rfl, rfl⟩
 | n + 1, hl => by
   classical
   rw [loop_eq]
   have e0 : ((n + 1 : Nat) : Int) - 1 = (n : Int) := by omega
   have e1 : decide (0 ≤ (n : Int)) = true := decide_eq_true (by omega)
   rw [e0]
   simp only [F_2e, e1, cond_true, open_eq hn h (show n < a.Events.length by omega), Option.bind_some, refL]
   by_cases c : openP p t a.Events n
   · simp only [c, decide_true, cond_true, Option.bind_some, Fl_ex, if_true]
     exact ⟨_, rfl, rfl⟩
   · have i1 : in64 ((n : Int) - 1) = true := in64_sm (by omega) (by omega)
     simp only [c, decide_false, cond_false, chk_true i1, Option.bind_some, Fl_nx, if_false]
     exact rLinkedL hn h (by omega)
theorem rLinkedN {a : GEstate} {p t : Int} (hn : a.Events.length ≤ 120) (h : F_1 a p = some false) : ∀ {n : Nat}, n ≤ a.Events.length → loop (F_2e a p t) ((n : Int) - 1) = some (.inl ())
 | 0, hl => by
   rw [loop_eq]
   rfl
 | n + 1, hl => by
   rw [loop_eq]
   have e0 : ((n + 1 : Nat) : Int) - 1 = (n : Int) := by omega
   have e1 : decide (0 ≤ (n : Int)) = true := decide_eq_true (by omega)
   have i1 : in64 ((n : Int) - 1) = true := in64_sm (by omega) (by omega)
   rw [e0]
   simp only [F_2e, e1, cond_true, F_j, rplace_eq, h, Option.bind_some, Bool.not_false, cond_false, chk_true i1, Fl_nx]
   exact rLinkedN hn h (by omega)
theorem rLinked_eq (a : GEstate) (p t : Int) (hn : a.Events.length ≤ 120) : F_t a p t = F_7 a p t := by
 have i1 : in64 ((a.Events.length : Int) - 1) = true := in64_sm (by omega) (by omega)
 simp only [F_t, chk_true i1]
 rcases known_cases a p with ⟨h, _⟩ | h
 · rw [linked_eq t h, ← refL_lkf]
   obtain ⟨r, h1, h2⟩ := rLinkedL (t := t) hn h (Nat.le_refl _)
   rw [h1]
   exact h2
 · rw [linked_no t h, rLinkedN hn h (Nat.le_refl _)]
   rfl
end Go.Ab
namespace Go.Ab
open Go.Proofs
theorem rexists_eq {d : GDirectory} (hk : d.Kinds.length ≤ 24) (p : Int) : F_4 d p = some (decide (0 ≤ p ∧ p < d.Kinds.length)) := by
 unfold F_4
 rw [chk_true (in64_smD (by omega) (by omega))]
 simp only [F_5, grp, Option.bind_some]
 congr 1
 by_cases q : 0 ≤ p ∧ p < (d.Kinds.length : Int)
 · rw [decide_eq_true q, decide_eq_true q.1, decide_eq_true (show p ≤ (d.Kinds.length : Int) - 1 by omega)]; rfl
 · rw [decide_eq_false q]
   by_cases q1 : 0 ≤ p
   · rw [decide_eq_true q1, decide_eq_false (show ¬ p ≤ (d.Kinds.length : Int) - 1 by omega)]; rfl
   · rw [decide_eq_false q1]; rfl
theorem dvalid_of {d : GDirectory} (g : GoodD d) : F_2 d = some true := by
 have hk := g.kl
 have he := g.el
 have hin : ∀ x a b : Int, F_5 x a b = some (decide (a ≤ x ∧ x ≤ b)) := fun x a b => by simp [F_5, grp]
 refine Ok.eq ?_
 unfold F_2
 refine Ok.grp (Ok.ite (fun q => ?_) fun _ => Ok.bind (P := fun o => o = .nx ()) (Ok.for (fun _ => True) _ 0 () trivial (fun k x s hx _ => ?_) fun s _ => rfl) fun o ho => ?_)
 · simp only [Bool.or_eq_true, decide_eq_true_eq] at q; omega
 · unfold F_2q
   rw [hin, decide_eq_true (g.kd x hx)]
   exact Ok.ret trivial
 subst ho
 rw [Fl_nx]
 refine Ok.bind (P := fun o => o = .nx ()) (Ok.forI (all := d.Events) (fun _ _ => True) _ [] 0 () rfl rfl trivial (fun pre x r s hw _ => ?_) fun s _ => rfl) fun o ho => by subst ho; exact Ok.ret rfl
 have hx : x ∈ d.Events := by rw [hw]; simp
 obtain ⟨m1, m2, m3, m4, m5, m6⟩ := g.ev x hx
 have hgr : F_p d x.Group = some true := by
   unfold F_p
   rw [rexists_eq hk, decide_eq_true (show 0 ≤ x.Group ∧ x.Group < (d.Kinds.length : Int) from ⟨m5.1, m5.2.1⟩)]
   simp only [Option.bind_some, cond_true, jn, chk_true (inb_iff.2 ⟨m5.1, m5.2.1⟩), decide_eq_true m5.2.2]
 have hp : pre.length < d.Events.length := by rw [hw]; simp
 have rest : Ok ((F_4 d x.Principal).bind fun y251 => bif (!y251) then some (.ex false) else (F_p d x.Group).bind fun y252 => bif (!y252) then some (.ex false) else bif decide (x.Principal = x.Group) then some (.ex false) else some (.nx ())) (Fl.elim (fun _ : Unit => True) fun r : Bool => (Fl.ex r : Fl Unit Bool) = .nx ()) := by
   rw [rexists_eq hk, decide_eq_true m4, hgr]
   simp only [Option.bind_some, Bool.not_true, cond_false, decide_eq_false m6]
   exact Ok.ret trivial
 unfold F_2r
 rw [hin, hin, decide_eq_true (show 1 ≤ x.Kind ∧ x.Kind ≤ 2 by omega), decide_eq_true (show 0 ≤ x.Time ∧ x.Time ≤ 1099511627776 from ⟨m2, m3⟩)]
 simp only [Option.bind_some, Bool.not_true, cond_false]
 refine Ok.ite (fun q => ?_) fun _ => rest
 have q : 0 < (pre.length : Int) := by simpa using q
 have h1 : (pre.length : Int) - 1 < d.Events.length := by omega
 refine Ok.chk (in64_smD (by omega) (by omega)) (Ok.chk (inb_iff.2 ⟨by omega, h1⟩) (Ok.ite (fun w => ?_) fun _ => rest))
 exfalso
 have w := of_decide_eq_true w
 have hlt : pre.length - 1 < d.Events.length := by omega
 have e : d.Events.getD ((pre.length : Int) - 1).toNat default = d.Events[pre.length - 1] := by
   rw [show ((pre.length : Int) - 1).toNat = pre.length - 1 by omega, List.getD_eq_getElem?_getD, List.getElem?_eq_getElem hlt]; rfl
 have e2 : d.Events[pre.length] = x := by simp [hw]
 have := (List.pairwise_iff_getElem.1 g.srt) (pre.length - 1) pre.length hlt hp (by omega)
 rw [e2] at this
 rw [e] at w
 omega
theorem rupward_eq {d : GDirectory} (g : GoodD d) {p : Int} (t : Int) (h0 : 0 ≤ p) (h1 : p < d.Kinds.length) : F_k d p t = some (upl d p t) := by
 have hk := g.kl
 simp only [F_k, dvalid_of g, rexists_eq hk, decide_eq_true (show 0 ≤ p ∧ p < (d.Kinds.length : Int) from ⟨h0, h1⟩), Option.bind_some, Bool.not_true, cond_false]
 have hu : upF d.Kinds.length (d.Events.map fun e => (e.Time, e.Kind, e.Principal, e.Group)) p t = some ((List.range d.Kinds.length).map (oul (dlk d t) d.Kinds.length (fun i => decide (i = p.toNat)) d.Kinds.length)) := by
   unfold upF
   rw [chk_true, chk_true]
   · simp [dlk]
   · simp only [List.all_eq_true, List.mem_map]
     rintro _ ⟨e, he, rfl⟩
     obtain ⟨_, _, _, h4, h5, _⟩ := g.ev e he
     have e1 : inb e.Principal 24 = true := inb_iff.2 ⟨h4.1, by omega⟩
     have e2 : inb e.Group 24 = true := inb_iff.2 ⟨h5.1, by omega⟩
     simp [e1, e2]
   · rw [inb_iff.2 ⟨h0, h1⟩, decide_eq_true hk]; rfl
 rw [hu]
 generalize hy : (List.range d.Kinds.length).map (oul (dlk d t) d.Kinds.length (fun i => decide (i = p.toNat)) d.Kinds.length) = y
 have hyl : y.length = d.Kinds.length := by rw [← hy]; simp
 have hyi : ∀ i, i < d.Kinds.length → gt y i = oul (dlk d t) d.Kinds.length (fun i => decide (i = p.toNat)) d.Kinds.length i := fun i hi => by
   rw [← hy]; simp [gt, List.getD_eq_getElem?_getD, hi]
 have hpn : p.toNat < d.Kinds.length := by omega
 have hRT : ∀ i, i < d.Kinds.length → (gt y i = true ↔ RT (dlk d t) d.Kinds.length p.toNat i) := fun i hi => by
   rw [hyi i hi]
   constructor
   · exact oul_sound (P := fun i => RT (dlk d t) d.Kinds.length p.toNat i) (fun a b ha hb h hl => .step h ha hb hl) (fun i h => by
       have := of_decide_eq_true h
       subst this; exact .refl) _ i
   · intro h
     induction h with
     | refl => exact oul_mono (by simp) _
     | step h ha hb hl ih => exact oul_closed hpn _ _ ha hb (ih ha) hl
 have ht := those_eq y (by omega)
 have hup : F_33 = F_2j := rfl
 simp only [F_w] at ht
 simp only [Option.bind_some, hup]
 rw [ht]
 simp only [upl, hyl]
 congr 2
 refine List.filter_congr fun i hi => ?_
 have := hRT i (List.mem_range.1 hi)
 cases e : gt y i with
 | true => simp [this.1 e]
 | false =>
   have h : ¬ RT (dlk d t) d.Kinds.length p.toNat i := fun h => by rw [this.2 h] at e; cases e
   simp [h]
theorem rhas_eq (l : List Int) (x : Int) : F_d l x = some (decide (x ∈ l)) := by
 simp only [F_d]
 rw [forL_find (fun y => if y = x then some true else none) l 0 (fun k y _ => by by_cases e : y = x <;> simp [F_2y, e, flO])]
 simp only [Option.bind_some, elim_flO]
 have : findL (fun y => if y = x then some true else none) l = if x ∈ l then some true else none := by
   induction l with
   | nil => rfl
   | cons y r ih =>
     by_cases e : y = x
     · simp [findL, e]
     · have e' : ¬ x = y := fun h => e h.symm
       simp [findL, e, e', ih]
 rw [this]
 by_cases e : x ∈ l <;> simp [e]
end Go.Ab
namespace Go.Ab
open Go.Proofs
def cutA (a : GEstate) (t : Int) : GEstate := ⟨a.Places, a.Events.filter fun x => decide (x.Time ≤ t)⟩
def cutD (d : GDirectory) (t : Int) : GDirectory := ⟨d.Kinds, d.Events.filter fun x => decide (x.Time ≤ t)⟩
theorem Good.cut {a : GEstate} (g : Good a) (t : Int) : Good (cutA a t) := g.sub List.filter_sublist
theorem GoodD.cut {d : GDirectory} (g : GoodD d) (t : Int) : GoodD (cutD d t) :=
 ⟨g.kl, Nat.le_trans (List.length_filter_le _ _) g.el, g.kd, fun x hx => g.ev x (List.mem_filter.1 hx).1, g.srt.sublist List.filter_sublist⟩
def zst (t : Int) (Z : Nat → Nat → Bool) (x : GMember) : Nat → Nat → Bool := fun j i => if x.Time ≤ t ∧ (j : Int) = x.Principal ∧ (i : Int) = x.Group then decide (x.Kind = 1) else Z j i
theorem zk_fold (t : Int) (E : List GMember) : ∀ k, k ≤ E.length → zk (ev4 (E.map fun e => (e.Time, e.Kind, e.Principal, e.Group))) t k = (E.take k).foldl (zst t) (fun _ _ => false)
 | 0, _ => rfl
 | k + 1, h => by
   rw [zk, zk_fold t E k (by omega), List.take_succ, List.getElem?_eq_getElem (by omega)]
   simp only [Option.toList_some, List.foldl_append, List.foldl_cons, List.foldl_nil]
   funext j i
   have e : ((E.map fun e => (e.Time, e.Kind, e.Principal, e.Group)).getD k (0,0,0,0)) = (E[k].Time, E[k].Kind, E[k].Principal, E[k].Group) := by
     rw [List.getD_eq_getElem?_getD, List.getElem?_map, List.getElem?_eq_getElem (by omega)]
     rfl
   simp only [zstep, ev4, e, zst]
theorem dlk_fold (d : GDirectory) (t : Int) : dlk d t = d.Events.foldl (zst t) (fun _ _ => false) := by
 rw [dlk, zk_fold t d.Events _ (Nat.le_refl _), List.take_length]
end Go.Ab
namespace Go.Ab
open Go.Proofs
open Classical in
noncomputable def mays (d : GDirectory) (a : GEstate) (pl t : Int) : List Int := ((List.range d.Kinds.length).filter fun i : Nat => decide (mayP d a i pl t)).map fun i : Nat => (i : Int)
theorem who_eq {d : GDirectory} {a : GEstate} (g : GoodD d) (h : Good a) {pl : Int} (t : Int) (h0 : 0 ≤ pl) (h1 : pl ≤ a.Places - 1) : F_n d a pl t = some (⟨(lkf pl t a.Events 0 (0, false)).2, mays d a pl t⟩, 0) := by
 have hk := g.kl
 classical
 have e : foldL (F_2n d a pl t) d.Kinds 0 ((lkf pl t a.Events 0 (0, false)).2,[]) = some ((lkf pl t a.Events 0 (0, false)).2, mays d a pl t) := by
   refine Ok.eq (Ok.foldI (all := d.Kinds) (fun pre s => s = ((lkf pl t a.Events 0 (0, false)).2, ((List.range pre.length).filter fun i : Nat => decide (mayP d a i pl t)).map fun i : Nat => (i : Int))) d.Kinds [] 0 _ rfl rfl rfl (fun pre x r s hw hs => ?_) fun s hs => hs)
   subst hs
   have hp : pre.length < d.Kinds.length := by rw [hw]; simp
   have hlen : (((List.range pre.length).filter fun i : Nat => decide (mayP d a i pl t)).map fun i : Nat => (i : Int)).length ≤ pre.length := by
     rw [List.length_map]; exact Nat.le_trans (List.length_filter_le _ _) (by simp)
   unfold F_2n
   rw [may_eq g h]
   simp only [Option.bind_some, List.length_append, List.length_singleton, List.range_succ, List.filter_append, List.map_append]
   by_cases c : mayP d a (pre.length : Int) pl t
   · rw [decide_eq_true c, cond_true]
     refine Ok.chk (room_smD (by omega)) (Ok.ret ?_)
     simp [c]
   · rw [decide_eq_false c, cond_false]
     refine Ok.ret ?_
     simp [c]
 simp only [F_n, F_l, dcheck_eq, check_eq, if_pos g, if_pos h, Option.bind_some, decide_true, Bool.not_true, cond_false, place_eq a pl h.lo h.hi, decide_eq_true (show 0 ≤ pl ∧ pl ≤ a.Places - 1 from ⟨h0, h1⟩), linked_eq t (known_of h h0 h1), e]
def grpP (d : GDirectory) (q : Int) : Prop := 0 ≤ q ∧ q < d.Kinds.length ∧ d.Kinds.getD q.toNat default = 2
theorem upl_self {d : GDirectory} {p t : Int} (h0 : 0 ≤ p) (h1 : p < d.Kinds.length) : p ∈ upl d p t := mem_upl.2 ⟨h0, h1, .refl⟩
instance (d : GDirectory) (q : Int) : Decidable (grpP d q) := inferInstanceAs (Decidable (_ ∧ _ ∧ _))
theorem rgroup_eq {d : GDirectory} (hk : d.Kinds.length ≤ 24) (p : Int) : F_p d p = some (decide (grpP d p)) := by
 simp only [F_p, rexists_eq hk, Option.bind_some, jn]
 by_cases c : 0 ≤ p ∧ p < (d.Kinds.length : Int)
 · simp [c, chk_true (inb_iff.2 c), grpP]
 · rw [decide_eq_false c, cond_false, decide_eq_false (fun h : grpP d p => c ⟨h.1, h.2.1⟩)]
   rfl
theorem upl_len (d : GDirectory) (p t : Int) : (upl d p t).length ≤ d.Kinds.length := by
 rw [upl, List.length_map]; exact Nat.le_trans (List.length_filter_le _ _) (by simp)
def d1 : GDirectory := ⟨[1,2],[⟨0,1,0,1⟩]⟩
def a1 : GEstate := ⟨1,[⟨0,1,0,1,0,0,0⟩]⟩
theorem gd1 : GoodD d1 := ⟨by simp [d1], by simp [d1], by simp [d1], by simp [d1, mok], by simp [d1]⟩
theorem ga1 : Good a1 := by
 rw [good_iff]
 refine ⟨by simp [a1], by simp [a1], ?_⟩
 simp [a1, chain, xok]
theorem ks1 : keysf 0 0 a1.Events = [1] := by kernel_rfl
theorem lk11 : lkf 0 0 a1.Events 0 (0, false) = (0, false) := by kernel_rfl
theorem up1 : (1 : Int) ∈ upl d1 0 0 := mem_upl.2 ⟨by omega, by simp [d1], .step (a := 0) .refl (by simp [d1]) (by simp [d1]) (by kernel_rfl)⟩
theorem rdr1 : rdr d1 0 := ⟨Int.le_refl 0, by simp [d1], by simp [d1]⟩
theorem may1 : mayP d1 a1 0 0 0 := ⟨⟨rdr1, Int.le_refl 0, by simp [a1]⟩, .inr ⟨1, by rw [ks1]; simp, up1⟩⟩
theorem may11 : ¬ mayP d1 a1 1 0 0 := fun h => h.1.1.2.2 (by simp [d1])
theorem mays1 : mays d1 a1 0 0 = [0] := by
 simp only [mays, show d1.Kinds.length = 2 from rfl, show List.range 2 = [0,1] from rfl, List.filter_cons, List.filter_nil, Int.ofNat_zero, Int.natCast_zero, Int.natCast_one]
 simp [may1, may11]
theorem upl1 : upl d1 0 0 = [0,1] := by
 classical
 have h0 : RT (dlk d1 0) d1.Kinds.length (0 : Int).toNat 0 := .refl
 have h1 : RT (dlk d1 0) d1.Kinds.length (0 : Int).toNat 1 := (mem_upl.1 up1).2.2
 simp only [upl, show List.range d1.Kinds.length = [0,1] from rfl, List.filter_cons, List.filter_nil, h0, h1, decide_true, if_true]
 rfl
theorem dwhy1 : F_16 d1 0 1 0 = some ([0,1], true) := by
 have hu : F_r d1 0 0 = some [0,1] := by rw [upward_eq gd1 0 (Int.le_refl 0) (by simp [d1]), upl1]
 have hd : delI [0,1] 0 = some (1,[1,0]) := by kernel_rfl
 have hin : F_15 d1 0 1 0 = some true := by
   simp only [F_15, F_1k, hu, Option.bind_some, hd, dcont_eq]
   rfl
 have ht : atF d1.Kinds.length (d1.Events.map fun e => (e.Time, e.Kind, e.Principal, e.Group)) 0 = some [[false, true],[false, false]] := by kernel_rfl
 have e0 : F_25 [[false, true],[false, false]] ([0],[0, -1]) = some (.nx ([1],[0,0])) := by kernel_rfl
 have e1 : F_25 [[false, true],[false, false]] ([1],[0,0]) = some (.nx ([],[0,0])) := by kernel_rfl
 have e2 : F_25 [[false, true],[false, false]] ([],[0,0]) = some (.ex [0,0]) := by kernel_rfl
 have f0 : F_2d 0 [0,0] [1] = some (.nx [0,1]) := by kernel_rfl
 have f1 : F_2d 0 [0,0] [0,1] = some (.ex [0,1]) := by kernel_rfl
 have hr : repI [-1] ((2 : Nat) : Int) = some [-1, -1] := by kernel_rfl
 have hi : inb 0 2 = true := inb_iff.2 (by omega)
 have l1 : loop (F_25 [[false, true],[false, false]]) ([0],[0, -1]) = some [0,0] := by
   rw [loop_eq, e0]; simp only [Option.bind_some, Fl_nx]
   rw [loop_eq, e1]; simp only [Option.bind_some, Fl_nx]
   rw [loop_eq, e2]; simp only [Option.bind_some, Fl_ex]
 have l2 : loop (F_2d 0 [0,0]) [1] = some [0,1] := by
   rw [loop_eq, f0]; simp only [Option.bind_some, Fl_nx]
   rw [loop_eq, f1]; simp only [Option.bind_some, Fl_ex]
 simp only [F_16, hin, Option.bind_some, Bool.not_true, cond_false, ht, List.length_cons, List.length_nil, Nat.zero_add, hr]
 rw [chk_true hi]
 show (loop _ ([0],[0, -1])).bind _ = _
 rw [l1]
 simp only [Option.bind_some, l2]
theorem rwhy1 : F_i d1 a1 0 0 0 = some (⟨0,0, -1,0,[0,1]⟩, true) := by
 have hk := known_of ga1 (Int.le_refl 0) (show (0 : Int) ≤ a1.Places - 1 by simp [a1])
 have hg : F_o a1 0 1 0 = some (0, true) := by kernel_rfl
 have hs : srtI [1] = [1] := sorted_unique (srtI_perm _) (srtI_sorted _) (by simp)
 have hr : F_x d1 a1 0 0 0 = some (1, true) := by
   rw [rgrant_eq (upward_eq gd1 0 (Int.le_refl 0) (by simp [d1])) (granted_eq 0 ga1.len hk), ks1, hs]
   simp [up1, fst0]
 simp [F_i, may_eq gd1 ga1, may1, linked_eq 0 hk, lk11, hr, hg, jn, dwhy1]
theorem awake28 : F_1a = some true := by
 classical
 have h1 := who_eq gd1 ga1 0 (Int.le_refl 0) (show (0 : Int) ≤ a1.Places - 1 by simp [a1])
 have h2 := rwhy1
 have h3 : F_y [0] [0] = some true := by kernel_rfl
 have h4 : F_b d1 a1 0 ⟨0,0, -1,0,[0,1]⟩ = some true := by kernel_rfl
 have h5 := may_eq gd1 ga1 1 0 0
 simp only [may11, decide_false] at h5
 rw [mays1, lk11] at h1
 simp only [d1, a1] at h1 h2 h4 h5
 simp [F_1a, h1, h2, h3, h4, h5, jn, grp]
theorem awake28_ok : Ok (F_1a.bind fun y => some y) (· = true) := by rw [awake28]; exact ⟨true, rfl, rfl⟩
end Go.Ab
namespace Go.Ab
open Go.Proofs Classical
theorem din_eq {d : GDirectory} (g : GoodD d) {p : Int} (q t : Int) (h0 : 0 ≤ p) (h1 : p < d.Kinds.length) : F_15 d p q t = some (decide (q ∈ upl d p t ∧ q ≠ p)) := by
 have hne : upl d p t ≠ [] := fun h => by have := upl_self (d := d) (t := t) h0 h1; rw [h] at this; cases this
 simp only [F_15, F_1k, upward_eq g t h0 h1, Option.bind_some, delI]
 rw [chk_true (decide_eq_true hne)]
 simp only [Option.bind_some, List.drop_zero]
 rw [List.take_left' rfl, dcont_eq]
 simp only [Option.bind_some]
 congr 1
 refine decide_eq_decide.2 ?_
 simp [List.mem_filter]
theorem nodup_len {α : Type} [DecidableEq α] : ∀ {l m : List α}, l.Nodup → (∀ x ∈ l, x ∈ m) → l.length ≤ m.length
 | [], m, _, _ => Nat.zero_le _
 | x :: r, m, hn, hs => by
   obtain ⟨h1, h2⟩ := List.nodup_cons.1 hn
   have hx := hs x (by simp)
   have := nodup_len (m := m.erase x) h2 fun y hy => (List.mem_erase_of_ne (fun e : y = x => h1 (by rw [← e]; exact hy))).2 (hs y (by simp [hy]))
   rw [List.length_erase_of_mem hx] at this
   have := List.length_pos_of_mem hx
   simp only [List.length_cons]; omega
theorem filter_len2 {α : Type} (p : α → Bool) : ∀ l : List α, l.length = (l.filter p).length + (l.filter fun x => !p x).length
 | [] => rfl
 | x :: r => by
   have := filter_len2 p r
   cases h : p x <;> simp [h] <;> omega
theorem range_len {l : List Int} {n : Nat} (hn : l.Nodup) (h : ∀ x ∈ l, 0 ≤ x ∧ x < n) : l.length ≤ n := by
 have := nodup_len (m := (List.range n).map fun i : Nat => (i : Int)) hn fun x hx => by
   obtain ⟨r1, r2⟩ := h x hx
   simp only [List.mem_map, List.mem_range]
   exact ⟨x.toNat, by omega, by omega⟩
 simpa using this
structure Tree (L : Nat → Nat → Bool) (n p : Nat) (b : List Int) (vis : List Nat) : Prop where
 bl : b.length = n
 nd : vis.Nodup
 hd : vis[0]? = some p
 lt : ∀ i ∈ vis, i < n
 vs : ∀ i, i < n → (0 ≤ b.getD i default ↔ i ∈ vis)
 pr : ∀ (k i : Nat), vis[k]? = some i → 0 < k → ∃ j a, j < k ∧ vis[j]? = some a ∧ b.getD i default = (a : Int) ∧ L a i = true
theorem getD_set {b : List Int} {k : Nat} {v : Int} (hk : k < b.length) (i : Nat) : (b.set k v).getD i default = if i = k then v else b.getD i default := by
 simp only [List.getD_eq_getElem?_getD, List.getElem?_set]
 by_cases e : k = i
 · subst e; simp [hk]
 · rw [if_neg e, if_neg (fun h => e h.symm)]
theorem Tree.len {L : Nat → Nat → Bool} {n p : Nat} {b : List Int} {vis : List Nat} (h : Tree L n p b vis) : vis.length ≤ n := by
 have h2 := nodup_len (m := List.range n) h.nd fun i hi => List.mem_range.2 (h.lt i hi)
 simpa using h2
theorem Tree.push {L : Nat → Nat → Bool} {n p : Nat} {b : List Int} {vis : List Nat} (h : Tree L n p b vis) {a i : Nat} (ha : a ∈ vis) (hi : i < n) (hv : i ∉ vis) (hl : L a i = true) : Tree L n p (b.set i (a : Int)) (vis ++ [i]) := by
 have hb : i < b.length := by rw [h.bl]; exact hi
 refine ⟨by simp [h.bl], ?_, ?_, fun j hj => ?_, fun j hj => ?_, fun k j hk h0 => ?_⟩
 · rw [List.nodup_append]
   exact ⟨h.nd, by simp, fun x hx y hy => by simp only [List.mem_singleton] at hy; subst hy; exact fun e => hv (e ▸ hx)⟩
 · have := h.hd
   have h0 : 0 < vis.length := (List.getElem?_eq_some_iff.1 this).1
   rw [List.getElem?_append_left h0]; exact this
 · simp only [List.mem_append, List.mem_singleton] at hj
   rcases hj with hj | rfl
   · exact h.lt j hj
   · exact hi
 · rw [getD_set hb]
   by_cases e : j = i
   · subst e; simp
   · rw [if_neg e, h.vs j hj]; simp [e]
 · by_cases c : k < vis.length
   · rw [List.getElem?_append_left c] at hk
     obtain ⟨q, a', h1, h2, h3, h4⟩ := h.pr k j hk h0
     have hne : j ≠ i := fun e => hv (e ▸ List.mem_of_getElem? hk)
     refine ⟨q, a', h1, ?_, ?_, h4⟩
     · rw [List.getElem?_append_left (by omega)]; exact h2
     · rw [getD_set hb, if_neg hne]; exact h3
   · have e : k = vis.length := by
       have := (List.getElem?_eq_some_iff.1 hk).1
       simp at this; omega
     subst e
     simp at hk
     subst hk
     obtain ⟨q, hq, hqe⟩ := List.mem_iff_getElem.1 ha
     refine ⟨q, a, hq, ?_, ?_, hl⟩
     · rw [List.getElem?_append_left hq, List.getElem?_eq_getElem hq, hqe]
     · rw [getD_set hb]; simp
theorem whyrow_ok {L : Nat → Nat → Bool} {n p : Nat} (hn : n ≤ 24) {row : List Bool} (hr : row.length = n) {a : Nat} (hL : ∀ i, i < n → row.getD i false = L a i) (m : Nat) (b : List Int) (vis : List Nat) (hT : Tree L n p b vis) (ha : vis[m]? = some a) :
   Ok (foldL F_2o row 0 ((vis.drop m).map fun i : Nat => (i : Int), b)) fun s => ∃ news, Tree L n p s.2 (vis ++ news) ∧ s.1 = ((vis ++ news).drop m).map (fun i : Nat => (i : Int)) ∧ ∀ i, i < n → L a i = true → i ∈ vis ++ news := by
 have hm : m < vis.length := (List.getElem?_eq_some_iff.1 ha).1
 refine Ok.foldI (all := row) (fun pre s => ∃ news, Tree L n p s.2 (vis ++ news) ∧ s.1 = ((vis ++ news).drop m).map (fun i : Nat => (i : Int)) ∧ ∀ i, i < pre.length → L a i = true → i ∈ vis ++ news) row [] 0 _ rfl rfl ⟨[], by simpa using hT, by simp, fun i hi => by simp at hi⟩ (fun pre x r s hw hs => ?_) fun s hs => by rw [hr] at hs; exact hs
 obtain ⟨q', b'⟩ := s
 obtain ⟨news, h1, h2, h3⟩ := hs
 simp only at h1 h2 h3
 subst h2
 have hlen : pre.length < n := by rw [← hr, hw]; simp
 have hx : x = L a pre.length := by rw [← hL _ hlen, hw]; simp
 have hvl := h1.len
 unfold F_2o
 have hi : inb (pre.length : Int) b'.length = true := inb_iff.2 ⟨by omega, by rw [h1.bl]; omega⟩
 have hnext : ∀ (P : Nat → Prop), (∀ i, i < pre.length → L a i = true → P i) → (L a pre.length = true → P pre.length) → ∀ i, i < (pre ++ [x]).length → L a i = true → P i := fun P k1 k2 i hi hl => by
   simp only [List.length_append, List.length_singleton] at hi
   by_cases e : i = pre.length
   · subst e; exact k2 hl
   · exact k1 i (by omega) hl
 cases hxx : x with
 | false =>
   simp only [cond_false, jn, Option.bind_some]
   rw [hxx] at hx
   exact Ok.ret ⟨news, h1, rfl, hxx ▸ hnext (fun i => i ∈ vis ++ news) h3 fun hl => by rw [← hx] at hl; cases hl⟩
 | true =>
   rw [hxx] at hx
   simp only [cond_true, jn, chk_true hi, Option.bind_some, Int.toNat_natCast]
   by_cases hv : pre.length ∈ vis ++ news
   · have : decide (b'.getD pre.length default < 0) = false := decide_eq_false (by have := (h1.vs _ hlen).2 hv; omega)
     simp only [this, cond_false]
     exact Ok.ret ⟨news, h1, rfl, hxx ▸ hnext (fun i => i ∈ vis ++ news) h3 fun _ => hv⟩
   · have : decide (b'.getD pre.length default < 0) = true := decide_eq_true (Int.not_le.1 fun h => hv ((h1.vs _ hlen).1 h))
     simp only [this, cond_true]
     have hq0 : ((((vis ++ news).drop m).map fun i : Nat => (i : Int)).getD 0 default) = (a : Int) := by
       have : (vis ++ news)[m]? = some a := by rw [List.getElem?_append_left hm]; exact ha
       rw [List.getD_eq_getElem?_getD, List.getElem?_map, List.getElem?_drop, Nat.add_zero, this]; rfl
     have hl0 : (0 : Int) < ((((vis ++ news).drop m).map fun i : Nat => (i : Int)).length : Int) := by simp; omega
     refine Ok.chk (inb_iff.2 ⟨by omega, hl0⟩) (Ok.chk (room_smD (by simp only [List.length_map, List.length_drop, List.length_singleton]; have h24 : (vis ++ news).length ≤ 24 := Nat.le_trans hvl hn; generalize (vis ++ news).length = z at h24 ⊢; omega)) (Ok.ret ⟨news ++ [pre.length], ?_, ?_, ?_⟩))
     · rw [hq0, ← List.append_assoc]
       exact h1.push (by simp [List.mem_of_getElem? ha]) hlen hv hx.symm
     · rw [← List.append_assoc, List.drop_append_of_le_length (l₁ := vis ++ news) (by simp; omega)]
       simp
     · rw [← List.append_assoc]
       exact hxx ▸ hnext (fun i => i ∈ vis ++ news ++ [pre.length]) (fun i k1 k2 => List.mem_append_left _ (h3 i k1 k2)) fun _ => by simp
theorem search_ok {L : Nat → Nat → Bool} {n p : Nat} (hn : n ≤ 24) (hp : p < n) (T : List (List Bool)) (hT : T.length = n) (hrow : ∀ a, a < n → (T.getD a default).length = n ∧ ∀ i, i < n → (T.getD a default).getD i false = L a i) :
   Ok (loop (F_25 T) ([(p : Int)], (List.replicate n (-1 : Int)).set p (p : Int))) fun b => ∃ vis, Tree L n p b vis ∧ ∀ i, RT L n p i → i ∈ vis := by
 refine Ok.loop (fun (s : List Int × List Int) => ∃ (vis : List Nat) (m : Nat), Tree L n p s.2 vis ∧ s.1 = (vis.drop m).map (fun i : Nat => (i : Int)) ∧ m ≤ vis.length ∧ ∀ j a, j < m → vis[j]? = some a → ∀ i, i < n → L a i = true → i ∈ vis)
   (fun (s : List Int × List Int) => 2 * (s.2.filter fun x => decide (x < 0)).length + s.1.length) (fun s hs => ?_) _ ?_
 · obtain ⟨q, b⟩ := s
   obtain ⟨vis, m, h1, h2, h3, h4⟩ := hs
   simp only at h1 h2 h3 h4
   subst h2
   unfold F_25
   refine Ok.ite (fun cq => ?_) fun cq => ?_
   · have hm : m < vis.length := by have cq := of_decide_eq_true cq; simp at cq; omega
     have ha : vis[m]? = some vis[m] := List.getElem?_eq_getElem hm
     have hq0 : (((vis.drop m).map fun i : Nat => (i : Int)).getD 0 default) = (vis[m] : Int) := by simp [List.getD_eq_getElem?_getD, hm]
     have han : vis[m] < n := h1.lt _ (List.getElem_mem hm)
     simp only [hq0]
     refine Ok.chk (inb_iff.2 ⟨by omega, by simp; omega⟩) (Ok.chk (inb_iff.2 ⟨by omega, by rw [hT]; omega⟩) ?_)
     rw [Int.toNat_natCast]
     obtain ⟨r1, r2⟩ := hrow _ han
     refine Ok.bind (whyrow_ok hn r1 r2 m b vis h1 ha) fun s hs => ?_
     obtain ⟨q', b'⟩ := s
     obtain ⟨news, k1, k2, k3⟩ := hs
     simp only at k1 k2 k3
     subst k2
     refine Ok.chk (inc_iff.2 ⟨by omega, by simp; omega, by omega⟩) (Ok.ret ?_)
     have e1 : ((((vis ++ news).drop m).map fun i : Nat => (i : Int)).drop 1).take ((((vis ++ news).drop m).map fun i : Nat => (i : Int)).length - 1) = ((vis ++ news).drop (m + 1)).map fun i : Nat => (i : Int) := by
       rw [List.take_of_length_le (by simp; omega), ← List.map_drop, List.drop_drop]
     rw [e1]
     have hcount : ∀ {b : List Int} {vis : List Nat}, Tree L n p b vis → (b.filter fun x => decide (x < 0)).length = n - vis.length := by
       intro b vis h
       have e2 : (b.filter fun x => decide (x < 0)).length = ((List.range n).filter fun i => !decide (i ∈ vis)).length := by
         have hb : b = (List.range n).map fun i => b.getD i default := by
           apply List.ext_getElem
           · simp [h.bl]
           · intro i h1 h2; simp [List.getD_eq_getElem?_getD, h1]
         rw [hb, List.filter_map, List.length_map]
         congr 1
         refine List.filter_congr fun i hi => ?_
         have := h.vs i (List.mem_range.1 hi)
         simp only [Function.comp]
         rw [Bool.eq_iff_iff]
         simp only [decide_eq_true_eq, Bool.not_eq_true', decide_eq_false_iff_not, ← this]
         omega
       rw [e2]
       have e3 := filter_len2 (fun i => decide (i ∈ vis)) (List.range n)
       have e4 : ((List.range n).filter fun i => decide (i ∈ vis)).Perm vis := by
         rw [List.perm_ext_iff_of_nodup (List.nodup_range.filter _) h.nd]
         intro i
         simp only [List.mem_filter, List.mem_range, decide_eq_true_eq]
         exact ⟨fun h => h.2, fun hi => ⟨h.lt i hi, hi⟩⟩
       have e5 := e4.length_eq
       rw [List.length_range] at e3
       omega
     refine ⟨⟨vis ++ news, m + 1, k1, rfl, by simp; omega, fun j a' hj hja i hi hl => ?_⟩, ?_⟩
     · by_cases e : j = m
       · subst e
         rw [List.getElem?_append_left hm, ha] at hja
         cases hja
         exact k3 i hi hl
       · rw [List.getElem?_append_left (by omega)] at hja
         exact List.mem_append_left _ (h4 j a' (by omega) hja i hi hl)
     · show 2 * (b'.filter _).length + _ < 2 * (b.filter _).length + _
       rw [hcount k1, hcount h1]
       have := k1.len
       simp only [List.length_map, List.length_drop, List.length_append] at this ⊢
       omega
   · have hm : vis.length ≤ m := by have cq := of_decide_eq_false cq; simp at cq; omega
     have hm : m = vis.length := by omega
     subst hm
     refine Ok.ret ⟨vis, h1, fun i hi => ?_⟩
     induction hi with
     | refl => exact List.mem_of_getElem? h1.hd
     | step h ha hb hl ih =>
       obtain ⟨j, hj, hje⟩ := List.mem_iff_getElem.1 ih
       exact h4 j _ hj (by rw [List.getElem?_eq_getElem hj, hje]) _ hb hl
 · have hb : p < (List.replicate n (-1 : Int)).length := by simpa using hp
   refine ⟨[p],0, ⟨by simp, by simp, rfl, by simp [hp], fun i hi => ?_, fun k i hk h0 => ?_⟩, by simp, by simp, fun j a hj => by omega⟩
   · rw [getD_set hb]
     by_cases e : i = p
     · subst e; simp
     · rw [if_neg e]
       simp [List.getD_eq_getElem?_getD, List.getElem?_replicate, hi, e]
   · have : k < 1 := by have := (List.getElem?_eq_some_iff.1 hk).1; simpa using this
     omega
structure Chn (L : Nat → Nat → Bool) (n : Nat) (ch : List Int) : Prop where
 rg : ∀ x ∈ ch, 0 ≤ x ∧ x < n
 nd : ch.Nodup
 lk : ∀ k, k + 1 < ch.length → L (ch.getD k default).toNat (ch.getD (k + 1) default).toNat = true
theorem back_ok {L : Nat → Nat → Bool} {n p : Nat} (hn : n ≤ 24) (b : List Int) (vis : List Nat) (hT : Tree L n p b vis) {q : Nat} (hq : q ∈ vis) :
   Ok (loop (F_2d (p : Int) b) [(q : Int)]) fun ch => Chn L n ch ∧ ch.getD 0 default = p ∧ ch.getD (ch.length - 1) default = q ∧ 0 < ch.length := by
 refine Ok.loop (fun out : List Int => ∃ (k : Nat) (a : Nat), vis[k]? = some a ∧ out.getD 0 default = (a : Int) ∧ 0 < out.length ∧ Chn L n out ∧ out.getD (out.length - 1) default = q ∧ ∀ x ∈ out, ∃ j, k ≤ j ∧ vis[j]? = some x.toNat)
   (fun out => n - out.length) (fun out hs => ?_) _ ?_
 · obtain ⟨k, a, h1, h2, h3, h4, h5, h6⟩ := hs
   have han := hT.lt a (List.mem_of_getElem? h1)
   have hlen : ∀ {l : List Int}, Chn L n l → l.length ≤ n := fun {l} hc => by
       exact range_len hc.nd hc.rg
   unfold F_2d
   refine Ok.chk (inb_iff.2 ⟨by omega, by omega⟩) ?_
   rw [h2]
   refine Ok.ite (fun c => ?_) fun c => ?_
   · have c : ¬ (a : Int) = p := by simpa using c
     have hk0 : 0 < k := by
       rcases Nat.eq_zero_or_pos k with e | e
       · subst e; rw [hT.hd] at h1; cases h1; exact absurd rfl c
       · exact e
     obtain ⟨j, a', j1, j2, j3, j4⟩ := hT.pr k a h1 hk0
     have ha'n := hT.lt a' (List.mem_of_getElem? j2)
     refine Ok.chk (inb_iff.2 ⟨by omega, by omega⟩) (Ok.chk (inb_iff.2 ⟨by omega, by rw [hT.bl]; omega⟩) ?_)
     rw [Int.toNat_natCast, j3]
     have hne : out ≠ [] := fun e => by rw [e] at h3; simp at h3
     have hll := hlen h4
     have hins : insI out [(a' : Int)] = some ((a' : Int) :: out) := by
       unfold insI
       rw [chk_true]
       · rfl
       · simp [hne]; omega
     rw [hins]
     have hnew : Chn L n ((a' : Int) :: out) := by
       refine ⟨fun x hx => ?_, ?_, fun i hi => ?_⟩
       · rcases List.mem_cons.1 hx with rfl | hx
         · exact ⟨by omega, by omega⟩
         · exact h4.rg x hx
       · rw [List.nodup_cons]
         refine ⟨fun hm => ?_, h4.nd⟩
         obtain ⟨i, i1, i2⟩ := h6 _ hm
         rw [Int.toNat_natCast] at i2
         have := (List.getElem?_inj (i := j) (j := i) (List.getElem?_eq_some_iff.1 j2).1 hT.nd).1 (by rw [j2, i2])
         omega
       · cases i with
         | zero =>
           have : ((a' : Int) :: out).getD (0 + 1) default = out.getD 0 default := rfl
           rw [this, h2]
           simpa using j4
         | succ i =>
           simp only [List.length_cons] at hi
           exact h4.lk i (by omega)
     have hnl := hlen hnew
     refine Ok.ret ⟨⟨j, a', j2, rfl, by simp, hnew, ?_, fun x hx => ?_⟩, ?_⟩
     · have : ((a' : Int) :: out).getD (((a' : Int) :: out).length - 1) default = out.getD (out.length - 1) default := by
         simp only [List.length_cons, Nat.add_sub_cancel]
         obtain ⟨y, r, rfl⟩ : ∃ y r, out = y :: r := by
           cases out with
           | nil => exact absurd rfl hne
           | cons y r => exact ⟨y, r, rfl⟩
         simp [List.getD_eq_getElem?_getD]
       rw [this]; exact h5
     · rcases List.mem_cons.1 hx with rfl | hx
       · exact ⟨j, Nat.le_refl _, by rw [Int.toNat_natCast]; exact j2⟩
       · obtain ⟨i, i1, i2⟩ := h6 x hx
         exact ⟨i, by omega, i2⟩
     · show n - ((a' : Int) :: out).length < n - out.length
       simp only [List.length_cons] at hnl ⊢
       omega
   · have c : (a : Int) = p := by simpa using c
     exact Ok.ret ⟨h4, by rw [h2, c], h5, h3⟩
 · obtain ⟨k, hk, hke⟩ := List.mem_iff_getElem.1 hq
   refine ⟨k, q, by rw [List.getElem?_eq_getElem hk, hke], rfl, by simp, ⟨fun x hx => ?_, by simp, fun i hi => by simp at hi⟩, rfl, fun x hx => ?_⟩
   · simp only [List.mem_singleton] at hx
     subst hx
     have := hT.lt q hq
     exact ⟨by omega, by omega⟩
   · simp only [List.mem_singleton] at hx
     subst hx
     exact ⟨k, Nat.le_refl _, by rw [Int.toNat_natCast, List.getElem?_eq_getElem hk, hke]⟩
theorem dwhy_ok {d : GDirectory} (g : GoodD d) {p q t : Int} (h0 : 0 ≤ p) (h1 : p < d.Kinds.length) (hq : q ∈ upl d p t) (hne : q ≠ p) :
   Ok (F_16 d p q t) fun y => y.2 = true ∧ Chn (dlk d t) d.Kinds.length y.1 ∧ y.1.getD 0 default = p ∧ y.1.getD (y.1.length - 1) default = q ∧ 2 ≤ y.1.length := by
 have hk := g.kl
 unfold F_16
 rw [din_eq g q t h0 h1]
 have hb : (!decide (q ∈ upl d p t ∧ q ≠ p)) = false := by simp [hq, hne]
 simp only [Option.bind_some, hb, cond_false, at_eq g]
 have hr : repI [-1] ((((List.range d.Kinds.length).map fun j => (List.range d.Kinds.length).map fun i => dlk d t j i).length : Nat) : Int) = some (List.replicate d.Kinds.length (-1)) := by
   unfold repI
   rw [chk_true]
   · simp
   · simp; omega
 rw [hr]
 simp only [Option.bind_some]
 refine Ok.chk (inb_iff.2 ⟨h0, by simpa using h1⟩) ?_
 obtain ⟨m0, m1, m2⟩ := mem_upl.1 hq
 have e1 : ((p.toNat : Nat) : Int) = p := Int.toNat_of_nonneg h0
 have e2 : ((q.toNat : Nat) : Int) = q := Int.toNat_of_nonneg m0
 have hs := search_ok (L := dlk d t) (n := d.Kinds.length) (p := p.toNat) hk (by omega) ((List.range d.Kinds.length).map fun j => (List.range d.Kinds.length).map fun i => dlk d t j i) (by simp) fun a ha => by
   have e : ((List.range d.Kinds.length).map fun j => (List.range d.Kinds.length).map fun i => dlk d t j i).getD a default = (List.range d.Kinds.length).map fun i => dlk d t a i := by simp [List.getD_eq_getElem?_getD, ha]
   rw [e]
   exact ⟨by simp, fun i hi => by simp [List.getD_eq_getElem?_getD, hi]⟩
 rw [e1] at hs
 refine Ok.bind hs fun b hb => ?_
 obtain ⟨vis, b1, b2⟩ := hb
 have hbk := back_ok hk b vis b1 (b2 _ m2)
 rw [e1, e2] at hbk
 refine Ok.bind hbk fun ch hch => Ok.ret ⟨rfl, hch.1, hch.2.1, hch.2.2.1, ?_⟩
 obtain ⟨c1, c2, c3, c4⟩ := hch
 rcases Nat.lt_or_ge ch.length 2 with h | h
 · have : ch.length = 1 := by omega
   rw [this] at c3
   exact absurd (c3.symm.trans c2) hne
 · exact h
end Go.Ab
namespace Go.Ab
open Go.Proofs Classical
theorem asc_adj : ∀ {l : List Int}, l.Pairwise (fun x y => x < y) ↔ ∀ i : Nat, i + 1 < l.length → l.getD i default < l.getD (i + 1) default
 | [] => by simp
 | [x] => by simp
 | x :: y :: r => by
   rw [List.pairwise_cons, asc_adj (l := y :: r)]
   constructor
   · rintro ⟨h1, h2⟩ i hi
     cases i with
     | zero => exact h1 y (by simp)
     | succ i => exact h2 i (by simpa using hi)
   · intro h
     have h0 : x < y := h 0 (by simp)
     have h2 : ∀ i : Nat, i + 1 < (y :: r).length → (y :: r).getD i default < (y :: r).getD (i + 1) default := fun i hi => h (i + 1) (by simp at hi ⊢; omega)
     refine ⟨fun z hz => ?_, h2⟩
     rcases List.mem_cons.1 hz with rfl | hz
     · exact h0
     · have := (List.pairwise_cons.1 (asc_adj.2 h2)).1 z hz
       omega
theorem asc_eq (l : List Int) (hn : l.length ≤ 1000) : F_1u l = some (decide (l.Pairwise fun x y => x < y)) := by
 refine Ok.eq ?_
 unfold F_1u
 refine Ok.bind (Ok.loop (Q := fun r : Sum Unit Bool => (r = .inl () ∧ l.Pairwise fun x y => x < y) ∨ (r = .inr false ∧ ¬ l.Pairwise fun x y => x < y))
   (fun x : Int => ∃ n : Nat, x = (n : Int) + 1 ∧ n ≤ l.length ∧ ∀ i : Nat, i < n → i + 1 < l.length → l.getD i default < l.getD (i + 1) default) (fun x => l.length + 1 - x.toNat) (fun x hx => ?_) 1 ⟨0, by omega, by omega, fun i hi => by omega⟩) fun r hr => ?_
 · obtain ⟨n, rfl, hl, h⟩ := hx
   unfold F_3p
   refine Ok.ite (fun c => ?_) fun c => ?_
   · have c : (n : Int) + 1 < (l.length : Int) := of_decide_eq_true c
     have e1 : (n : Int) + 1 - 1 = n := by omega
     have e2 : ((n : Int) + 1).toNat = n + 1 := by omega
     rw [e1, e2, Int.toNat_natCast]
     refine Ok.chk (in64_smD (by omega) (by omega)) (Ok.chk (inb_iff.2 ⟨by omega, by omega⟩) (Ok.chk (inb_iff.2 ⟨by omega, by omega⟩) (Ok.ite (fun c2 => ?_) fun c2 => ?_)))
     · have c2 := of_decide_eq_true c2
       refine Ok.ret (.inr ⟨rfl, fun hp => ?_⟩)
       have := asc_adj.1 hp n (by omega)
       omega
     · have c2 := of_decide_eq_false c2
       refine Ok.chk (in64_smD (by omega) (by omega)) (Ok.ret ⟨⟨n + 1, by omega, by omega, fun i hi hi2 => ?_⟩, by omega⟩)
       by_cases e : i = n
       · subst e; omega
       · exact h i (by omega) hi2
   · have c : ¬ (n : Int) + 1 < (l.length : Int) := of_decide_eq_false c
     exact Ok.ret (.inl ⟨rfl, asc_adj.2 fun i hi => h i (by omega) hi⟩)
 · rcases hr with ⟨rfl, h⟩ | ⟨rfl, h⟩
   · exact Ok.ret (by simp [h])
   · exact Ok.ret (by simp [h])
def closedP (d : GDirectory) (t : Int) (set : List Int) : Prop :=
 set.Pairwise (fun x y => x < y) ∧ (∀ x ∈ set, 0 ≤ x ∧ x < d.Kinds.length) ∧ ∀ x ∈ set, ∀ i : Nat, i < d.Kinds.length → dlk d t x.toNat i = true → (i : Int) ∈ set
theorem dclosed_eq {d : GDirectory} (g : GoodD d) (t : Int) (set : List Int) (hn : set.length ≤ 1000) : F_1w d t set = some (decide (closedP d t set)) := by
 have hk := g.kl
 refine Ok.eq ?_
 simp only [F_1w, dcheck_eq, if_pos g, Option.bind_some, decide_true, Bool.not_true, cond_false, asc_eq set hn]
 refine Ok.ite (fun c1 => ?_) fun c1 => ?_
 · have c1 : ¬ set.Pairwise fun x y => x < y := by simpa using c1
   exact Ok.ret (by rw [eq_comm, decide_eq_false]; exact fun h => c1 h.1)
 have c1 : set.Pairwise fun x y => x < y := by simpa using c1
 have hc : F_1v set d = some (decide (∃ x ∈ set, ¬ (0 ≤ x ∧ x < (d.Kinds.length : Int)))) := by
   unfold F_1v F_28
   refine contains_ofD (fun x => ¬ (0 ≤ x ∧ x < (d.Kinds.length : Int))) set fun k x => ?_
   simp only [F_36, F_27, dexists_eq, Option.bind_some]
   by_cases c : 0 ≤ x ∧ x < (d.Kinds.length : Int)
   · rw [decide_eq_true c, if_neg (by simpa using c)]; rfl
   · rw [decide_eq_false c, if_pos c]; rfl
 rw [hc]
 simp only [Option.bind_some]
 refine Ok.ite (fun c2 => ?_) fun c2 => ?_
 · obtain ⟨x, hx, hx2⟩ := of_decide_eq_true c2
   exact Ok.ret (by rw [eq_comm, decide_eq_false]; exact fun h => hx2 (h.2.1 x hx))
 have c2 : ∀ x ∈ set, 0 ≤ x ∧ x < (d.Kinds.length : Int) := fun x hx => Classical.byContradiction fun h => of_decide_eq_false c2 ⟨x, hx, h⟩
 rw [at_eq g]
 simp only [Option.bind_some]
 refine Ok.bind (P := fun o : Fl Unit Bool => (o = .nx () ∧ ∀ x ∈ set, ∀ i : Nat, i < d.Kinds.length → dlk d t x.toNat i = true → (i : Int) ∈ set) ∨ (o = .ex false ∧ ¬ ∀ x ∈ set, ∀ i : Nat, i < d.Kinds.length → dlk d t x.toNat i = true → (i : Int) ∈ set))
   (Ok.forI (all := set) (fun pre _ => ∀ x ∈ pre, ∀ i : Nat, i < d.Kinds.length → dlk d t x.toNat i = true → (i : Int) ∈ set) set [] 0 () rfl rfl (fun x hx => by cases hx) (fun pre x r s hw hs => ?_) fun s hs => .inl ⟨by cases s; rfl, hs⟩) fun o ho => ?_
 · have hx : x ∈ set := by rw [hw]; simp
   obtain ⟨x0, x1⟩ := c2 x hx
   unfold F_38
   have e : ((List.range d.Kinds.length).map fun j => (List.range d.Kinds.length).map fun i => dlk d t j i).getD x.toNat default = (List.range d.Kinds.length).map fun i => dlk d t x.toNat i := by simp [List.getD_eq_getElem?_getD, show x.toNat < d.Kinds.length by omega]
   rw [e, those_eq _ (by simpa using hk)]
   refine Ok.chk (inb_iff.2 ⟨x0, by simpa using x1⟩) ?_
   simp only [Option.bind_some, List.length_map, List.length_range]
   have hrow : ∀ i : Nat, i < d.Kinds.length → gt ((List.range d.Kinds.length).map fun i => dlk d t x.toNat i) i = dlk d t x.toNat i := fun i hi => by simp [gt, List.getD_eq_getElem?_getD, hi]
   rw [forL_find (fun q => if q ∈ set then none else some false) _ 0 fun k q _ => by
     simp only [F_37, dcont_eq, Option.bind_some]
     by_cases c : q ∈ set <;> simp [c, flO]]
   simp only [Option.bind_some, elim_flO]
   have hf : ∀ m : List Int, findL (fun q => if q ∈ set then none else some false) m = if ∀ q ∈ m, q ∈ set then none else some false := by
     intro m
     induction m with
     | nil => simp [findL]
     | cons q r ih =>
       by_cases c : q ∈ set
       · simp [findL, c, ih]
       · simp [findL, c]
   rw [hf]
   by_cases c : ∀ q ∈ ((List.range d.Kinds.length).filter (gt ((List.range d.Kinds.length).map fun i => dlk d t x.toNat i))).map (fun i : Nat => (i : Int)), q ∈ set
   · rw [if_pos c]
     refine Ok.ret fun y hy i hi hl => ?_
     rcases List.mem_append.1 hy with hy | hy
     · exact hs y hy i hi hl
     · simp only [List.mem_singleton] at hy
       subst hy
       refine c _ (List.mem_map.2 ⟨i, List.mem_filter.2 ⟨List.mem_range.2 hi, by rw [hrow i hi]; exact hl⟩, rfl⟩)
   · rw [if_neg c]
     refine Ok.ret (.inr ⟨rfl, fun h => c fun q hq => ?_⟩)
     obtain ⟨i, hi, rfl⟩ := List.mem_map.1 hq
     obtain ⟨hi, hl⟩ := List.mem_filter.1 hi
     have hi := List.mem_range.1 hi
     rw [hrow i hi] at hl
     exact h x hx i hi hl
 · rcases ho with ⟨rfl, h⟩ | ⟨rfl, h⟩
   · exact Ok.ret (by rw [eq_comm, decide_eq_true]; exact ⟨c1, c2, h⟩)
   · exact Ok.ret (by rw [eq_comm, decide_eq_false]; exact fun hh => h hh.2.2)
def refP (d : GDirectory) (a : GEstate) (p pl t : Int) (set : List Int) : Prop :=
 (rdr d p ∧ 0 ≤ pl ∧ pl ≤ a.Places - 1) ∧ closedP d t set ∧ p ∈ set ∧ (lkf pl t a.Events 0 (0, false)).2 = false ∧ ∀ q ∈ keysf pl t a.Events, q ∉ set
theorem refutes_eq {d : GDirectory} {a : GEstate} (g : GoodD d) (h : Good a) (p pl t : Int) (set : List Int) (hn : set.length ≤ 1000) : F_1e d a p pl t set = some (decide (refP d a p pl t set)) := by
 refine Ok.eq ?_
 simp only [F_1e, fine_eq g h, Option.bind_some, dclosed_eq g t set hn, dcont_eq]
 refine Ok.ite (fun c1 => Ok.ret ?_) fun c1 => ?_
 · rw [eq_comm, decide_eq_false]; intro hh; simp [hh.1] at c1
 have c1 : rdr d p ∧ 0 ≤ pl ∧ pl ≤ a.Places - 1 := by simpa using c1
 refine Ok.ite (fun c2 => Ok.ret ?_) fun c2 => ?_
 · rw [eq_comm, decide_eq_false]; intro hh; simp [hh.2.1] at c2
 have c2 : closedP d t set := by simpa using c2
 refine Ok.ite (fun c3 => Ok.ret ?_) fun c3 => ?_
 · rw [eq_comm, decide_eq_false]; intro hh; simp [hh.2.2.1] at c3
 have c3 : p ∈ set := by simpa using c3
 have hk := known_of h c1.2.1 c1.2.2
 simp only [linked_eq t hk, Option.bind_some, granted_eq t h.len hk]
 have hc : F_1x (srtI (keysf pl t a.Events)) set = some (decide (∃ x ∈ srtI (keysf pl t a.Events), x ∈ set)) := by
   unfold F_1x F_29
   refine contains_ofD (fun x => x ∈ set) _ fun k x => ?_
   simp only [F_39, F_11, dcont_eq, Option.bind_some]
   by_cases c : x ∈ set <;> simp [c]
 rw [hc]
 simp only [Option.bind_some, jn]
 cases e : (lkf pl t a.Events 0 (0, false)).2 with
 | true =>
   simp only [Bool.not_true, cond_false, Option.bind_some]
   refine Ok.ret ?_
   rw [eq_comm, decide_eq_false]; intro hh; have := hh.2.2.2.1; rw [e] at this; cases this
 | false =>
   simp only [Bool.not_false, cond_true, Option.bind_some]
   refine Ok.ret ?_
   rw [Bool.eq_iff_iff]
   simp only [Bool.not_eq_true', decide_eq_false_iff_not, decide_eq_true_eq, srtI_mem]
   constructor
   · intro hh; exact ⟨c1, c2, c3, e, fun q hq hs => hh ⟨q, hq, hs⟩⟩
   · rintro hh ⟨q, hq, hs⟩; exact hh.2.2.2.2 q hq hs
theorem Chn.pre {L : Nat → Nat → Bool} {n : Nat} {l m : List Int} (h : Chn L n (l ++ m)) : Chn L n l := by
 refine ⟨fun x hx => h.rg x (by simp [hx]), (List.nodup_append.1 h.nd).1, fun k hk => ?_⟩
 have := h.lk k (by simp; omega)
 rwa [List.getD_eq_getElem?_getD, List.getD_eq_getElem?_getD, List.getElem?_append_left (by omega), List.getElem?_append_left hk, ← List.getD_eq_getElem?_getD, ← List.getD_eq_getElem?_getD] at this
theorem getD_last {l : List Int} (x : Int) : (l ++ [x]).getD l.length default = x := by simp [List.getD_eq_getElem?_getD]
theorem getD_fst {l m : List Int} {k : Nat} (h : k < l.length) : (l ++ m).getD k default = l.getD k default := by
 rw [List.getD_eq_getElem?_getD, List.getD_eq_getElem?_getD, List.getElem?_append_left h]
theorem Chn.snoc {L : Nat → Nat → Bool} {n : Nat} {l : List Int} {x : Int} : Chn L n (l ++ [x]) ↔ Chn L n l ∧ (0 ≤ x ∧ x < n) ∧ x ∉ l ∧ (0 < l.length → L (l.getD (l.length - 1) default).toNat x.toNat = true) := by
 constructor
 · intro h
   refine ⟨h.pre, h.rg x (by simp), fun hx => ?_, fun h0 => ?_⟩
   · have := (List.nodup_append.1 h.nd).2.2 x hx x (by simp)
     exact this rfl
   · have := h.lk (l.length - 1) (by simp; omega)
     rwa [show l.length - 1 + 1 = l.length by omega, getD_last, getD_fst (by omega)] at this
 · rintro ⟨h1, h2, h3, h4⟩
   refine ⟨fun y hy => ?_, ?_, fun k hk => ?_⟩
   · rcases List.mem_append.1 hy with hy | hy
     · exact h1.rg y hy
     · simp only [List.mem_singleton] at hy; subst hy; exact h2
   · rw [List.nodup_append]
     exact ⟨h1.nd, by simp, fun y hy z hz e => by simp only [List.mem_singleton] at hz; subst hz; exact h3 (e ▸ hy)⟩
   · simp only [List.length_append, List.length_singleton] at hk
     by_cases e : k + 1 = l.length
     · have := h4 (by omega)
       rwa [e, getD_last, getD_fst (by omega), show k = l.length - 1 by omega]
     · rw [getD_fst (by omega), getD_fst (by omega)]
       exact h1.lk k (by omega)
theorem dproves_eq {d : GDirectory} (g : GoodD d) (t : Int) (ch : List Int) (hn : ch.length ≤ 1000) : F_1t d t ch = some (decide (2 ≤ ch.length ∧ Chn (dlk d t) d.Kinds.length ch)) := by
 have hk := g.kl
 refine Ok.eq ?_
 simp only [F_1t, dcheck_eq, if_pos g, Option.bind_some, decide_true, Bool.not_true, Bool.false_or, grp]
 refine Ok.ite (fun c => Ok.ret ?_) fun c => ?_
 · have c := of_decide_eq_true c
   rw [eq_comm, decide_eq_false]; intro h; omega
 have c := of_decide_eq_false c
 rw [at_eq g]
 simp only [Option.bind_some]
 refine Ok.bind (P := fun o : Fl Unit Bool => (o = .nx () ∧ Chn (dlk d t) d.Kinds.length ch) ∨ (o = .ex false ∧ ¬ Chn (dlk d t) d.Kinds.length ch))
   (Ok.forI (all := ch) (fun pre _ => Chn (dlk d t) d.Kinds.length pre) ch [] 0 () rfl rfl ⟨fun x hx => by (cases hx), by simp, fun k hk => by simp at hk⟩ (fun pre x r s hw hs => ?_) fun s hs => .inl ⟨by cases s; rfl, hs⟩) fun o ho => ?_
 · unfold F_35
   have hno : ∀ h : ¬ Chn (dlk d t) d.Kinds.length (pre ++ [x]), ¬ Chn (dlk d t) d.Kinds.length ch := fun h hc => h (by
     rw [hw, show pre ++ x :: r = (pre ++ [x]) ++ r by simp] at hc
     exact hc.pre)
   rw [Chn.snoc] at hno
   simp only [dexists_eq, Option.bind_some]
   refine Ok.ite (fun c1 => Ok.ret (.inr ⟨rfl, hno fun h => ?_⟩)) fun c1 => ?_
   · simp only [Bool.not_eq_true', decide_eq_false_iff_not] at c1; exact c1 h.2.1
   have c1 : 0 ≤ x ∧ x < (d.Kinds.length : Int) := by simpa using c1
   have hl : pre.length < ch.length := by rw [hw]; simp
   refine Ok.chk (inc_iff.2 ⟨by omega, by omega, by omega⟩) ?_
   have e1 : ch.take ((pre.length : Nat) : Int).toNat = pre := by rw [Int.toNat_natCast, hw, List.take_left' rfl]
   rw [e1, dcont_eq]
   simp only [Option.bind_some]
   refine Ok.ite (fun c2 => Ok.ret (.inr ⟨rfl, hno fun h => h.2.2.1 (of_decide_eq_true c2)⟩)) fun c2 => ?_
   have c2 := of_decide_eq_false c2
   refine Ok.ite (fun c3 => ?_) fun c3 => ?_
   · have c3 : 0 < pre.length := by have := of_decide_eq_true c3; omega
     have e2 : ((pre.length : Int) - 1).toNat = pre.length - 1 := by omega
     have e3 : ch.getD (pre.length - 1) default = pre.getD (pre.length - 1) default := by rw [hw, getD_fst (by omega)]
     obtain ⟨y0, y1⟩ := hs.rg (pre.getD (pre.length - 1) default) (by
       rw [List.getD_eq_getElem?_getD, List.getElem?_eq_getElem (by omega)]
       exact List.getElem_mem _)
     rw [e2, e3]
     have e4 : ((List.range d.Kinds.length).map fun j => (List.range d.Kinds.length).map fun i => dlk d t j i).getD (pre.getD (pre.length - 1) default).toNat default = (List.range d.Kinds.length).map fun i => dlk d t (pre.getD (pre.length - 1) default).toNat i := by
       rw [List.getD_eq_getElem?_getD, List.getElem?_map, List.getElem?_eq_getElem (by rw [List.length_range]; omega)]; simp
     rw [e4]
     have e5 : ((List.range d.Kinds.length).map fun i => dlk d t (pre.getD (pre.length - 1) default).toNat i).getD x.toNat default = dlk d t (pre.getD (pre.length - 1) default).toNat x.toNat := by
       rw [List.getD_eq_getElem?_getD, List.getElem?_map, List.getElem?_eq_getElem (by simp; omega)]; simp
     rw [e5]
     refine Ok.chk (in64_smD (by omega) (by omega)) (Ok.chk (inb_iff.2 ⟨by omega, by omega⟩) (Ok.chk (inb_iff.2 ⟨y0, by simpa using y1⟩) (Ok.chk (inb_iff.2 ⟨c1.1, by simpa using c1.2⟩) (Ok.ite (fun c4 => Ok.ret (.inr ⟨rfl, hno fun h => ?_⟩)) fun c4 => Ok.ret (Chn.snoc.2 ⟨hs, c1, c2, fun _ => ?_⟩)))))
     · have := h.2.2.2 c3
       rw [this] at c4; cases c4
     · simpa using c4
   · have c3 : ¬ 0 < pre.length := by have := of_decide_eq_false c3; omega
     exact Ok.ret (Chn.snoc.2 ⟨hs, c1, c2, fun h => absurd h c3⟩)
 · rcases ho with ⟨rfl, h⟩ | ⟨rfl, h⟩
   · exact Ok.ret (by rw [eq_comm, decide_eq_true]; exact ⟨by omega, h⟩)
   · exact Ok.ret (by rw [eq_comm, decide_eq_false]; exact fun hh => h hh.2)
theorem link_eq {a : GEstate} (hn : a.Events.length ≤ 1000) (pl t k : Int) : F_1r a pl t k = some (decide (0 ≤ k ∧ k < a.Events.length ∧ openP pl t a.Events k.toNat)) := by
 refine Ok.eq ?_
 simp only [F_1r, grp]
 refine Ok.ite (fun c => Ok.ret ?_) fun c => ?_
 · simp only [Bool.or_eq_true, decide_eq_true_eq] at c
   rw [eq_comm, decide_eq_false]; intro h; omega
 simp only [Bool.or_eq_false_iff, decide_eq_false_iff_not] at c
 refine Ok.chk (inb_iff.2 ⟨by omega, by omega⟩) ?_
 by_cases c1 : lnk pl t (a.Events.getD k.toNat default)
 · obtain ⟨l1, l2, l3, l4⟩ := c1
   simp only [l1, l2, l3, l4, decide_true, Bool.and_self, cond_true, jn]
   rw [chk_true (in64_smD (by omega) (by omega)), chk_true (inc_iff.2 ⟨by omega, by omega, by omega⟩)]
   have hc : F_1q (a.Events.drop (k + 1).toNat) pl t = some (decide (∃ x ∈ a.Events.drop (k + 1).toNat, unl pl t x)) := by
     unfold F_1q F_26
     rw [contains_ofD (fun x => unl pl t x) _ fun k x => ?_]
     · exact congrArg some (decide_eq_decide.2 Iff.rfl)
     · simp only [F_34, F_10, grp, Option.bind_some]
       by_cases c : unl pl t x
       · simp [c.1, c.2.1, c.2.2, c]
       · have : (decide (x.Kind = 4) && decide (x.Place = pl) && decide (x.Time ≤ t)) = false := by
           rw [Bool.eq_false_iff]
           intro h
           simp only [Bool.and_eq_true, decide_eq_true_eq] at h
           exact c ⟨h.1.1, h.1.2, h.2⟩
         rw [this, if_neg c]; rfl
   rw [hc]
   simp only [Option.bind_some]
   refine Ok.ret ?_
   rw [Bool.eq_iff_iff]
   simp only [Bool.not_eq_true', decide_eq_false_iff_not, decide_eq_true_eq]
   rw [show (k + 1).toNat = k.toNat + 1 by omega]
   constructor
   · intro h
     exact ⟨by omega, by omega, ⟨l1, l2, l3, l4⟩, fun y hy hu => h ⟨y, hy, hu⟩⟩
   · rintro h ⟨y, hy, hu⟩
     exact h.2.2.2 y hy hu
 · have : (decide ((a.Events.getD k.toNat default).Kind = 3) && decide ((a.Events.getD k.toNat default).Place = pl) && decide ((a.Events.getD k.toNat default).Time ≤ t) && decide (t < (a.Events.getD k.toNat default).Until)) = false := by
     rw [Bool.eq_false_iff]
     intro h
     simp only [Bool.and_eq_true, decide_eq_true_eq] at h
     exact c1 ⟨h.1.1.1, h.1.1.2, h.1.2, h.2⟩
   simp only [this, cond_false, jn, Option.bind_some]
   exact Ok.ret (by rw [eq_comm, decide_eq_false]; exact fun h => c1 h.2.2.1)
theorem aget_key (p t q : Int) (l : List GAccess) : (aget q (grf p t l)).isSome = decide (q ∈ keysf p t l) := by rw [aget_isSome, grf_keys]
def provP (d : GDirectory) (a : GEstate) (p : Int) (r : GReading) : Prop :=
 (rdr d p ∧ 0 ≤ r.Place ∧ r.Place ≤ a.Places - 1) ∧
   ((r.Link ≠ -1 ∧ r.Grant = -1 ∧ r.Chain = [] ∧ 0 ≤ r.Link ∧ r.Link < a.Events.length ∧ openP r.Place r.Time a.Events r.Link.toNat) ∨
     (r.Link = -1 ∧ r.Chain ≠ [] ∧ 0 ≤ r.Grant ∧ r.Grant < a.Events.length ∧ (a.Events.getD r.Grant.toNat default).Kind = 1 ∧ (a.Events.getD r.Grant.toNat default).Place = r.Place ∧ (a.Events.getD r.Grant.toNat default).Time ≤ r.Time ∧
       (a.Events.getD r.Grant.toNat default).Principal ∈ keysf r.Place r.Time a.Events ∧ r.Chain.getD 0 default = p ∧ r.Chain.getD (r.Chain.length - 1) default = (a.Events.getD r.Grant.toNat default).Principal ∧ (r.Chain.length = 1 ∨ 2 ≤ r.Chain.length ∧ Chn (dlk d r.Time) d.Kinds.length r.Chain)))
theorem granted1_eq {a : GEstate} {pl : Int} (hk : F_1 a pl = some true) (t n : Int) : F_1s a pl t n = some (if 0 ≤ n ∧ n < a.Events.length then
   (if (a.Events.getD n.toNat default).Principal ∈ keysf pl t a.Events then ((a.Events.getD n.toNat default).Principal, decide ((a.Events.getD n.toNat default).Kind = 1 ∧ (a.Events.getD n.toNat default).Place = pl ∧ (a.Events.getD n.toNat default).Time ≤ t)) else ((a.Events.getD n.toNat default).Principal, false)) else (0, false)) := by
 refine Ok.eq ?_
 simp only [F_1s, grp]
 refine Ok.ite (fun c => Ok.ret ?_) fun c => ?_
 · simp only [Bool.or_eq_true, decide_eq_true_eq] at c
   rw [if_neg (by omega)]
 simp only [Bool.or_eq_false_iff, decide_eq_false_iff_not] at c
 rw [if_pos (by omega)]
 refine Ok.chk (inb_iff.2 ⟨by omega, by omega⟩) ?_
 rw [grant_eq _ _ hk]
 simp only [Option.bind_some, aget_key]
 by_cases c1 : (a.Events.getD n.toNat default).Principal ∈ keysf pl t a.Events
 · rw [decide_eq_true c1, if_pos c1, cond_true]
   by_cases c2 : (a.Events.getD n.toNat default).Kind = 1
   · rw [decide_eq_true c2, cond_true]
     by_cases c3 : (a.Events.getD n.toNat default).Place = pl
     · rw [decide_eq_true c3, cond_true]; exact Ok.ret (by simp only [c2, c3, true_and])
     · rw [decide_eq_false c3, cond_false]; exact Ok.ret (by rw [decide_eq_false (fun h => c3 h.2.1)])
   · rw [decide_eq_false c2, cond_false]; exact Ok.ret (by rw [decide_eq_false (fun h => c2 h.1)])
 · rw [decide_eq_false c1, if_neg c1, cond_false]; exact Ok.ret rfl
theorem proves_eq {d : GDirectory} {a : GEstate} (g : GoodD d) (h : Good a) (p : Int) (r : GReading) (hn : r.Chain.length ≤ 1000) : F_1d d a p r = some (decide (provP d a p r)) := by
 have hen := h.len
 refine Ok.eq ?_
 simp only [F_1d, fine_eq g h, Option.bind_some]
 refine Ok.ite (fun c1 => Ok.ret ?_) fun c1 => ?_
 · rw [eq_comm, decide_eq_false]; intro hh; simp [hh.1] at c1
 have c1 : rdr d p ∧ 0 ≤ r.Place ∧ r.Place ≤ a.Places - 1 := by simpa using c1
 have hk := known_of h c1.2.1 c1.2.2
 refine Ok.ite (fun c2 => ?_) fun c2 => ?_
 · have c2 : ¬ r.Link = -1 := by simpa using c2
   simp only [grp, link_eq (a := a) (by omega), jn, Option.bind_some]
   by_cases c3 : r.Grant = -1 ∧ r.Chain = []
   · simp only [c3.1, c3.2, List.length_nil, decide_true, Int.natCast_zero, Bool.and_self, cond_true, Option.bind_some]
     refine Ok.ret (decide_eq_decide.2 ⟨fun hh => ⟨c1, .inl ⟨c2, c3.1, c3.2, hh⟩⟩, fun hh => ?_⟩)
     rcases hh.2 with hh | hh
     · exact hh.2.2.2
     · exact absurd hh.1 c2
   · have : (decide (r.Grant = -1) && decide ((r.Chain.length : Int) = 0)) = false := by
       rw [Bool.eq_false_iff]; intro hh
       simp only [Bool.and_eq_true, decide_eq_true_eq] at hh
       exact c3 ⟨hh.1, List.length_eq_zero_iff.1 (by omega)⟩
     simp only [this, cond_false, Option.bind_some]
     refine Ok.ret ?_
     rw [eq_comm, decide_eq_false]; intro hh
     rcases hh.2 with hh | hh
     · exact c3 ⟨hh.2.1, hh.2.2.1⟩
     · exact c2 hh.1
 · have c2 : r.Link = -1 := by simpa using c2
   simp only [granted1_eq hk, Option.bind_some, grp]
   by_cases c3 : 0 ≤ r.Grant ∧ r.Grant < (a.Events.length : Int)
   · rw [if_pos c3]
     by_cases c4 : (a.Events.getD r.Grant.toNat default).Principal ∈ keysf r.Place r.Time a.Events
     · rw [if_pos c4]
       refine Ok.ite (fun c5 => Ok.ret ?_) fun c5 => ?_
       · rw [eq_comm, decide_eq_false]; intro hh
         rcases hh.2 with hh | hh
         · exact hh.1 c2
         · have hl : ¬ (r.Chain.length : Int) = 0 := fun e => hh.2.1 (List.length_eq_zero_iff.1 (by omega))
           simp only [decide_eq_true (show (a.Events.getD r.Grant.toNat default).Kind = 1 ∧ (a.Events.getD r.Grant.toNat default).Place = r.Place ∧ (a.Events.getD r.Grant.toNat default).Time ≤ r.Time from ⟨hh.2.2.2.2.1, hh.2.2.2.2.2.1, hh.2.2.2.2.2.2.1⟩), Bool.not_true, decide_eq_false hl, Bool.or_self] at c5
           cases c5
       · simp only [Bool.or_eq_false_iff, Bool.not_eq_false', decide_eq_true_eq, decide_eq_false_iff_not] at c5
         have hl : 0 < r.Chain.length := by omega
         refine Ok.chk (inb_iff.2 ⟨by omega, by omega⟩) (Ok.ite (fun c6 => Ok.ret ?_) fun c6 => ?_)
         · have c6 : ¬ r.Chain.getD 0 default = p := by simpa using c6
           rw [eq_comm, decide_eq_false]; intro hh
           rcases hh.2 with hh | hh
           · exact hh.1 c2
           · exact c6 hh.2.2.2.2.2.2.2.2.1
         have c6 : r.Chain.getD 0 default = p := by simpa using c6
         have e1 : ((r.Chain.length : Int) - 1).toNat = r.Chain.length - 1 := by omega
         rw [e1]
         refine Ok.chk (in64_smD (by omega) (by omega)) (Ok.chk (inb_iff.2 ⟨by omega, by omega⟩) (Ok.ite (fun c7 => Ok.ret ?_) fun c7 => ?_))
         · have c7 : ¬ r.Chain.getD (r.Chain.length - 1) default = (a.Events.getD r.Grant.toNat default).Principal := by simpa using c7
           rw [eq_comm, decide_eq_false]; intro hh
           rcases hh.2 with hh | hh
           · exact hh.1 c2
           · exact c7 hh.2.2.2.2.2.2.2.2.2.1
         have c7 : r.Chain.getD (r.Chain.length - 1) default = (a.Events.getD r.Grant.toNat default).Principal := by simpa using c7
         simp only [dproves_eq g _ _ hn, jn, Option.bind_some]
         have hne : r.Chain ≠ [] := fun e => by rw [e] at hl; simp at hl
         by_cases c8 : r.Chain.length = 1
         · simp only [c8, Int.natCast_one, decide_true, cond_true, Option.bind_some]
           exact Ok.ret (by rw [eq_comm, decide_eq_true]; exact ⟨c1, .inr ⟨c2, hne, c3.1, c3.2, c5.1.1, c5.1.2.1, c5.1.2.2, c4, c6, c7, .inl c8⟩⟩)
         · rw [decide_eq_false (show ¬ (r.Chain.length : Int) = 1 by omega), cond_false]
           simp only [Option.bind_some]
           refine Ok.ret (decide_eq_decide.2 ⟨fun hh => ⟨c1, .inr ⟨c2, hne, c3.1, c3.2, c5.1.1, c5.1.2.1, c5.1.2.2, c4, c6, c7, .inr hh⟩⟩, fun hh => ?_⟩)
           rcases hh.2 with hh | hh
           · exact absurd c2 hh.1
           · rcases hh.2.2.2.2.2.2.2.2.2.2 with hh | hh
             · exact absurd hh c8
             · exact hh
     · rw [if_neg c4]
       simp only [Bool.not_false, Bool.true_or, cond_true]
       refine Ok.ret ?_
       rw [eq_comm, decide_eq_false]; intro hh
       rcases hh.2 with hh | hh
       · exact hh.1 c2
       · exact c4 hh.2.2.2.2.2.2.2.1
   · rw [if_neg c3]
     simp only [Bool.not_false, Bool.true_or, cond_true]
     refine Ok.ret ?_
     rw [eq_comm, decide_eq_false]; intro hh
     rcases hh.2 with hh | hh
     · exact hh.1 c2
     · exact c3 ⟨hh.2.2.1, hh.2.2.2.1⟩
theorem refL_open {p t : Int} {l : List GAccess} : ∀ {n : Nat}, n ≤ l.length → (refL p t l n).2 = true → ∃ k : Nat, k < n ∧ refL p t l n = ((k : Int), true) ∧ openP p t l k
 | 0, h, e => by cases e
 | n + 1, h, e => by
   unfold refL at e ⊢
   split at e
   · rename_i c; rw [if_pos c]; exact ⟨n, by omega, rfl, c⟩
   · rename_i c; rw [if_neg c]
     obtain ⟨k, k1, k2, k3⟩ := refL_open (by omega) e
     exact ⟨k, by omega, k2, k3⟩
theorem why_ok {d : GDirectory} {a : GEstate} (g : GoodD d) (h : Good a) (p pl t : Int) : Ok (F_i d a p pl t) fun y => y.2 = decide (mayP d a p pl t) ∧ (mayP d a p pl t → y.1.Place = pl ∧ y.1.Time = t ∧ y.1.Chain.length ≤ 24 ∧ provP d a p y.1) ∧ (¬ mayP d a p pl t → y.1 = ⟨0,0,0,0,[]⟩) := by
 have hkl := g.kl
 unfold F_i
 rw [may_eq g h]
 simp only [Option.bind_some]
 refine Ok.ite (fun c => ?_) fun c => ?_
 · have c : ¬ mayP d a p pl t := by simpa using c
   exact Ok.ret ⟨by simp [c], fun hm => absurd hm c, fun _ => rfl⟩
 have c : mayP d a p pl t := by simpa using c
 obtain ⟨⟨cr, c0, c1⟩, c2⟩ := id c
 have hk := known_of h c0 c1
 rw [linked_eq t hk]
 simp only [Option.bind_some]
 refine Ok.ite (fun c3 => ?_) fun c3 => ?_
 · rw [← refL_lkf] at c3 ⊢
   obtain ⟨k, k1, k2, k3⟩ := refL_open (Nat.le_refl _) c3
   rw [k2]
   refine Ok.ret ⟨by simp [c], fun _ => ⟨rfl, rfl, by simp, ⟨cr, c0, c1⟩, .inl ⟨by show (k : Int) ≠ -1; omega, rfl, rfl, by show 0 ≤ (k : Int); omega, by show (k : Int) < _; omega, by show openP pl t a.Events (k : Int).toNat; rw [Int.toNat_natCast]; exact k3⟩⟩, fun hm => absurd c hm⟩
 · rw [rgrant_eq (upward_eq g t cr.1 cr.2.1) (granted_eq t h.len hk)]
   simp only [Option.bind_some]
   obtain ⟨q, hq, hu, e⟩ : ∃ q, q ∈ keysf pl t a.Events ∧ q ∈ upl d p t ∧ fst0 ((srtI (keysf pl t a.Events)).find? fun x => decide (x ∈ upl d p t)) = (q, true) := by
     cases e : (srtI (keysf pl t a.Events)).find? fun x => decide (x ∈ upl d p t) with
     | some y =>
       exact ⟨y, srtI_mem.1 (List.mem_of_find?_eq_some e), by have := List.find?_some e; simpa using this, rfl⟩
     | none =>
       rcases c2 with c2 | ⟨x, hx, hu⟩
       · rw [c3] at c2; cases c2
       · have := List.find?_eq_none.1 e x (srtI_mem.2 hx)
         simp [hu] at this
   rw [e]
   simp only [grant_eq q t hk, Option.bind_some]
   obtain ⟨v, hv⟩ : ∃ v, aget q (grf pl t a.Events) = some v := aget_some (by rw [grf_keys]; exact hq)
   obtain ⟨n, rfl, n1, n2, n3, n4, n5, n6⟩ := grant_told _ _ _ _ _ hv
   rw [hv]
   simp only [Option.getD_some]
   refine Ok.jn (P := fun j : GReading => ∃ ch : List Int, j = ⟨pl, t, -1, (n : Int), ch⟩ ∧ ch ≠ [] ∧ ch.length ≤ 24 ∧ ch.getD 0 default = p ∧ ch.getD (ch.length - 1) default = q ∧ (ch.length = 1 ∨ 2 ≤ ch.length ∧ Chn (dlk d t) d.Kinds.length ch)) ?_ fun j hj => ?_
   · refine Ok.ite (fun c4 => ?_) fun c4 => ?_
     · have c4 : ¬ q = p := by simpa using c4
       refine Ok.bind (dwhy_ok g cr.1 cr.2.1 hu c4) fun y hy => Ok.ret ⟨y.1, rfl, fun e => ?_, ?_, hy.2.2.1, hy.2.2.2.1, .inr ⟨hy.2.2.2.2, hy.2.1⟩⟩
       · have := hy.2.2.2.2; rw [e] at this; simp at this
       · have hc := hy.2.1
         have := range_len hc.nd hc.rg
         omega
     · have c4 : q = p := by simpa using c4
       exact Ok.ret ⟨[p], rfl, by simp, by simp, rfl, c4.symm, .inl rfl⟩
   · obtain ⟨ch, rfl, j1, j2, j3, j4, j5⟩ := hj
     refine Ok.ret ⟨by simp [c], fun _ => ⟨rfl, rfl, j2, ⟨cr, c0, c1⟩, .inr ⟨rfl, j1, by show 0 ≤ (n : Int); omega, by show (n : Int) < _; omega, ?_⟩⟩, fun hm => absurd c hm⟩
     simp only [Int.toNat_natCast]
     exact ⟨n2, n3, n5, by rw [n4]; exact hq, j3, by rw [n4]; exact j4, j5⟩
end Go.Ab
