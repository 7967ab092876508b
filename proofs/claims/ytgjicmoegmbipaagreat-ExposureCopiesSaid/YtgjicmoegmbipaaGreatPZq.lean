/- The reference's estates are the program's: what is valid. -/
import Derived.Test.YtgjicmoegmbipaaGreatPY
import Derived.Test.YtgjicmoegmbipaaGreatLCop
set_option linter.all false
set_option linter.all false
namespace Go.Ab
open Go.Proofs
theorem rin_eq (n lo hi : Int) : F_5 n lo hi = some (decide (lo ≤ n ∧ n ≤ hi)) := by simp [F_5, grp]
open Classical in
theorem event_eq (a : GEstate) (x : GAccess) (h1 : 1 ≤ a.Places) (h2 : a.Places ≤ 16) : F_1l a x = some (decide (xok a.Places x)) := by
 have hin : ∀ o : Option Bool, chk (in64 (a.Places - 1)) o = o := fun o => chk_true (in64_sm (n := a.Places - 1) (by omega) (by omega))
 obtain ⟨T, K, P, pr, U, C, F⟩ := x
 simp only [F_1l, rin_eq, Option.bind_some, jn, grp, hin, decide_true, Bool.true_and]
 by_cases t1 : 0 ≤ T ∧ T ≤ 1099511627776
 · by_cases t2 : 0 ≤ P ∧ P ≤ a.Places - 1
   · simp only [t1, t2, and_self, decide_true, Bool.not_true, cond_false]
     by_cases k1 : K = 1
     · subst k1
       by_cases c1 : U = 0 <;> by_cases c2 : C = 0 <;> by_cases c3 : F = 0 <;> simp [xok, c1, c2, c3, t1, t2]
     by_cases k2 : K = 2
     · subst k2
       by_cases c1 : U = 0 <;> by_cases c2 : C = 0 <;> by_cases c3 : F = 0 <;> simp [xok, c1, c2, c3, t1, t2]
     by_cases k3 : K = 3
     · subst k3
       by_cases c1 : pr = 0 <;> by_cases c2 : C = 0 <;> by_cases c3 : F = 0 <;> by_cases c4 : T < U <;> simp [xok, c1, c2, c3, c4, t1, t2]
     by_cases k4 : K = 4
     · subst k4
       by_cases c1 : pr = 0 <;> by_cases c2 : C = 0 <;> by_cases c3 : F = 0 <;> by_cases c4 : U = 0 <;> simp [xok, c1, c2, c3, c4, t1, t2]
     by_cases k5 : K = 5
     · subst k5
       by_cases c1 : pr = 0 <;> by_cases c2 : U = 0 <;> by_cases c3 : F = 0 <;> simp [xok, c1, c2, c3, t1, t2]
     by_cases k6 : K = 6
     · subst k6
       by_cases c1 : pr = 0 <;> by_cases c2 : U = 0 <;> by_cases c3 : F = 0 <;> simp [xok, c1, c2, c3, t1, t2]
     by_cases k7 : K = 7
     · subst k7
       by_cases c1 : pr = 0 <;> by_cases c2 : U = 0 <;> by_cases c3 : C = 0 <;> by_cases c4 : F = P <;> simp [xok, c1, c2, c3, c4, t1, t2] <;> omega
     · simp [xok, k1, k2, k3, k4, k5, k6, k7, t1, t2]
   · have : ¬ xok a.Places ⟨T, K, P, pr, U, C, F⟩ := fun h => t2 ⟨h.2.2.1, h.2.2.2.1⟩
     simp [t1, t2, this]
 · have : ¬ xok a.Places ⟨T, K, P, pr, U, C, F⟩ := fun h => t1 ⟨h.1, h.2.1⟩
   simp [t1, this]
open Classical in
theorem validL_eq (a : GEstate) (h1 : 1 ≤ a.Places) (h2 : a.Places ≤ 16) (hn : a.Events.length ≤ 120) : ∀ (l : List GAccess) (k : Nat) (last : Int), a.Events.drop k = l → (0 < k → (a.Events.getD (k - 1) default).Time = last) → (k = 0 → last = 0) → k ≤ a.Events.length →
   forL (F_2p a) l (k : Int) () = some (if chain a.Places last l then .nx () else .ex false)
 | [], k, last, hd, hl, h0, hk => by simp [forL, chain]
 | x :: r, k, last, hd, hl, h0, hk => by
   have hlt : k < a.Events.length := by
     rcases Nat.lt_or_ge k a.Events.length with h | h
     · exact h
     · rw [List.drop_eq_nil_of_le h] at hd; cases hd
   rw [List.drop_eq_getElem_cons hlt] at hd
   obtain ⟨e1, e2⟩ := List.cons.inj hd
   have hx : (a.Events.getD (k + 1 - 1) default) = x := by rw [Nat.add_sub_cancel, List.getD_eq_getElem?_getD, List.getElem?_eq_getElem hlt]; exact e1
   have ih := fun last h => validL_eq a h1 h2 hn r (k + 1) last e2 h (by omega) hlt
   simp only [forL, F_2p, event_eq a x h1 h2, Option.bind_some, chain]
   by_cases c : xok a.Places x
   · simp only [c, decide_true, Bool.not_true, cond_false, true_and]
     have ih' := ih x.Time (fun _ => by rw [hx])
     rw [show ((k + 1 : Nat) : Int) = (k : Int) + 1 by simp] at ih'
     by_cases ck : 0 < k
     · have e3 : decide (0 < (k : Int)) = true := decide_eq_true (by omega)
       have e4 : in64 ((k : Int) - 1) = true := in64_sm (by omega) (by omega)
       have e5 : inb ((k : Int) - 1) a.Events.length = true := inb_iff.2 ⟨by omega, by omega⟩
       have e6 : ((k : Int) - 1).toNat = k - 1 := by omega
       simp only [e3, cond_true, chk_true e4, chk_true e5, e6, hl ck]
       by_cases c3 : x.Time < last
       · have : ¬ last ≤ x.Time := by omega
         simp [c3, this, Fl_ex]
       · have : last ≤ x.Time := by omega
         simp [c3, this, Fl_nx, ih']
     · have e3 : decide (0 < (k : Int)) = false := decide_eq_false (by omega)
       have hk0 : k = 0 := by omega
       have : last ≤ x.Time := by rw [h0 hk0]; exact c.1
       simp only [e3, cond_false, Option.bind_some, Fl_nx, this, true_and, ih']
   · simp [c, Fl_ex]
open Classical in
theorem valid_eq (a : GEstate) : F_h a = some (decide (Good a)) := by
 simp only [F_h, rin_eq, Option.bind_some, grp]
 by_cases c : 1 ≤ a.Places ∧ a.Places ≤ 16
 · by_cases c2 : a.Events.length ≤ 120
   · have c' : (!decide (1 ≤ a.Places ∧ a.Places ≤ 16) || decide (120 < (a.Events.length : Int))) = false := by simp [c]; omega
     have h := validL_eq a c.1 c.2 c2 a.Events 0 0 rfl (fun h => by omega) (fun _ => rfl) (by omega)
     simp only [show ((0 : Nat) : Int) = 0 from rfl] at h
     simp only [c', cond_false, h, Option.bind_some]
     by_cases hc : chain a.Places 0 a.Events
     · have : Good a := (good_iff a).2 ⟨c, c2, hc⟩
       simp [this, hc, Fl_nx]
     · have : ¬ Good a := fun h => hc ((good_iff a).1 h).2.2
       simp [this, hc, Fl_ex]
   · have c' : (!decide (1 ≤ a.Places ∧ a.Places ≤ 16) || decide (120 < (a.Events.length : Int))) = true := by simp; omega
     have : ¬ Good a := fun h => c2 h.len
     simp only [c', cond_true, this, decide_false]
 · have : ¬ Good a := fun h => c ⟨h.lo, h.hi⟩
   simp [c, this]
open Classical in
theorem rplace_eq (a : GEstate) (p : Int) : F_2 a p = F_1 a p := by
 rw [known_eq]
 simp only [F_2, valid_eq, Option.bind_some, jn]
 by_cases h : Good a
 · have := h.lo; have := h.hi
   simp [h, rin_eq, chk_true (in64_sm (n := a.Places - 1) (by omega) (by omega))]
 · simp [h]
theorem known_cases (a : GEstate) (p : Int) : (F_1 a p = some true ∧ Good a ∧ 0 ≤ p ∧ p ≤ a.Places - 1) ∨ F_1 a p = some false := by
 classical
 rw [known_eq]
 by_cases h : Good a ∧ 0 ≤ p ∧ p ≤ a.Places - 1
 · left; exact ⟨congrArg some (decide_eq_true h), h⟩
 · right; exact congrArg some (decide_eq_false h)
theorem aget_aput {β : Type} (q k : Int) (v : β) : ∀ m : List (Int × β), aget q (aput k v m) = if q = k then some v else aget q m
 | [] => by by_cases e : q = k <;> simp [aput, aget, e]
 | (a, b) :: r => by
   by_cases e : k = a
   · subst e
     by_cases e2 : q = k <;> simp [aput, aget, e2]
   · simp only [aput, if_neg e, aget, aget_aput q k v r]
     by_cases e2 : q = a
     · subst e2
       have : ¬ q = k := fun h => e h.symm
       simp [this]
     · simp [e2]
theorem aget_none {β : Type} {q : Int} : ∀ {m : List (Int × β)}, q ∉ m.map Prod.fst → aget q m = none
 | [], h => rfl
 | (a, b) :: r, h => by
   simp only [List.map_cons, List.mem_cons, not_or] at h
   simp only [aget, if_neg h.1, aget_none h.2]
theorem aget_some {β : Type} {q : Int} : ∀ {m : List (Int × β)}, q ∈ m.map Prod.fst → ∃ v, aget q m = some v
 | (a, b) :: r, h => by
   by_cases e : q = a
   · exact ⟨b, by simp [aget, e]⟩
   · have : q ∈ r.map Prod.fst := by simpa [e] using h
     obtain ⟨v, hv⟩ := aget_some this
     exact ⟨v, by simp [aget, e, hv]⟩
theorem aget_isSome {β : Type} (q : Int) (m : List (Int × β)) : (aget q m).isSome = decide (q ∈ m.map Prod.fst) := by
 by_cases h : q ∈ m.map Prod.fst
 · obtain ⟨v, hv⟩ := aget_some h
   rw [hv]; exact (decide_eq_true h).symm
 · rw [aget_none h]; exact (decide_eq_false h).symm
theorem aget_adel {β : Type} (q k : Int) : ∀ m : List (Int × β), (m.map Prod.fst).Nodup → aget q (adel k m) = if q = k then none else aget q m
 | [], h => by simp [adel, aget]
 | (a, b) :: r, h => by
   simp only [List.map_cons, List.nodup_cons] at h
   by_cases e : k = a
   · subst e
     by_cases e2 : q = k
     · subst e2
       simp only [adel, if_true]
       exact aget_none h.1
     · simp [adel, aget, e2]
   · simp only [adel, if_neg e, aget, aget_adel q k r h.2]
     by_cases e2 : q = a
     · subst e2
       have : ¬ q = k := fun h => e h.symm
       simp [this]
     · simp [e2]
theorem grf_nodup (p t : Int) (l : List GAccess) : ((grf p t l).map Prod.fst).Nodup := by rw [grf_keys]; exact keysf_nodup p t l
theorem grf_snoc (p t : Int) (l : List GAccess) (x : GAccess) : grf p t (l ++ [x]) = gst p t l.length x (grf p t l) := by
 simp only [grf, foldP_append, foldP, Int.zero_add]
def told (p t q : Int) (l : List GAccess) (n : Nat) : Prop :=
 n < l.length ∧ (l.getD n default).Kind = 1 ∧ (l.getD n default).Place = p ∧ (l.getD n default).Principal = q ∧ (l.getD n default).Time ≤ t ∧ ∀ y ∈ l.drop (n + 1), ¬ (y.Kind = 2 ∧ y.Place = p ∧ y.Principal = q ∧ y.Time ≤ t)
theorem told_snoc {p t q : Int} {l : List GAccess} {n : Nat} {x : GAccess} (h : told p t q l n) (hx : ¬ (x.Kind = 2 ∧ x.Place = p ∧ x.Principal = q ∧ x.Time ≤ t)) : told p t q (l ++ [x]) n := by
 obtain ⟨h1, h2, h3, h4, h5, h6⟩ := h
 have e : (l ++ [x]).getD n default = l.getD n default := by rw [List.getD_eq_getElem?_getD, List.getD_eq_getElem?_getD, List.getElem?_append_left h1]
 refine ⟨by simp; omega, by rw [e]; exact h2, by rw [e]; exact h3, by rw [e]; exact h4, by rw [e]; exact h5, fun y hy => ?_⟩
 rw [List.drop_append_of_le_length (by omega), List.mem_append, List.mem_singleton] at hy
 rcases hy with hy | rfl
 · exact h6 y hy
 · exact hx
theorem grant_told (p t q : Int) (l : List GAccess) (k : Int) (h : aget q (grf p t l) = some k) : ∃ n : Nat, k = n ∧ told p t q l n := by
 induction l using revList_ind generalizing k with
 | h0 => cases h
 | h1 l x ih =>
   rw [grf_snoc] at h
   unfold gst at h
   split at h
   · rename_i c
     obtain ⟨n, e, hn⟩ := ih k h
     exact ⟨n, e, told_snoc hn (by omega)⟩
   · rename_i c
     split at h
     · rename_i c2
       rw [aget_aput] at h
       split at h
       · rename_i c3
         cases h
         refine ⟨l.length, rfl, by simp, ?_⟩
         have e : (l ++ [x]).getD l.length default = x := by simp
         rw [e]
         refine ⟨c2, by omega, c3.symm, by omega, fun y hy => ?_⟩
         rw [List.drop_eq_nil_of_le (by simp)] at hy
         cases hy
       · obtain ⟨n, e, hn⟩ := ih k h
         exact ⟨n, e, told_snoc hn (by omega)⟩
     · split at h
       · rw [aget_adel _ _ _ (grf_nodup p t l)] at h
         split at h
         · cases h
         · rename_i c3
           obtain ⟨n, e, hn⟩ := ih k h
           exact ⟨n, e, told_snoc hn fun hh => c3 hh.2.2.1.symm⟩
       · obtain ⟨n, e, hn⟩ := ih k h
         exact ⟨n, e, told_snoc hn (by omega)⟩
open Classical in
theorem rreader_eq {d : GDirectory} (g : GoodD d) (p : Int) : F_i d p = some (decide (rdr d p)) := by
 have hk := g.kl
 have hx : F_3 d p = some (decide (0 ≤ p ∧ p < d.Kinds.length)) := by
   unfold F_3
   rw [chk_true (in64_smD (by omega) (by omega))]
   simp only [F_b, grp, Option.bind_some]
   congr 1
   by_cases q : 0 ≤ p ∧ p < (d.Kinds.length : Int)
   · rw [decide_eq_true q, decide_eq_true q.1, decide_eq_true (show p ≤ (d.Kinds.length : Int) - 1 by omega)]; rfl
   · rw [decide_eq_false q]
     by_cases q1 : 0 ≤ p
     · rw [decide_eq_true q1, decide_eq_false (show ¬ p ≤ (d.Kinds.length : Int) - 1 by omega)]; rfl
     · rw [decide_eq_false q1]; rfl
 unfold F_i
 simp only [hx, Option.bind_some, jn]
 by_cases q : 0 ≤ p ∧ p < (d.Kinds.length : Int)
 · simp only [decide_eq_true q, cond_true, chk_true (inb_iff.2 q), Option.bind_some]
   by_cases w : d.Kinds.getD p.toNat default = 2
   · have : ¬ rdr d p := fun h => h.2.2 w
     rw [decide_eq_true w, decide_eq_false this]; rfl
   · have : rdr d p := ⟨q.1, q.2, w⟩
     rw [decide_eq_false w, decide_eq_true this]; rfl
 · have : ¬ rdr d p := fun h => q ⟨h.1, h.2.1⟩
   simp [decide_eq_false q, this]
end Go.Ab
namespace Go.Ab
open Go.Proofs
def rgst (p q t : Int) (i : Int) (x : GAccess) (s : Int) : Int :=
 if t < x.Time ∨ x.Place ≠ p ∨ x.Principal ≠ q then s else if x.Kind = 1 then i else if x.Kind = 2 then -1 else s
theorem rgst_body (p q t k : Int) (x : GAccess) (s : Int) : F_2q p q t k x s = some (rgst p q t k x s) := by
 simp only [F_2q, grp, rgst]
 by_cases c : t < x.Time ∨ x.Place ≠ p ∨ x.Principal ≠ q
 · have c' : (decide (t < x.Time) || !decide (x.Place = p) || !decide (x.Principal = q)) = true := by
     simp only [Bool.or_eq_true, decide_eq_true_eq, Bool.not_eq_true', decide_eq_false_iff_not]; omega
   simp only [c', cond_true, if_pos c]
 · have c' : (decide (t < x.Time) || !decide (x.Place = p) || !decide (x.Principal = q)) = false := by
     simp only [Bool.or_eq_false_iff, decide_eq_false_iff_not, Bool.not_eq_false', decide_eq_true_eq]; omega
   simp only [c', cond_false, if_neg c]
   by_cases c2 : x.Kind = 1
   · simp [c2]
   · by_cases c3 : x.Kind = 2 <;> simp [c2, c3]
theorem rgrant_aget (p q t : Int) (l : List GAccess) : foldP (rgst p q t) l 0 (-1) = (aget q (grf p t l)).getD (-1) := by
 induction l using revList_ind with
 | h0 => rfl
 | h1 l x ih =>
   rw [foldP_append, grf_snoc]
   simp only [foldP, Int.zero_add, ih, rgst, gst]
   by_cases c : t < x.Time ∨ x.Place ≠ p
   · rw [if_pos (by omega), if_pos c]
   · rw [if_neg c]
     by_cases cq : x.Principal = q
     · rw [if_neg (by omega)]
       by_cases c2 : x.Kind = 1
       · rw [if_pos c2, if_pos c2, aget_aput, if_pos cq.symm]; rfl
       · rw [if_neg c2, if_neg c2]
         by_cases c3 : x.Kind = 2
         · rw [if_pos c3, if_pos c3, aget_adel _ _ _ (grf_nodup p t l), if_pos cq.symm]; rfl
         · rw [if_neg c3, if_neg c3]
     · have cq' : ¬ q = x.Principal := fun h => cq h.symm
       rw [if_pos (by omega)]
       by_cases c2 : x.Kind = 1
       · rw [if_pos c2, aget_aput, if_neg cq']
       · rw [if_neg c2]
         by_cases c3 : x.Kind = 2
         · rw [if_pos c3, aget_adel _ _ _ (grf_nodup p t l), if_neg cq']
         · rw [if_neg c3]
theorem rgrantx_eq (a : GEstate) (p q t : Int) : F_z a p q t = some ((aget q (grf p t a.Events)).getD (-1)) := by
 simp only [F_z, foldL_plain (rgst p q t) (rgst_body p q t), Option.bind_some, rgrant_aget]
theorem aget_nonneg {p t q k : Int} {l : List GAccess} (h : aget q (grf p t l) = some k) : 0 ≤ k := by
 obtain ⟨n, rfl, _⟩ := grant_told p t q l k h; omega
theorem pairwise_range (n : Nat) : ((List.range n).map fun i : Nat => (i : Int)).Pairwise fun x y => x < y := by
 rw [List.pairwise_map]
 exact List.pairwise_lt_range.imp fun h => by omega
theorem rGranted_eq (a : GEstate) (p t : Int) : F_18 a p t = F_m a p t := by
 simp only [F_18, rplace_eq]
 rcases known_cases a p with ⟨h, g, _⟩ | h
 · rw [granted_eq t g.len h, h]
   simp only [Option.bind_some, Bool.not_true, cond_false]
   have key : ∀ q : Int, decide (0 ≤ (aget q (grf p t a.Events)).getD (-1)) = decide (q ∈ keysf p t a.Events) := fun q => by
     have e : (aget q (grf p t a.Events)).isSome = decide (q ∈ keysf p t a.Events) := by rw [aget_isSome, grf_keys]
     rw [← e]
     cases ha : aget q (grf p t a.Events) with
     | none => rfl
     | some k => simpa using aget_nonneg ha
   refine Ok.eq (Ok.bind (Ok.loop (Q := fun r => r = srtI (keysf p t a.Events)) (fun x => 0 ≤ x.1 ∧ x.1 ≤ 24 ∧ x.2 = ((List.range x.1.toNat).map fun i : Nat => (i : Int)).filter fun q => decide (q ∈ keysf p t a.Events)) (fun x => (24 - x.1).toNat) (fun x hx => ?_) _ ⟨by omega, by omega, rfl⟩) fun r hr => Ok.ret hr)
   obtain ⟨i, out⟩ := x
   obtain ⟨h1, h2, h3⟩ := hx
   simp only at h1 h2 h3
   subst h3
   have hl := List.length_filter_le (fun q => decide (q ∈ keysf p t a.Events)) ((List.range i.toNat).map fun i : Nat => (i : Int))
   simp only [List.length_map, List.length_range] at hl
   unfold F_3j
   refine Ok.ite (fun c => ?_) fun c => ?_
   · have c : i < 24 := by simpa using c
     rw [rgrantx_eq]
     simp only [Option.bind_some, key]
     have e1 : (i + 1).toNat = i.toNat + 1 := by omega
     refine Ok.jn (P := fun j => j = ((List.range (i + 1).toNat).map fun i : Nat => (i : Int)).filter fun q => decide (q ∈ keysf p t a.Events)) (Ok.ite (fun cc => Ok.chk (room_sm (by simp only [List.length_singleton]; omega)) (Ok.ret ?_)) fun cc => Ok.ret ?_) fun j hj => ?_
     · rw [e1, List.range_succ, List.map_append, List.filter_append]
       have e2 : ((i.toNat : Nat) : Int) = i := by omega
       simp only [List.map_cons, List.map_nil, e2, List.filter_cons, cc, if_true, List.filter_nil]
     · rw [e1, List.range_succ, List.map_append, List.filter_append]
       have e2 : ((i.toNat : Nat) : Int) = i := by omega
       simp [e2, cc]
     · refine Ok.chk (in64_sm (by omega) (by omega)) (Ok.ret ?_)
       exact ⟨⟨by show 0 ≤ i + 1; omega, by show i + 1 ≤ 24; omega, hj⟩, by show (24 - (i + 1)).toNat < (24 - i).toNat; omega⟩
   · have c : ¬ i < 24 := by simpa using c
     have : i = 24 := by omega
     subst this
     refine Ok.ret ?_
     show _ = _
     have hsr : (((List.range (Int.toNat 24)).map fun i : Nat => (i : Int)).filter fun q => decide (q ∈ keysf p t a.Events)).Pairwise (fun x y => x ≤ y) := List.Pairwise.filter _ ((pairwise_range 24).imp fun h => Int.le_of_lt h)
     refine sorted_unique ?_ hsr (srtI_sorted _)
     refine List.Perm.trans ?_ (srtI_perm _).symm
     refine (List.perm_ext_iff_of_nodup ?_ (keysf_nodup p t a.Events)).2 fun q => ?_
     · exact List.Pairwise.filter _ ((pairwise_range 24).imp fun h => Int.ne_of_lt h)
     · simp only [List.mem_filter, List.mem_map, List.mem_range, decide_eq_true_eq]
       constructor
       · rintro ⟨_, h⟩; exact h
       · intro hq
         refine ⟨?_, hq⟩
         obtain ⟨w, hw, hw1, hw2, _⟩ := keysf_mem hq
         have := (g.ev w hw).2.2.2.2
         exact ⟨q.toNat, by show q.toNat < (24 : Int).toNat; omega, by omega⟩
 · simp [h, F_m]
def unl (p t : Int) (y : GAccess) : Prop := y.Kind = 4 ∧ y.Place = p ∧ y.Time ≤ t
def lnk (p t : Int) (x : GAccess) : Prop := x.Kind = 3 ∧ x.Place = p ∧ x.Time ≤ t ∧ t < x.Until
def openP (p t : Int) (l : List GAccess) (k : Nat) : Prop := lnk p t (l.getD k default) ∧ ∀ y ∈ l.drop (k + 1), ¬ unl p t y
open Classical in
noncomputable def refL (p t : Int) (l : List GAccess) : Nat → Int × Bool
 | 0 => (0, false)
 | n + 1 => if openP p t l n then ((n : Int), true) else refL p t l n
theorem openP_snoc {p t : Int} {l : List GAccess} {x : GAccess} {k : Nat} (hk : k < l.length) : openP p t (l ++ [x]) k ↔ openP p t l k ∧ ¬ unl p t x := by
 unfold openP
 rw [show (l ++ [x]).getD k default = l.getD k default by rw [List.getD_eq_getElem?_getD, List.getD_eq_getElem?_getD, List.getElem?_append_left hk], List.drop_append_of_le_length (by omega)]
 simp only [List.mem_append, List.mem_singleton]
 constructor
 · rintro ⟨h1, h2⟩
   exact ⟨⟨h1, fun y hy => h2 y (.inl hy)⟩, h2 x (.inr rfl)⟩
 · rintro ⟨⟨h1, h2⟩, h3⟩
   refine ⟨h1, fun y hy => ?_⟩
   rcases hy with hy | rfl
   · exact h2 y hy
   · exact h3
theorem refL_snoc {p t : Int} {l : List GAccess} {x : GAccess} : ∀ {n : Nat}, n ≤ l.length → (unl p t x → refL p t (l ++ [x]) n = (0, false)) ∧ (¬ unl p t x → refL p t (l ++ [x]) n = refL p t l n)
 | 0, h => ⟨fun _ => rfl, fun _ => rfl⟩
 | n + 1, h => by
   have ih := refL_snoc (p := p) (t := t) (l := l) (x := x) (n := n) (by omega)
   constructor
   · intro hu
     have : ¬ openP p t (l ++ [x]) n := fun h' => ((openP_snoc (by omega)).1 h').2 hu
     simp only [refL, if_neg this, ih.1 hu]
   · intro hu
     have : openP p t (l ++ [x]) n ↔ openP p t l n := by rw [openP_snoc (by omega)]; exact ⟨fun h => h.1, fun h => ⟨h, hu⟩⟩
     by_cases hh : openP p t l n
     · simp only [refL, if_pos (this.2 hh), if_pos hh]
     · simp only [refL, if_neg (fun h => hh (this.1 h)), if_neg hh, ih.2 hu]
theorem refL_lkf (p t : Int) (l : List GAccess) : refL p t l l.length = lkf p t l 0 (0, false) := by
 induction l using revList_ind with
 | h0 => rfl
 | h1 l x ih =>
   rw [List.length_append, List.length_singleton, lkf_append]
   simp only [lkf, Int.zero_add, refL]
   have e : (l ++ [x]).getD l.length default = x := by simp
   have ho : openP p t (l ++ [x]) l.length ↔ lnk p t x := by
     unfold openP
     rw [e, List.drop_eq_nil_of_le (by simp)]
     simp
   rw [← ih]
   have hs := refL_snoc (p := p) (t := t) (l := l) (x := x) (Nat.le_refl l.length)
   unfold lst
   by_cases hl : lnk p t x
   · rw [if_pos (ho.2 hl)]
     obtain ⟨h1, h2, h3, h4⟩ := hl
     rw [if_neg (by omega), if_neg (by omega), if_pos ⟨h1, h4⟩]
   · rw [if_neg fun h => hl (ho.1 h)]
     by_cases hu : unl p t x
     · rw [hs.1 hu]
       obtain ⟨h1, h2, h3⟩ := hu
       rw [if_neg (by omega), if_pos h1]
     · rw [hs.2 hu]
       by_cases c : t < x.Time ∨ x.Place ≠ p
       · rw [if_pos c]
       · rw [if_neg c]
         have : ¬ x.Kind = 4 := fun h => hu ⟨h, by omega, by omega⟩
         rw [if_neg this]
         have : ¬ (x.Kind = 3 ∧ t < x.Until) := fun h => hl ⟨h.1, by omega, by omega, h.2⟩
         rw [if_neg this]
open Classical in
theorem findU (p t : Int) : ∀ m : List GAccess, findL (fun y => if unl p t y then some false else none) m = if ∀ y ∈ m, ¬ unl p t y then none else some false
 | [] => by simp [findL]
 | y :: r => by
   by_cases hu : unl p t y
   · have : ¬ ∀ z ∈ y :: r, ¬ unl p t z := fun h => h y (by simp) hu
     rw [if_neg this]
     simp only [findL, if_pos hu]
   · simp only [findL, if_neg hu, findU p t r]
     by_cases hr : ∀ z ∈ r, ¬ unl p t z
     · have : ∀ z ∈ y :: r, ¬ unl p t z := fun z hz => by
         rcases List.mem_cons.1 hz with rfl | hz
         · exact hu
         · exact hr z hz
       rw [if_pos hr, if_pos this]
     · have : ¬ ∀ z ∈ y :: r, ¬ unl p t z := fun h => hr fun z hz => h z (by simp [hz])
       rw [if_neg hr, if_neg this]
open Classical in
theorem open_ex {a : GEstate} {p t : Int} (hn : a.Events.length ≤ 120) (h : F_1 a p = some true) {k : Nat} (hk : k < a.Events.length) : ∃ b, F_c a p (k : Int) t = some b ∧ (b = true ↔ openP p t a.Events k) := by
 have i1 : in64 ((a.Events.length : Int) - 1) = true := in64_sm (by omega) (by omega)
 have i2 : decide (0 ≤ (k : Int) ∧ (k : Int) ≤ (a.Events.length : Int) - 1) = true := decide_eq_true (by omega)
 have i3 : inb (k : Int) a.Events.length = true := inb_iff.2 ⟨by omega, by omega⟩
 have i4 : in64 ((k : Int) + 1) = true := in64_sm (by omega) (by omega)
 have i5 : inc ((k : Int) + 1) (a.Events.length : Int) a.Events.length = true := inc_iff.2 ⟨by omega, by omega, by omega⟩
 have i6 : ((k : Int) + 1).toNat = k + 1 := by omega
 simp only [F_c, rplace_eq, h, Option.bind_some, Bool.not_true, cond_false, chk_true i1, rin_eq, i2, chk_true i3, chk_true i4, chk_true i5, i6, Int.toNat_natCast, grp]
 by_cases c1 : lnk p t (a.Events.getD k default)
 · have c1' := c1
   unfold lnk at c1'
   have e : (!decide ((a.Events.getD k default).Kind = 3) || !decide ((a.Events.getD k default).Place = p) || decide (t < (a.Events.getD k default).Time) || decide ((a.Events.getD k default).Until ≤ t)) = false := by
     simp only [Bool.or_eq_false_iff, decide_eq_false_iff_not, Bool.not_eq_false', decide_eq_true_eq]; omega
   simp only [e, cond_false]
   rw [forL_find (fun y => if unl p t y then some false else none) (a.Events.drop (k + 1)) 0 fun k y _ => by
     simp only [F_2y, grp]
     by_cases hu : unl p t y
     · have e : (decide (y.Kind = 4) && decide (y.Place = p) && decide (y.Time ≤ t)) = true := by
         simp only [Bool.and_eq_true, decide_eq_true_eq]; exact ⟨⟨hu.1, hu.2.1⟩, hu.2.2⟩
       simp only [e, cond_true, if_pos hu, flO]
     · have e : (decide (y.Kind = 4) && decide (y.Place = p) && decide (y.Time ≤ t)) = false := by
         cases hh : (decide (y.Kind = 4) && decide (y.Place = p) && decide (y.Time ≤ t)) with
         | false => rfl
         | true =>
           simp only [Bool.and_eq_true, decide_eq_true_eq] at hh
           exact absurd ⟨hh.1.1, hh.1.2, hh.2⟩ hu
       simp only [e, cond_false, if_neg hu, flO]]
   simp only [Option.bind_some, elim_flO, findU]
   by_cases hr : ∀ y ∈ a.Events.drop (k + 1), ¬ unl p t y
   · simp only [if_pos hr]
     exact ⟨true, rfl, fun _ => ⟨c1, hr⟩, fun _ => rfl⟩
   · simp only [if_neg hr]
     exact ⟨false, rfl, iff_of_false (by simp) fun h => hr h.2⟩
 · have e : (!decide ((a.Events.getD k default).Kind = 3) || !decide ((a.Events.getD k default).Place = p) || decide (t < (a.Events.getD k default).Time) || decide ((a.Events.getD k default).Until ≤ t)) = true := by
     unfold lnk at c1
     simp only [Bool.or_eq_true, decide_eq_true_eq, Bool.not_eq_true', decide_eq_false_iff_not]; omega
   simp only [e, cond_true]
   exact ⟨false, rfl, iff_of_false (by simp) fun h => c1 h.1⟩
open Classical in
theorem open_eq {a : GEstate} {p t : Int} (hn : a.Events.length ≤ 120) (h : F_1 a p = some true) {k : Nat} (hk : k < a.Events.length) : F_c a p (k : Int) t = some (decide (openP p t a.Events k)) := by
 obtain ⟨b, hb, hb2⟩ := open_ex (t := t) hn h hk
 rw [hb]
 by_cases c : openP p t a.Events k
 · rw [hb2.2 c, decide_eq_true c]
 · have : b = false := by cases b with
     | false => rfl
     | true => exact absurd (hb2.1 rfl) c
   rw [this, decide_eq_false c]
theorem rLinkedL {a : GEstate} {p t : Int} (hn : a.Events.length ≤ 120) (h : F_1 a p = some true) : ∀ {n : Nat}, n ≤ a.Events.length → ∃ r, loop (F_2c a p t) ((n : Int) - 1) = some r ∧ Sum.elim (fun _ => some (0, false)) (fun u => some u) r = some (refL p t a.Events n)
 | 0, hl => by
   rw [loop_eq]
   simp only [F_2c]
   exact ⟨.inl (), rfl, rfl⟩
 | n + 1, hl => by
   classical
   rw [loop_eq]
   have e0 : ((n + 1 : Nat) : Int) - 1 = (n : Int) := by omega
   have e1 : decide (0 ≤ (n : Int)) = true := decide_eq_true (by omega)
   rw [e0]
   simp only [F_2c, e1, cond_true, open_eq hn h (show n < a.Events.length by omega), Option.bind_some, refL]
   by_cases c : openP p t a.Events n
   · simp only [c, decide_true, cond_true, Option.bind_some, Fl_ex, if_true]
     exact ⟨_, rfl, rfl⟩
   · have i1 : in64 ((n : Int) - 1) = true := in64_sm (by omega) (by omega)
     simp only [c, decide_false, cond_false, chk_true i1, Option.bind_some, Fl_nx, if_false]
     exact rLinkedL hn h (by omega)
theorem rLinkedN {a : GEstate} {p t : Int} (hn : a.Events.length ≤ 120) (h : F_1 a p = some false) : ∀ {n : Nat}, n ≤ a.Events.length → loop (F_2c a p t) ((n : Int) - 1) = some (.inl ())
 | 0, hl => by
   rw [loop_eq]
   rfl
 | n + 1, hl => by
   rw [loop_eq]
   have e0 : ((n + 1 : Nat) : Int) - 1 = (n : Int) := by omega
   have e1 : decide (0 ≤ (n : Int)) = true := decide_eq_true (by omega)
   have i1 : in64 ((n : Int) - 1) = true := in64_sm (by omega) (by omega)
   rw [e0]
   simp only [F_2c, e1, cond_true, F_c, rplace_eq, h, Option.bind_some, Bool.not_false, cond_false, chk_true i1, Fl_nx]
   exact rLinkedN hn h (by omega)
theorem rLinked_eq (a : GEstate) (p t : Int) (hn : a.Events.length ≤ 120) : F_1r a p t = F_6 a p t := by
 have i1 : in64 ((a.Events.length : Int) - 1) = true := in64_sm (by omega) (by omega)
 simp only [F_1r, chk_true i1]
 rcases known_cases a p with ⟨h, _⟩ | h
 · rw [linked_eq t h, ← refL_lkf]
   obtain ⟨r, h1, h2⟩ := rLinkedL (t := t) hn h (Nat.le_refl _)
   rw [h1]
   exact h2
 · rw [linked_no t h, rLinkedN hn h (Nat.le_refl _)]
   rfl
end Go.Ab
namespace Go.Ab
open Go.Proofs
theorem rexists_eq {d : GDirectory} (hk : d.Kinds.length ≤ 24) (p : Int) : F_3 d p = some (decide (0 ≤ p ∧ p < d.Kinds.length)) := by
 unfold F_3
 rw [chk_true (in64_smD (by omega) (by omega))]
 simp only [F_b, grp, Option.bind_some]
 congr 1
 by_cases q : 0 ≤ p ∧ p < (d.Kinds.length : Int)
 · rw [decide_eq_true q, decide_eq_true q.1, decide_eq_true (show p ≤ (d.Kinds.length : Int) - 1 by omega)]; rfl
 · rw [decide_eq_false q]
   by_cases q1 : 0 ≤ p
   · rw [decide_eq_true q1, decide_eq_false (show ¬ p ≤ (d.Kinds.length : Int) - 1 by omega)]; rfl
   · rw [decide_eq_false q1]; rfl
theorem dvalid_of {d : GDirectory} (g : GoodD d) : F_8 d = some true := by
 have hk := g.kl
 have he := g.el
 have hin : ∀ x a b : Int, F_b x a b = some (decide (a ≤ x ∧ x ≤ b)) := fun x a b => by simp [F_b, grp]
 refine Ok.eq ?_
 unfold F_8
 refine Ok.grp (Ok.ite (fun q => ?_) fun _ => Ok.bind (P := fun o => o = .nx ()) (Ok.for (fun _ => True) _ 0 () trivial (fun k x s hx _ => ?_) fun s _ => rfl) fun o ho => ?_)
 · simp only [Bool.or_eq_true, decide_eq_true_eq] at q; omega
 · unfold F_2w
   rw [hin, decide_eq_true (g.kd x hx)]
   exact Ok.ret trivial
 subst ho
 rw [Fl_nx]
 refine Ok.bind (P := fun o => o = .nx ()) (Ok.forI (all := d.Events) (fun _ _ => True) _ [] 0 () rfl rfl trivial (fun pre x r s hw _ => ?_) fun s _ => rfl) fun o ho => by subst ho; exact Ok.ret rfl
 have hx : x ∈ d.Events := by rw [hw]; simp
 obtain ⟨m1, m2, m3, m4, m5, m6⟩ := g.ev x hx
 have hgr : F_y d x.Group = some true := by
   unfold F_y
   rw [rexists_eq hk, decide_eq_true (show 0 ≤ x.Group ∧ x.Group < (d.Kinds.length : Int) from ⟨m5.1, m5.2.1⟩)]
   simp only [Option.bind_some, cond_true, jn, chk_true (inb_iff.2 ⟨m5.1, m5.2.1⟩), decide_eq_true m5.2.2]
 have hp : pre.length < d.Events.length := by rw [hw]; simp
 have rest : Ok ((F_3 d x.Principal).bind fun y251 => bif (!y251) then some (.ex false) else (F_y d x.Group).bind fun y252 => bif (!y252) then some (.ex false) else bif decide (x.Principal = x.Group) then some (.ex false) else some (.nx ())) (Fl.elim (fun _ : Unit => True) fun r : Bool => (Fl.ex r : Fl Unit Bool) = .nx ()) := by
   rw [rexists_eq hk, decide_eq_true m4, hgr]
   simp only [Option.bind_some, Bool.not_true, cond_false, decide_eq_false m6]
   exact Ok.ret trivial
 unfold F_2x
 rw [hin, hin, decide_eq_true (show 1 ≤ x.Kind ∧ x.Kind ≤ 2 by omega), decide_eq_true (show 0 ≤ x.Time ∧ x.Time ≤ 1099511627776 from ⟨m2, m3⟩)]
 simp only [Option.bind_some, Bool.not_true, cond_false]
 refine Ok.ite (fun q => ?_) fun _ => rest
 have q : 0 < (pre.length : Int) := by simpa using q
 have h1 : (pre.length : Int) - 1 < d.Events.length := by omega
 refine Ok.chk (in64_smD (by omega) (by omega)) (Ok.chk (inb_iff.2 ⟨by omega, h1⟩) (Ok.ite (fun w => ?_) fun _ => rest))
 exfalso
 have w := of_decide_eq_true w
 have hlt : pre.length - 1 < d.Events.length := by omega
 have e : d.Events.getD ((pre.length : Int) - 1).toNat default = d.Events[pre.length - 1] := by
   rw [show ((pre.length : Int) - 1).toNat = pre.length - 1 by omega, List.getD_eq_getElem?_getD, List.getElem?_eq_getElem hlt]; rfl
 have e2 : d.Events[pre.length] = x := by simp [hw]
 have := (List.pairwise_iff_getElem.1 g.srt) (pre.length - 1) pre.length hlt hp (by omega)
 rw [e2] at this
 rw [e] at w
 omega
theorem rupward_eq {d : GDirectory} (g : GoodD d) {p : Int} (t : Int) (h0 : 0 ≤ p) (h1 : p < d.Kinds.length) : F_17 d p t = some (upl d p t) := by
 have hk := g.kl
 simp only [F_17, dvalid_of g, rexists_eq hk, decide_eq_true (show 0 ≤ p ∧ p < (d.Kinds.length : Int) from ⟨h0, h1⟩), Option.bind_some, Bool.not_true, cond_false]
 have hu : upF d.Kinds.length (d.Events.map fun e => (e.Time, e.Kind, e.Principal, e.Group)) p t = some ((List.range d.Kinds.length).map (oul (dlk d t) d.Kinds.length (fun i => decide (i = p.toNat)) d.Kinds.length)) := by
   unfold upF
   rw [chk_true, chk_true]
   · simp [dlk]
   · simp only [List.all_eq_true, List.mem_map]
     rintro _ ⟨e, he, rfl⟩
     obtain ⟨_, _, _, h4, h5, _⟩ := g.ev e he
     have e1 : inb e.Principal 24 = true := inb_iff.2 ⟨h4.1, by omega⟩
     have e2 : inb e.Group 24 = true := inb_iff.2 ⟨h5.1, by omega⟩
     simp [e1, e2]
   · rw [inb_iff.2 ⟨h0, h1⟩, decide_eq_true hk]; rfl
 rw [hu]
 generalize hy : (List.range d.Kinds.length).map (oul (dlk d t) d.Kinds.length (fun i => decide (i = p.toNat)) d.Kinds.length) = y
 have hyl : y.length = d.Kinds.length := by rw [← hy]; simp
 have hyi : ∀ i, i < d.Kinds.length → gt y i = oul (dlk d t) d.Kinds.length (fun i => decide (i = p.toNat)) d.Kinds.length i := fun i hi => by
   rw [← hy]; simp [gt, List.getD_eq_getElem?_getD, hi]
 have hpn : p.toNat < d.Kinds.length := by omega
 have hRT : ∀ i, i < d.Kinds.length → (gt y i = true ↔ RT (dlk d t) d.Kinds.length p.toNat i) := fun i hi => by
   rw [hyi i hi]
   constructor
   · exact oul_sound (P := fun i => RT (dlk d t) d.Kinds.length p.toNat i) (fun a b ha hb h hl => .step h ha hb hl) (fun i h => by
       have := of_decide_eq_true h
       subst this; exact .refl) _ i
   · intro h
     induction h with
     | refl => exact oul_mono (by simp) _
     | step h ha hb hl ih => exact oul_closed hpn _ _ ha hb (ih ha) hl
 have ht := those_eq y (by omega)
 have hup : F_33 = F_2i := rfl
 simp only [F_14] at ht
 simp only [Option.bind_some, hup]
 rw [ht]
 simp only [upl, hyl]
 congr 2
 refine List.filter_congr fun i hi => ?_
 have := hRT i (List.mem_range.1 hi)
 cases e : gt y i with
 | true => simp [this.1 e]
 | false =>
   have h : ¬ RT (dlk d t) d.Kinds.length p.toNat i := fun h => by rw [this.2 h] at e; cases e
   simp [h]
theorem rhas_eq (l : List Int) (x : Int) : F_10 l x = some (decide (x ∈ l)) := by
 simp only [F_10]
 rw [forL_find (fun y => if y = x then some true else none) l 0 (fun k y _ => by by_cases e : y = x <;> simp [F_2z, e, flO])]
 simp only [Option.bind_some, elim_flO]
 have : findL (fun y => if y = x then some true else none) l = if x ∈ l then some true else none := by
   induction l with
   | nil => rfl
   | cons y r ih =>
     by_cases e : y = x
     · simp [findL, e]
     · have e' : ¬ x = y := fun h => e h.symm
       simp [findL, e, e', ih]
 rw [this]
 by_cases e : x ∈ l <;> simp [e]
open Classical in
theorem rgranted_ex {d : GDirectory} {a : GEstate} {p pl t : Int} {U G : List Int} (h1 : F_17 d p t = some U) (h2 : F_18 a pl t = some G) : F_1s d a p pl t = some (decide (∃ x ∈ G, x ∈ U)) := by
 simp only [F_1s, h1, h2, Option.bind_some]
 rw [forL_find (fun y => if y ∈ U then some true else none) G 0 (fun k y _ => by by_cases e : y ∈ U <;> simp [F_34, rhas_eq, e, flO])]
 simp only [Option.bind_some, elim_flO]
 have : findL (fun y => if y ∈ U then some true else none) G = if ∃ x ∈ G, x ∈ U then some true else none := by
   clear h1 h2
   induction G with
   | nil => simp [findL]
   | cons y r ih =>
     by_cases e : y ∈ U
     · simp [findL, e]
     · simp only [findL, if_neg e]
       rw [ih]
       simp [e]
 rw [this]
 by_cases e : ∃ x ∈ G, x ∈ U <;> simp [e]
open Classical in
theorem rmay_eq {d : GDirectory} {a : GEstate} (g : GoodD d) (h : Good a) (p pl t : Int) : F_19 d a p pl t = some (decide (mayP d a p pl t)) := by
 simp only [F_19, dvalid_of g, rplace_eq, rreader_eq g, rLinked_eq a pl t h.len, rGranted_eq, Option.bind_some, Bool.not_true, cond_false]
 by_cases c1 : 0 ≤ pl ∧ pl ≤ a.Places - 1
 · have hk := known_of h c1.1 c1.2
   simp only [hk, Option.bind_some, Bool.not_true, cond_false]
   by_cases c : rdr d p
   · simp only [decide_eq_true c, Bool.not_true, cond_false, linked_eq t hk, Option.bind_some]
     cases e : (lkf pl t a.Events 0 (0, false)).2 with
     | true =>
       simp only [cond_true, jn, Option.bind_some]
       rw [decide_eq_true (show mayP d a p pl t from ⟨⟨c, c1⟩, .inl e⟩)]
     | false =>
       rw [rgranted_ex (rupward_eq g t c.1 c.2.1) (by rw [rGranted_eq]; exact granted_eq t h.len hk)]
       simp only [cond_false, jn, Option.bind_some, srtI_mem]
       congr 1
       refine decide_eq_decide.2 ⟨fun q => ⟨⟨c, c1⟩, .inr q⟩, fun q => ?_⟩
       rcases q.2 with q | q
       · rw [e] at q; cases q
       · exact q
   · simp only [decide_eq_false c, Bool.not_false, cond_true]
     rw [decide_eq_false (fun q : mayP d a p pl t => c q.1.1)]
 · have hk : F_1 a pl = some false := by
     rw [known_eq, decide_eq_false (fun q : Good a ∧ 0 ≤ pl ∧ pl ≤ a.Places - 1 => c1 q.2)]
   simp only [hk, Option.bind_some, Bool.not_false, cond_true]
   rw [decide_eq_false (fun q : mayP d a p pl t => c1 q.1.2)]
end Go.Ab
namespace Go.Ab
open Go.Proofs
theorem happened_ok {a : GEstate} (g : Good a) (t : Int) : Ok (F_j a t) fun n => ∃ k : Nat, n = (k : Int) ∧ k ≤ a.Events.length ∧ (∀ x ∈ a.Events.take k, x.Time ≤ t) ∧ ∀ x ∈ a.Events.drop k, t < x.Time := by
 have hl := g.len
 unfold F_j
 refine Ok.bind (Ok.loop (fun s : Int => ∃ k : Nat, s = (k : Int) ∧ k ≤ a.Events.length ∧ ∀ x ∈ a.Events.take k, x.Time ≤ t) (fun s => ((a.Events.length : Int) - s).toNat) (fun s hs => ?_) _ ⟨0, rfl, by omega, by simp⟩) fun r hr => Ok.ret hr
 obtain ⟨k, rfl, h1, h2⟩ := hs
 unfold F_2d
 refine Ok.ite (fun q => ?_) fun q => Ok.ret ⟨k, rfl, h1, h2, fun x hx => ?_⟩
 · have q : (k : Int) < a.Events.length := by simpa using q
   have hk : k < a.Events.length := by omega
   have e : a.Events.getD (k : Int).toNat default = a.Events[k] := by
     rw [Int.toNat_natCast, List.getD_eq_getElem?_getD, List.getElem?_eq_getElem hk]; rfl
   refine Ok.chk (inb_iff.2 ⟨by omega, q⟩) ?_
   rw [e]
   refine Ok.ite (fun w => Ok.chk (in64_smD (by omega) (by omega)) (Ok.ret ⟨⟨k + 1, by simp, by omega, fun x hx => ?_⟩, by show ((a.Events.length : Int) - ((k : Int) + 1)).toNat < ((a.Events.length : Int) - (k : Int)).toNat; omega⟩)) fun w => Ok.ret ⟨k, rfl, h1, h2, fun x hx => ?_⟩
   · rw [List.take_succ, List.getElem?_eq_getElem hk] at hx
     simp only [Option.toList_some, List.mem_append, List.mem_singleton] at hx
     rcases hx with hx | rfl
     · exact h2 x hx
     · exact of_decide_eq_true w
   · have w : ¬ a.Events[k].Time ≤ t := of_decide_eq_false w
     rw [List.drop_eq_getElem_cons hk] at hx
     have hs : (a.Events.drop k).Pairwise fun x y => x.Time ≤ y.Time := g.srt.sublist (List.drop_sublist _ _)
     rw [List.drop_eq_getElem_cons hk, List.pairwise_cons] at hs
     rcases List.mem_cons.1 hx with rfl | hx
     · omega
     · have := hs.1 x hx; omega
 · have q : ¬ (k : Int) < a.Events.length := by simpa using q
   rw [List.drop_eq_nil_of_le (by omega)] at hx
   cases hx
theorem cfo_all {c t : Int} : ∀ {E : List GAccess} {s : Int → Bool}, (∀ x ∈ E, x.Time ≤ t) → cfo c t E s = E.foldl (fun s x => cst c x s) s
 | [], s, _ => rfl
 | x :: r, s, h => by
   simp only [cfo, List.foldl_cons, if_pos (h x (by simp))]
   exact cfo_all (E := r) fun y hy => h y (by simp [hy])
theorem cfo_no {c t : Int} : ∀ {E : List GAccess} {s : Int → Bool}, (∀ x ∈ E, t < x.Time) → cfo c t E s = s
 | [], s, _ => rfl
 | x :: r, s, h => by
   have := h x (by simp)
   simp only [cfo, List.foldl_cons, if_neg (show ¬ x.Time ≤ t by omega)]
   exact cfo_no (E := r) fun y hy => h y (by simp [hy])
theorem hld_take {a : GEstate} {c t : Int} {k : Nat} (h1 : ∀ x ∈ a.Events.take k, x.Time ≤ t) (h2 : ∀ x ∈ a.Events.drop k, t < x.Time) : hld a c t = (a.Events.take k).foldl (fun s x => cst c x s) fun _ => false := by
 have : hld a c t = cfo c t (a.Events.drop k) (cfo c t (a.Events.take k) fun _ => false) := by
   simp only [hld, cfo]
   rw [← List.foldl_append, List.take_append_drop]
 rw [this, cfo_no h2, cfo_all h1]
def bof (l : List Bool) (s : Int → Bool) : Prop := ∀ i : Int, 0 ≤ i → i < l.length → l.getD i.toNat default = s i
theorem bof_set {l : List Bool} {s : Int → Bool} (h : bof l s) {p : Int} {b : Bool} (hp : 0 ≤ p) (hl : p < l.length) : bof (l.set p.toNat b) (upd s p b) := by
 intro i h0 h1
 rw [List.length_set] at h1
 simp only [upd, List.getD_eq_getElem?_getD, List.getElem?_set]
 by_cases e : i = p
 · subst e
   simp [show i.toNat < l.length by omega]
 · rw [if_neg (by omega), if_neg e]
   have := h i h0 h1
   rwa [List.getD_eq_getElem?_getD] at this
theorem now_step {P c : Int} {l : List Bool} {s : Int → Bool} {x : GAccess} (k : Int) (h : xok P x) (hl : (l.length : Int) = P) (hw : bof l s) : Ok (F_2r c k x l) fun l' => l'.length = l.length ∧ bof l' (cst c x s) := by
 obtain ⟨_, _, h3, h4, h5⟩ := h
 have hp : inb x.Place l.length = true := inb_iff.2 ⟨h3, by omega⟩
 have hP := hw x.Place h3 (by omega)
 have fin : ∀ b b' : Bool, b = b' → Ok (chk (inb x.Place l.length) (some (l.set x.Place.toNat b))) fun l' => l'.length = l.length ∧ bof l' (upd s x.Place b') := fun b b' e => by
   subst e
   exact Ok.chk hp (Ok.ret ⟨by simp, bof_set hw h3 (by omega)⟩)
 unfold F_2r
 refine Ok.ite (fun q => ?_) fun q => Ok.ite (fun q2 => ?_) fun q2 => Ok.ite (fun q3 => ?_) fun q3 => ?_
 · have q : x.Kind = 5 := by simpa using q
   simp only [cst, if_pos q]
   refine Ok.chk hp (Ok.ite (fun w => fin _ _ ?_) fun w => fin _ _ ?_)
   · rw [hP] at w; rw [w]; rfl
   · rw [hP] at w; rw [w]; rfl
 · have q : ¬ x.Kind = 5 := by simpa using q
   have q2 : x.Kind = 6 := by simpa using q2
   simp only [cst, if_neg q, if_pos q2]
   refine Ok.chk hp (Ok.ite (fun w => fin _ _ ?_) fun w => fin _ _ ?_)
   · rw [hP] at w; rw [w]; rfl
   · rw [hP] at w; rw [w]; rfl
 · have q : ¬ x.Kind = 5 := by simpa using q
   have q2 : ¬ x.Kind = 6 := by simpa using q2
   have q3 : x.Kind = 7 := by simpa using q3
   simp only [cst, if_neg q, if_neg q2, if_pos q3]
   refine Ok.chk hp (Ok.ite (fun w => fin _ _ ?_) fun w => Ok.chk (inb_iff.2 ⟨by omega, by omega⟩) (fin _ _ ?_))
   · rw [hP] at w; rw [w]; rfl
   · rw [hP] at w; rw [w, hw x.From (by omega) (by omega)]; rfl
 · have q : ¬ x.Kind = 5 := by simpa using q
   have q2 : ¬ x.Kind = 6 := by simpa using q2
   have q3 : ¬ x.Kind = 7 := by simpa using q3
   simp only [cst, if_neg q, if_neg q2, if_neg q3]
   exact Ok.ret ⟨rfl, hw⟩
theorem now_ok {a : GEstate} (g : Good a) (c : Int) {k : Nat} (hk : k ≤ a.Events.length) : Ok (F_1p a c (k : Int)) fun l => (l.length : Int) = a.Places ∧ bof l ((a.Events.take k).foldl (fun s x => cst c x s) fun _ => false) := by
 have h2 := g.lo
 have h3 := g.hi
 unfold F_1p
 refine Ok.chk (roomI_iff.2 ⟨by omega, by omega, by omega⟩) (Ok.chk (inc_iff.2 ⟨by omega, by omega, by omega⟩) ?_)
 rw [Int.toNat_natCast]
 refine Ok.bind (Ok.foldI (all := a.Events.take k) (fun pre l => (l.length : Int) = a.Places ∧ bof l (pre.foldl (fun s x => cst c x s) fun _ => false)) (a.Events.take k) [] 0 _ rfl rfl ⟨by simp; omega, fun i hi hl => ?_⟩ (fun pre x r s hw hs => ?_) fun s hs => hs) fun s hs => Ok.ret hs
 · simp only [List.foldl_nil, List.length_replicate] at hl ⊢
   rw [List.getD_eq_getElem?_getD, List.getElem?_replicate, if_pos (by omega)]
   rfl
 · have hx := g.ev x (List.mem_of_mem_take (i := k) (by rw [hw]; simp))
   refine Ok.mono (now_step _ hx hs.1 hs.2) fun l' hl' => ⟨by rw [hl'.1]; exact hs.1, ?_⟩
   simp only [List.foldl_append, List.foldl_cons, List.foldl_nil]
   exact hl'.2
theorem rplace_true {a : GEstate} (g : Good a) {p : Int} (h0 : 0 ≤ p) (h1 : p ≤ a.Places - 1) : F_2 a p = some true := by rw [rplace_eq]; exact known_of g h0 h1
theorem holds_ok {a : GEstate} (g : Good a) {p : Int} (h0 : 0 ≤ p) (h1 : p ≤ a.Places - 1) (t : Int) : Ok (F_1q a p t) fun l => ∀ c ∈ l, (0 ≤ c ∧ c ≤ 63) ∧ hld a c t p = true := by
 unfold F_1q
 rw [rplace_true g h0 h1]
 simp only [Option.bind_some, Bool.not_true, cond_false]
 refine Ok.bind (Ok.loop (fun s : Int × List Int => (0 ≤ s.1 ∧ s.1 ≤ 64) ∧ (s.2.length : Int) ≤ s.1 ∧ ∀ c ∈ s.2, (0 ≤ c ∧ c ≤ 63) ∧ hld a c t p = true) (fun s => (64 - s.1).toNat) (fun s hs => ?_) _ ⟨⟨by show (0 : Int) ≤ 0; omega, by show (0 : Int) ≤ 64; omega⟩, by simp, by simp⟩) fun r hr => Ok.ret hr
 obtain ⟨c, l⟩ := s
 obtain ⟨⟨s1, s2⟩, s3, s4⟩ := hs
 simp only at s1 s2 s3 s4
 unfold F_3i
 refine Ok.ite (fun q => ?_) fun _ => Ok.ret s4
 have q : c ≤ 63 := by simpa using q
 refine Ok.jn (P := fun j : List Int => (j.length : Int) ≤ c + 1 ∧ ∀ x ∈ j, (0 ≤ x ∧ x ≤ 63) ∧ hld a x t p = true) ?_ fun j hj => Ok.chk (in64_smD (by show -1000000000000000 ≤ c + 1; omega) (by show c + 1 ≤ _; omega)) (Ok.ret ⟨⟨⟨by show 0 ≤ c + 1; omega, by show c + 1 ≤ 64; omega⟩, hj⟩, by show (64 - (c + 1)).toNat < (64 - c).toNat; omega⟩)
 refine Ok.bind (happened_ok g t) fun n hn => ?_
 obtain ⟨k, rfl, k1, k2, k3⟩ := hn
 refine Ok.bind (now_ok g c k1) fun f hf => ?_
 have hpl := hf.2 p h0 (by omega)
 rw [← hld_take k2 k3] at hpl
 refine Ok.chk (inb_iff.2 ⟨h0, by omega⟩) (Ok.ite (fun w => Ok.chk (room_smD (by simp; omega)) (Ok.ret ⟨by simp; omega, fun x hx => ?_⟩)) fun w => Ok.ret ⟨by show (l.length : Int) ≤ c + 1; omega, s4⟩)
 simp only [List.mem_append, List.mem_singleton] at hx
 rcases hx with hx | rfl
 · exact s4 x hx
 · exact ⟨⟨s1, q⟩, by rw [← hpl]; exact w⟩
end Go.Ab
namespace Go.Ab
open Go.Proofs
theorem hld_push (P : Int) (E : List GAccess) (x : GAccess) (c t : Int) : hld ⟨P, E ++ [x]⟩ c t = if x.Time ≤ t then cst c x (hld ⟨P, E⟩ c t) else hld ⟨P, E⟩ c t := by
 simp only [hld, cfo, List.foldl_append, List.foldl_cons, List.foldl_nil]
open Classical in
theorem pla_some {d : GDirectory} {a : GEstate} (h : Good a) {c : Int} (h0 : 0 ≤ c) (h1 : c ≤ 63) {p pl t : Int} (hm : mayP d a p pl t) (hh : hld a c t pl = true) : (pla d a c p t).isSome = true := by
 simp only [pla, List.find?_isSome]
 refine ⟨pl, (mem_whr h h0 h1).2 ⟨hm.1.2, hh⟩, ?_⟩
 have hne : ¬ p = -1 := fun e => by have := hm.1.1.1; omega
 simp only [see, if_neg hne]
 exact decide_eq_true hm
theorem could_eq {d : GDirectory} {a : GEstate} (g : GoodD d) (h : Good a) {c : Int} (h0 : 0 ≤ c) (h1 : c ≤ 63) (p : Int) {t : Int} (t0 : 0 ≤ t) (t1 : t ≤ 1099511627776) : F_1t d a c p t = some (pla d a c p t).isSome := by
 have e1 : (decide (t < 0)) = false := decide_eq_false (by omega)
 have e2 : (decide (1099511627776 < t)) = false := decide_eq_false (by omega)
 simp only [F_1t, echeck_eq g h h0 h1, Option.bind_some, grp, decide_true, Bool.not_true, Bool.false_or, e1, e2, cond_false, place_eqX g h h0 h1]
 cases pla d a c p t <;> rfl
open Classical in
theorem copies30 (l : List Int) : F_22 l = some true := by
 refine Ok.eq ?_
 have awk : Ok (F_q.bind fun y => some y) fun y => y = true := Ok.bind (P := fun y => y = true) (Ok.of awake30 rfl) fun y hy => Ok.ret hy
 unfold F_22
 refine Ok.ite (fun _ => awk) fun c => ?_
 have c : ¬ 400 < (l.length : Int) := by simpa using c
 refine Ok.bind (dir_ok (t := ⟨l, 0⟩) ⟨Int.le_refl 0, by show l.length ≤ 400; omega⟩) fun y6 hd => ?_
 obtain ⟨gd, d1, d2, d3, d4, d5⟩ := hd
 refine Ok.bind (estate_ok d5 d2) fun y8 he => ?_
 obtain ⟨ga, a1, a2, a3, a4⟩ := he
 have alo := ga.lo
 refine Ok.jn (P := fun j => 0 ≤ j ∧ j ≤ 33 ∧ ∀ x ∈ y8.1.Events, x.Time ≤ j) ?_ fun j hj => ?_
 · refine Ok.ite (fun c => ?_) fun c => Ok.ret ⟨by omega, by omega, fun x hx => ?_⟩
   · have c : 0 < (y8.1.Events.length : Int) := by simpa using c
     refine Ok.chk (in64_sm (by omega) (by omega)) (Ok.chk (inb_iff.2 ⟨by omega, by omega⟩) (Ok.ret ?_))
     have hl : y8.1.Events.length - 1 < y8.1.Events.length := by omega
     have e : y8.1.Events.getD ((y8.1.Events.length : Int) - 1).toNat default = y8.1.Events[y8.1.Events.length - 1] := by
       rw [show ((y8.1.Events.length : Int) - 1).toNat = y8.1.Events.length - 1 by omega]
       simp [List.getD_eq_getElem?_getD, hl]
     rw [e]
     have hm : y8.1.Events[y8.1.Events.length - 1] ∈ y8.1.Events := List.getElem_mem hl
     refine ⟨(ga.ev _ hm).1, a3 _ hm, fun x hx => ?_⟩
     obtain ⟨i, hi, rfl⟩ := List.mem_iff_getElem.1 hx
     by_cases q : i = y8.1.Events.length - 1
     · subst q; exact Int.le_refl _
     · exact (List.pairwise_iff_getElem.1 ga.srt) i (y8.1.Events.length - 1) hi hl (by omega)
   · have c : ¬ 0 < (y8.1.Events.length : Int) := by simpa using c
     have : y8.1.Events = [] := List.length_eq_zero_iff.1 (by omega)
     rw [this] at hx; cases hx
 obtain ⟨j1, j2, j3⟩ := hj
 refine Ok.bind (next_ok a4 (by omega)) fun y12 h12 => Ok.bind (next_ok h12.2.2 (by omega)) fun y13 h13 => Ok.ite (fun _ => awk) fun hne => ?_
 have hne : ¬ y12.1 = y13.1 := by simpa using hne
 obtain ⟨p1, p2, _⟩ := h12
 obtain ⟨q1, q2, _⟩ := h13
 have ga' : Good ⟨y8.1.Places, y8.1.Events ++ [⟨j, 7, y13.1,0,0,0, y12.1⟩]⟩ := ⟨ga.lo, ga.hi, by simp; omega, fun e he => by
     simp only [List.mem_append, List.mem_singleton] at he
     rcases he with he | rfl
     · exact ga.ev e he
     · exact ⟨by show 0 ≤ j; omega, by show j ≤ 1099511627776; omega, q1, by show y13.1 ≤ y8.1.Places - 1; omega, .inr (.inr (.inr (.inr ⟨rfl, p1, by show y12.1 ≤ y8.1.Places - 1; omega, hne, rfl, rfl, rfl⟩)))⟩, by
     simp only [List.pairwise_append]
     exact ⟨ga.srt, by simp, fun e he w hw => by
       simp only [List.mem_singleton] at hw
       subst hw
       exact j3 e he⟩⟩
 refine Ok.chk (room_sm (by omega)) (Ok.chk (room_sm (by simp; omega)) (Ok.bind (holds_ok ga p1 (by omega) j) fun L hL => ?_))
 refine Ok.bind (P := fun o => o = .nx ⟨y8.1.Places, y8.1.Events ++ [⟨j, 7, y13.1,0,0,0, y12.1⟩]⟩) (Ok.for (fun s => s = ⟨y8.1.Places, y8.1.Events ++ [⟨j, 7, y13.1,0,0,0, y12.1⟩]⟩) _ 0 _ rfl (fun k x s hx hs => ?_) fun s hs => by rw [hs]) fun o ho => by subst ho; exact awk
 subst hs
 obtain ⟨⟨x0, x1⟩, x2⟩ := hL x hx
 unfold F_36
 refine Ok.bind (P := fun o => o = .nx ()) (Ok.forI (all := y6.1.Kinds) (fun _ _ => True) _ [] 0 () rfl rfl trivial (fun pre q r s hw _ => ?_) fun s _ => rfl) fun o ho => by subst ho; exact Ok.ret rfl
 unfold F_35
 have hmay := rmay_eq gd ga' (pre.length : Int) y13.1 j
 have hto : hld ⟨y8.1.Places, y8.1.Events ++ [⟨j, 7, y13.1,0,0,0, y12.1⟩]⟩ x j y13.1 = true := by
   rw [hld_push, if_pos (Int.le_refl _)]
   have h5 : ¬ (7 : Int) = 5 := by omega
   have h6 : ¬ (7 : Int) = 6 := by omega
   have x2' : hld ⟨y8.1.Places, y8.1.Events⟩ x j y12.1 = true := x2
   simp only [cst, if_neg h5, if_neg h6, if_true, upd, x2', Bool.or_true]
 rw [hmay]
 simp only [Option.bind_some]
 refine Ok.jn (P := fun b => b = false) ?_ fun b hb => ?_
 · refine Ok.ite (fun w => ?_) fun _ => Ok.ret rfl
   refine Ok.bind (Ok.of (could_eq gd ga' x0 x1 _ (by omega) (by omega)) rfl) fun y hy => Ok.ret ?_
   rw [← hy, pla_some ga' x0 x1 (of_decide_eq_true w) hto]; rfl
 · subst hb
   refine Ok.ite (fun h => by cases h) fun _ => Ok.bind (Ok.of (Since_eq gd ga' x0 x1 _) rfl) fun y hy => Ok.grp (Ok.ite (fun w => ?_) fun _ => Ok.ret trivial)
   exfalso
   simp only [Bool.and_eq_true] at w
   have hm := of_decide_eq_true w.1
   obtain ⟨t', h1, h2⟩ := find_first (q := fun t => (pla y6.1 ⟨y8.1.Places, y8.1.Events ++ [⟨j, 7, y13.1,0,0,0, y12.1⟩]⟩ x (pre.length : Int) t).isSome) (tms_sorted y6.1 ⟨y8.1.Places, y8.1.Events ++ [⟨j, 7, y13.1,0,0,0, y12.1⟩]⟩) (t := j) (mem_tms.2 (.inl ⟨⟨j, 7, y13.1,0,0,0, y12.1⟩, by simp, rfl⟩)) (pla_some ga' x0 x1 hm hto)
   have hs : sin y6.1 ⟨y8.1.Places, y8.1.Events ++ [⟨j, 7, y13.1,0,0,0, y12.1⟩]⟩ x (pre.length : Int) = some t' := h1
   have w2 := w.2
   rw [← hy, hs] at w2
   have w3 : decide (j < t') = true := w2
   have := of_decide_eq_true w3
   omega
end Go.Ab
