/- The reference's estates are the program's: what is valid. -/
import Derived.Test.YtgjicmoegmbipaaGreatPY
import Derived.Test.YtgjicmoegmbipaaGreatLPub
set_option linter.all false
set_option linter.all false
namespace Go.Ab
open Go.Proofs
theorem rin_eq (n lo hi : Int) : F_ref27_in n lo hi = some (decide (lo ≤ n ∧ n ≤ hi)) := by simp [F_ref27_in, grp]
open Classical in
theorem event_eq (a : GEstate) (x : GAccess) (h1 : 1 ≤ a.Places) (h2 : a.Places ≤ 16) : F_ref27_event a x = some (decide (xok a.Places x)) := by
 have hin : ∀ o : Option Bool, chk (in64 (a.Places - 1)) o = o := fun o => chk_true (in64_sm (n := a.Places - 1) (by omega) (by omega))
 obtain ⟨T, K, P, pr, U, C, F⟩ := x
 simp only [F_ref27_event, rin_eq, Option.bind_some, jn, grp, hin, decide_true, Bool.true_and]
 by_cases t1 : 0 ≤ T ∧ T ≤ 1099511627776
 · by_cases t2 : 0 ≤ P ∧ P ≤ a.Places - 1
   · simp only [t1, t2, and_self, decide_true, Bool.not_true, cond_false]
     by_cases k1 : K = 1
     · subst k1
       by_cases c1 : U = 0 <;> by_cases c2 : C = 0 <;> by_cases c3 : F = 0 <;> simp [xok, c1, c2, c3, t1, t2]
     by_cases k2 : K = 2
     · subst k2
       by_cases c1 : U = 0 <;> by_cases c2 : C = 0 <;> by_cases c3 : F = 0 <;> simp [xok, c1, c2, c3, t1, t2]
     by_cases k3 : K = 3
     · subst k3
       by_cases c1 : pr = 0 <;> by_cases c2 : C = 0 <;> by_cases c3 : F = 0 <;> by_cases c4 : T < U <;> simp [xok, c1, c2, c3, c4, t1, t2]
     by_cases k4 : K = 4
     · subst k4
       by_cases c1 : pr = 0 <;> by_cases c2 : C = 0 <;> by_cases c3 : F = 0 <;> by_cases c4 : U = 0 <;> simp [xok, c1, c2, c3, c4, t1, t2]
     by_cases k5 : K = 5
     · subst k5
       by_cases c1 : pr = 0 <;> by_cases c2 : U = 0 <;> by_cases c3 : F = 0 <;> simp [xok, c1, c2, c3, t1, t2]
     by_cases k6 : K = 6
     · subst k6
       by_cases c1 : pr = 0 <;> by_cases c2 : U = 0 <;> by_cases c3 : F = 0 <;> simp [xok, c1, c2, c3, t1, t2]
     by_cases k7 : K = 7
     · subst k7
       by_cases c1 : pr = 0 <;> by_cases c2 : U = 0 <;> by_cases c3 : C = 0 <;> by_cases c4 : F = P <;> simp [xok, c1, c2, c3, c4, t1, t2] <;> omega
     · simp [xok, k1, k2, k3, k4, k5, k6, k7, t1, t2]
   · have : ¬ xok a.Places ⟨T, K, P, pr, U, C, F⟩ := fun h => t2 ⟨h.2.2.1, h.2.2.2.1⟩
     simp [t1, t2, this]
 · have : ¬ xok a.Places ⟨T, K, P, pr, U, C, F⟩ := fun h => t1 ⟨h.1, h.2.1⟩
   simp [t1, this]
open Classical in
theorem validL_eq (a : GEstate) (h1 : 1 ≤ a.Places) (h2 : a.Places ≤ 16) (hn : a.Events.length ≤ 120) : ∀ (l : List GAccess) (k : Nat) (last : Int), a.Events.drop k = l → (0 < k → (a.Events.getD (k - 1) default).Time = last) → (k = 0 → last = 0) → k ≤ a.Events.length →
   forL (F_ref27_Valid_L1 a) l (k : Int) () = some (if chain a.Places last l then .nx () else .ex false)
 | [], k, last, hd, hl, h0, hk => by simp [forL, chain]
 | x :: r, k, last, hd, hl, h0, hk => by
   have hlt : k < a.Events.length := by
     rcases Nat.lt_or_ge k a.Events.length with h | h
     · exact h
     · rw [List.drop_eq_nil_of_le h] at hd; cases hd
   rw [List.drop_eq_getElem_cons hlt] at hd
   obtain ⟨e1, e2⟩ := List.cons.inj hd
   have hx : (a.Events.getD (k + 1 - 1) default) = x := by rw [Nat.add_sub_cancel, List.getD_eq_getElem?_getD, List.getElem?_eq_getElem hlt]; exact e1
   have ih := fun last h => validL_eq a h1 h2 hn r (k + 1) last e2 h (by omega) hlt
   simp only [forL, F_ref27_Valid_L1, event_eq a x h1 h2, Option.bind_some, chain]
   by_cases c : xok a.Places x
   · simp only [c, decide_true, Bool.not_true, cond_false, true_and]
     have ih' := ih x.Time (fun _ => by rw [hx])
     rw [show ((k + 1 : Nat) : Int) = (k : Int) + 1 by simp] at ih'
     by_cases ck : 0 < k
     · have e3 : decide (0 < (k : Int)) = true := decide_eq_true (by omega)
       have e4 : in64 ((k : Int) - 1) = true := in64_sm (by omega) (by omega)
       have e5 : inb ((k : Int) - 1) a.Events.length = true := inb_iff.2 ⟨by omega, by omega⟩
       have e6 : ((k : Int) - 1).toNat = k - 1 := by omega
       simp only [e3, cond_true, chk_true e4, chk_true e5, e6, hl ck]
       by_cases c3 : x.Time < last
       · have : ¬ last ≤ x.Time := by omega
         simp [c3, this, Fl_ex]
       · have : last ≤ x.Time := by omega
         simp [c3, this, Fl_nx, ih']
     · have e3 : decide (0 < (k : Int)) = false := decide_eq_false (by omega)
       have hk0 : k = 0 := by omega
       have : last ≤ x.Time := by rw [h0 hk0]; exact c.1
       simp only [e3, cond_false, Option.bind_some, Fl_nx, this, true_and, ih']
   · simp [c, Fl_ex]
open Classical in
theorem valid_eq (a : GEstate) : F_ref27_Valid a = some (decide (Good a)) := by
 simp only [F_ref27_Valid, rin_eq, Option.bind_some, grp]
 by_cases c : 1 ≤ a.Places ∧ a.Places ≤ 16
 · by_cases c2 : a.Events.length ≤ 120
   · have c' : (!decide (1 ≤ a.Places ∧ a.Places ≤ 16) || decide (120 < (a.Events.length : Int))) = false := by simp [c]; omega
     have h := validL_eq a c.1 c.2 c2 a.Events 0 0 rfl (fun h => by omega) (fun _ => rfl) (by omega)
     simp only [show ((0 : Nat) : Int) = 0 from rfl] at h
     simp only [c', cond_false, h, Option.bind_some]
     by_cases hc : chain a.Places 0 a.Events
     · have : Good a := (good_iff a).2 ⟨c, c2, hc⟩
       simp [this, hc, Fl_nx]
     · have : ¬ Good a := fun h => hc ((good_iff a).1 h).2.2
       simp [this, hc, Fl_ex]
   · have c' : (!decide (1 ≤ a.Places ∧ a.Places ≤ 16) || decide (120 < (a.Events.length : Int))) = true := by simp; omega
     have : ¬ Good a := fun h => c2 h.len
     simp only [c', cond_true, this, decide_false]
 · have : ¬ Good a := fun h => c ⟨h.lo, h.hi⟩
   simp [c, this]
open Classical in
theorem rplace_eq (a : GEstate) (p : Int) : F_ref27_Place a p = F_access_known a p := by
 rw [known_eq]
 simp only [F_ref27_Place, valid_eq, Option.bind_some, jn]
 by_cases h : Good a
 · have := h.lo; have := h.hi
   simp [h, rin_eq, chk_true (in64_sm (n := a.Places - 1) (by omega) (by omega))]
 · simp [h]
theorem known_cases (a : GEstate) (p : Int) : (F_access_known a p = some true ∧ Good a ∧ 0 ≤ p ∧ p ≤ a.Places - 1) ∨ F_access_known a p = some false := by
 classical
 rw [known_eq]
 by_cases h : Good a ∧ 0 ≤ p ∧ p ≤ a.Places - 1
 · left; exact ⟨congrArg some (decide_eq_true h), h⟩
 · right; exact congrArg some (decide_eq_false h)
theorem aget_aput {β : Type} (q k : Int) (v : β) : ∀ m : List (Int × β), aget q (aput k v m) = if q = k then some v else aget q m
 | [] => by by_cases e : q = k <;> simp [aput, aget, e]
 | (a, b) :: r => by
   by_cases e : k = a
   · subst e
     by_cases e2 : q = k <;> simp [aput, aget, e2]
   · simp only [aput, if_neg e, aget, aget_aput q k v r]
     by_cases e2 : q = a
     · subst e2
       have : ¬ q = k := fun h => e h.symm
       simp [this]
     · simp [e2]
theorem aget_none {β : Type} {q : Int} : ∀ {m : List (Int × β)}, q ∉ m.map Prod.fst → aget q m = none
 | [], h => rfl
 | (a, b) :: r, h => by
   simp only [List.map_cons, List.mem_cons, not_or] at h
   simp only [aget, if_neg h.1, aget_none h.2]
theorem aget_some {β : Type} {q : Int} : ∀ {m : List (Int × β)}, q ∈ m.map Prod.fst → ∃ v, aget q m = some v
 | (a, b) :: r, h => by
   by_cases e : q = a
   · exact ⟨b, by simp [aget, e]⟩
   · have : q ∈ r.map Prod.fst := by simpa [e] using h
     obtain ⟨v, hv⟩ := aget_some this
     exact ⟨v, by simp [aget, e, hv]⟩
theorem aget_isSome {β : Type} (q : Int) (m : List (Int × β)) : (aget q m).isSome = decide (q ∈ m.map Prod.fst) := by
 by_cases h : q ∈ m.map Prod.fst
 · obtain ⟨v, hv⟩ := aget_some h
   rw [hv]; exact (decide_eq_true h).symm
 · rw [aget_none h]; exact (decide_eq_false h).symm
theorem aget_adel {β : Type} (q k : Int) : ∀ m : List (Int × β), (m.map Prod.fst).Nodup → aget q (adel k m) = if q = k then none else aget q m
 | [], h => by simp [adel, aget]
 | (a, b) :: r, h => by
   simp only [List.map_cons, List.nodup_cons] at h
   by_cases e : k = a
   · subst e
     by_cases e2 : q = k
     · subst e2
       simp only [adel, if_true]
       exact aget_none h.1
     · simp [adel, aget, e2]
   · simp only [adel, if_neg e, aget, aget_adel q k r h.2]
     by_cases e2 : q = a
     · subst e2
       have : ¬ q = k := fun h => e h.symm
       simp [this]
     · simp [e2]
theorem grf_nodup (p t : Int) (l : List GAccess) : ((grf p t l).map Prod.fst).Nodup := by rw [grf_keys]; exact keysf_nodup p t l
theorem grf_snoc (p t : Int) (l : List GAccess) (x : GAccess) : grf p t (l ++ [x]) = gst p t l.length x (grf p t l) := by
 simp only [grf, foldP_append, foldP, Int.zero_add]
def told (p t q : Int) (l : List GAccess) (n : Nat) : Prop :=
 n < l.length ∧ (l.getD n default).Kind = 1 ∧ (l.getD n default).Place = p ∧ (l.getD n default).Principal = q ∧ (l.getD n default).Time ≤ t ∧ ∀ y ∈ l.drop (n + 1), ¬ (y.Kind = 2 ∧ y.Place = p ∧ y.Principal = q ∧ y.Time ≤ t)
theorem told_snoc {p t q : Int} {l : List GAccess} {n : Nat} {x : GAccess} (h : told p t q l n) (hx : ¬ (x.Kind = 2 ∧ x.Place = p ∧ x.Principal = q ∧ x.Time ≤ t)) : told p t q (l ++ [x]) n := by
 obtain ⟨h1, h2, h3, h4, h5, h6⟩ := h
 have e : (l ++ [x]).getD n default = l.getD n default := by rw [List.getD_eq_getElem?_getD, List.getD_eq_getElem?_getD, List.getElem?_append_left h1]
 refine ⟨by simp; omega, by rw [e]; exact h2, by rw [e]; exact h3, by rw [e]; exact h4, by rw [e]; exact h5, fun y hy => ?_⟩
 rw [List.drop_append_of_le_length (by omega), List.mem_append, List.mem_singleton] at hy
 rcases hy with hy | rfl
 · exact h6 y hy
 · exact hx
theorem grant_told (p t q : Int) (l : List GAccess) (k : Int) (h : aget q (grf p t l) = some k) : ∃ n : Nat, k = n ∧ told p t q l n := by
 induction l using revList_ind generalizing k with
 | h0 => cases h
 | h1 l x ih =>
   rw [grf_snoc] at h
   unfold gst at h
   split at h
   · rename_i c
     obtain ⟨n, e, hn⟩ := ih k h
     exact ⟨n, e, told_snoc hn (by omega)⟩
   · rename_i c
     split at h
     · rename_i c2
       rw [aget_aput] at h
       split at h
       · rename_i c3
         cases h
         refine ⟨l.length, rfl, by simp, ?_⟩
         have e : (l ++ [x]).getD l.length default = x := by simp
         rw [e]
         refine ⟨c2, by omega, c3.symm, by omega, fun y hy => ?_⟩
         rw [List.drop_eq_nil_of_le (by simp)] at hy
         cases hy
       · obtain ⟨n, e, hn⟩ := ih k h
         exact ⟨n, e, told_snoc hn (by omega)⟩
     · split at h
       · rw [aget_adel _ _ _ (grf_nodup p t l)] at h
         split at h
         · cases h
         · rename_i c3
           obtain ⟨n, e, hn⟩ := ih k h
           exact ⟨n, e, told_snoc hn fun hh => c3 hh.2.2.1.symm⟩
       · obtain ⟨n, e, hn⟩ := ih k h
         exact ⟨n, e, told_snoc hn (by omega)⟩
open Classical in
theorem rreader_eq {d : GDirectory} (g : GoodD d) (p : Int) : F_ref23_Reader d p = some (decide (rdr d p)) := by
 have hk := g.kl
 have hx : F_ref23_Exists d p = some (decide (0 ≤ p ∧ p < d.Kinds.length)) := by
   unfold F_ref23_Exists
   rw [chk_true (in64_smD (by omega) (by omega))]
   simp only [F_ref23_in, grp, Option.bind_some]
   congr 1
   by_cases q : 0 ≤ p ∧ p < (d.Kinds.length : Int)
   · rw [decide_eq_true q, decide_eq_true q.1, decide_eq_true (show p ≤ (d.Kinds.length : Int) - 1 by omega)]; rfl
   · rw [decide_eq_false q]
     by_cases q1 : 0 ≤ p
     · rw [decide_eq_true q1, decide_eq_false (show ¬ p ≤ (d.Kinds.length : Int) - 1 by omega)]; rfl
     · rw [decide_eq_false q1]; rfl
 unfold F_ref23_Reader
 simp only [hx, Option.bind_some, jn]
 by_cases q : 0 ≤ p ∧ p < (d.Kinds.length : Int)
 · simp only [decide_eq_true q, cond_true, chk_true (inb_iff.2 q), Option.bind_some]
   by_cases w : d.Kinds.getD p.toNat default = 2
   · have : ¬ rdr d p := fun h => h.2.2 w
     rw [decide_eq_true w, decide_eq_false this]; rfl
   · have : rdr d p := ⟨q.1, q.2, w⟩
     rw [decide_eq_false w, decide_eq_true this]; rfl
 · have : ¬ rdr d p := fun h => q ⟨h.1, h.2.1⟩
   simp [decide_eq_false q, this]
end Go.Ab
namespace Go.Ab
open Go.Proofs
theorem sin_time {d : GDirectory} {a : GEstate} (g : GoodD d) (h : Good a) {c p t : Int} (hs : sin d a c p = some t) : 0 ≤ t ∧ t ≤ 1099511627776 := by
 rcases mem_tms.1 (List.mem_of_find?_eq_some hs) with ⟨x, hx, rfl⟩ | ⟨x, hx, rfl⟩
 · exact ⟨(h.ev x hx).1, (h.ev x hx).2.1⟩
 · exact ⟨(g.ev x hx).2.1, (g.ev x hx).2.2.1⟩
theorem exps_time {d : GDirectory} {a : GEstate} (g : GoodD d) (h : Good a) {c : Int} {x : GExposure} (hx : x ∈ exps d a c) : 0 ≤ x.Time ∧ x.Time ≤ 1099511627776 := sin_time g h (mem_expo.1 hx).2
theorem minf_ok (E : List GExposure) (hE : 0 < E.length) (hl : E.length ≤ 100) (ht : ∀ x ∈ E, 0 ≤ x.Time ∧ x.Time ≤ 1099511627776) :
   Ok (F_slices_MinFunc_api_Exposure_api_Exposure_of_exposure_First_1 E) fun m => m ∈ E ∧ ∀ x ∈ E, m.Time ≤ x.Time := by
 unfold F_slices_MinFunc_api_Exposure_api_Exposure_of_exposure_First_1
 have hg : ∀ i : Nat, i < E.length → E.getD i default ∈ E := fun i hi => by
   rw [List.getD_eq_getElem?_getD, List.getElem?_eq_getElem hi]; exact List.getElem_mem hi
 refine Ok.ite (fun q => ?_) fun _ => Ok.chk (inb_iff.2 ⟨by omega, by omega⟩) (Ok.bind (Ok.loop (fun s : Int × GExposure => (1 ≤ s.1 ∧ s.1 ≤ (E.length : Int)) ∧ s.2 ∈ E ∧ ∀ i : Nat, (i : Int) < s.1 → i < E.length → s.2.Time ≤ (E.getD i default).Time) (fun s : Int × GExposure => ((E.length : Int) - s.1).toNat) (fun s hs => ?_) _ ?_) fun r hr => Ok.ret hr)
 · have q : (E.length : Int) < 1 := by simpa using q
   omega
 · obtain ⟨i, m⟩ := s
   obtain ⟨⟨h1, h2⟩, h3, h4⟩ := hs
   simp only at h1 h2 h3 h4
   unfold F_slices_MinFunc_api_Exposure_api_Exposure_of_exposure_First_1_L1
   refine Ok.ite (fun q => ?_) fun q => Ok.ret ?_
   · have q : i < (E.length : Int) := by simpa using q
     have hi : inb i E.length = true := inb_iff.2 ⟨by omega, q⟩
     have hm := hg i.toNat (by omega)
     have t1 := ht _ hm
     have t2 := ht _ h3
     refine Ok.jn (P := fun j : GExposure => j ∈ E ∧ j.Time ≤ m.Time ∧ j.Time ≤ (E.getD i.toNat default).Time) (Ok.chk hi (Ok.bind (P := fun y => y = (E.getD i.toNat default).Time - m.Time) ?_ fun y hy => Ok.ite (fun w => Ok.chk hi (Ok.ret ⟨hm, ?_, Int.le_refl _⟩)) fun w => Ok.ret ⟨h3, Int.le_refl _, ?_⟩)) fun j hj => Ok.chk (in64_smD (by omega) (by omega)) (Ok.ret ⟨⟨⟨by show 1 ≤ i + 1; omega, by show i + 1 ≤ _; omega⟩, hj.1, fun k hk hk2 => ?_⟩, by show (_ - (i + 1)).toNat < (_ - i).toNat; omega⟩)
     · unfold F_exposure_First_1
       exact Ok.chk (in64_smD (by show -1000000000000000 ≤ (E.getD i.toNat default).Time - m.Time; omega) (by show (E.getD i.toNat default).Time - m.Time ≤ 1000000000000000; omega)) (Ok.ret rfl)
     · have w : y < 0 := by simpa using w
       subst hy
       show (E.getD i.toNat default).Time ≤ m.Time
       omega
     · have w : ¬ y < 0 := by simpa using w
       subst hy
       show m.Time ≤ (E.getD i.toNat default).Time
       omega
     · by_cases e : (k : Int) = i
       · have : k = i.toNat := by omega
         subst this
         exact hj.2.2
       · have hk : (k : Int) < i + 1 := hk
         have h5 := h4 k (by omega) hk2
         exact Int.le_trans hj.2.1 h5
   · have q : ¬ i < (E.length : Int) := by simpa using q
     refine ⟨h3, fun x hx => ?_⟩
     obtain ⟨k, hk, rfl⟩ := List.mem_iff_getElem.1 hx
     have h5 := h4 k (by omega) hk
     rwa [List.getD_eq_getElem?_getD, List.getElem?_eq_getElem hk] at h5
 · refine ⟨⟨Int.le_refl 1, by show (1 : Int) ≤ _; omega⟩, hg 0 hE, fun i h1 h2 => ?_⟩
   have h1 : (i : Int) < 1 := h1
   have : i = 0 := by omega
   subst this
   exact Int.le_refl _
open Classical in
theorem sin_pub {d : GDirectory} {a : GEstate} (h : Good a) {c : Int} (h0 : 0 ≤ c) (h1 : c ≤ 63) {p t : Int} (hr : rdr d p) (hs : sin d a c (-1) = some t) : ∃ t', sin d a c p = some t' ∧ t' ≤ t := by
 refine find_first (tms_sorted _ _) (List.mem_of_find?_eq_some hs) ?_
 have hp := List.find?_some hs
 simp only [pla, List.find?_isSome] at hp ⊢
 obtain ⟨pl, h2, h3⟩ := hp
 refine ⟨pl, h2, ?_⟩
 simp only [see, if_true] at h3
 have hne : ¬ p = -1 := fun e => by have := hr.1; omega
 simp only [see, if_neg hne]
 exact decide_eq_true ⟨⟨hr, whr_mem h h0 h1 t pl h2⟩, .inl h3⟩
open Classical in
theorem sin_nordr {d : GDirectory} {a : GEstate} {c p : Int} (hp : p ≠ -1) (hr : ¬ rdr d p) : sin d a c p = none := by
 cases e : sin d a c p with
 | none => rfl
 | some t =>
   have hq := List.find?_some e
   simp only [pla, List.find?_isSome] at hq
   obtain ⟨pl, h2, h3⟩ := hq
   simp only [see, if_neg hp] at h3
   exact absurd (of_decide_eq_true h3).1.1 hr
open Classical in
noncomputable def nrd (d : GDirectory) : Nat → Int → Nat
 | 0, _ => 0
 | n + 1, k => (if rdr d k then 1 else 0) + nrd d n (k + 1)
theorem nrd_len {d : GDirectory} {a : GEstate} (h : Good a) {c : Int} (h0 : 0 ≤ c) (h1 : c ≤ 63) {t : Int} (hs : sin d a c (-1) = some t) : ∀ (n : Nat) (k : Int), 0 ≤ k → (expo d a c n k).length = nrd d n k
 | 0, k, _ => rfl
 | n + 1, k, hk => by
   simp only [expo, nrd, List.length_append, nrd_len h h0 h1 hs n (k + 1) (by omega)]
   congr 1
   by_cases q : rdr d k
   · obtain ⟨t', h2, _⟩ := sin_pub h h0 h1 q hs
     rw [h2, if_pos q]; rfl
   · rw [sin_nordr (by omega) q, if_neg q]; rfl
end Go.Ab
namespace Go.Ab
open Go.Proofs
theorem nrd_snoc (d : GDirectory) : ∀ (n : Nat) (k : Int), nrd d (n + 1) k = nrd d n k + nrd d 1 (k + n)
 | 0, k => by
   rw [show k + ((0 : Nat) : Int) = k by simp]
   show nrd d 1 k = 0 + nrd d 1 k
   omega
 | n + 1, k => by
   have h1 : nrd d (n + 1 + 1) k = nrd d 1 k + nrd d (n + 1) (k + 1) := rfl
   have h2 : nrd d (n + 1) k = nrd d 1 k + nrd d n (k + 1) := rfl
   have h3 := nrd_snoc d n (k + 1)
   rw [show k + 1 + (n : Int) = k + ((n + 1 : Nat) : Int) by simp; omega] at h3
   omega
theorem nrd_le (d : GDirectory) : ∀ (n : Nat) (k : Int), nrd d n k ≤ n
 | 0, k => Nat.le_refl _
 | n + 1, k => by
   have := nrd_le d n (k + 1)
   simp only [nrd]; split <;> omega
theorem first_ok {d : GDirectory} {a : GEstate} (g : GoodD d) (h : Good a) {c : Int} (h0 : 0 ≤ c) (h1 : c ≤ 63) (hl : (exps d a c).length ≤ 100) :
   Ok (F_exposure_First d a c) fun y => y.2 = decide (0 < ((exps d a c).length : Int)) ∧ (∀ x ∈ exps d a c, y.1 ≤ x.Time) ∧ (0 < (exps d a c).length → ∃ x ∈ exps d a c, x.Time = y.1) := by
 unfold F_exposure_First
 refine Ok.bind (Ok.of (All_eq g h h0 h1) rfl) fun y hy => ?_
 subst hy
 refine Ok.ite (fun q => ?_) fun q => ?_
 · have q : (exps d a c).length = 0 := by simpa using q
   have e : exps d a c = [] := List.length_eq_zero_iff.1 q
   refine Ok.ret ⟨?_, ?_, ?_⟩
   · rw [e]; rfl
   · rw [e]; simp
   · rw [e]; simp
 · have q : ¬ (exps d a c).length = 0 := by simpa using q
   refine Ok.bind (minf_ok _ (by show 0 < (exps d a c).length; omega) hl fun x hx => exps_time g h hx) fun m hm => Ok.ret ⟨?_, hm.2, fun _ => ⟨m, hm.1, rfl⟩⟩
   exact (decide_eq_true (show 0 < ((exps d a c).length : Int) by omega)).symm
open Classical in
theorem pub30 (l : List Int) : F_law30_ExposurePublic l = some true := by
 refine Ok.eq ?_
 have awk : Ok (F_law30_awake.bind fun y => some y) fun y => y = true := Ok.bind (P := fun y => y = true) (Ok.of awake30 rfl) fun y hy => Ok.ret hy
 unfold F_law30_ExposurePublic
 refine Ok.ite (fun _ => awk) fun c => ?_
 have c : ¬ 400 < (l.length : Int) := by simpa using c
 refine Ok.bind (dir_ok (t := ⟨l, 0⟩) ⟨Int.le_refl 0, by show l.length ≤ 400; omega⟩) fun y6 hd => ?_
 obtain ⟨gd, d1, d2, d3, d4, d5⟩ := hd
 refine Ok.bind (estate_ok d5 d2) fun y8 he => ?_
 obtain ⟨ga, a1, a2, a3, a4⟩ := he
 refine Ok.bind (next_ok a4 (by omega)) fun y10 hc => ?_
 obtain ⟨c0, c1, _⟩ := hc
 have c1 : y10.1 ≤ 63 := by omega
 have hl : (exps y6.1 y8.1 y10.1).length ≤ 8 := by
   have := expo_len y6.1 y8.1 y10.1 (y6.1.Kinds.length + 1) (-1)
   show (expo _ _ _ _ _).length ≤ 8
   omega
 refine Ok.bind (Ok.of (All_eq gd ga c0 c1) rfl) fun y12 h12 => ?_
 subst h12
 refine Ok.ite (fun q => by simp at q) fun _ => ?_
 refine Ok.bind (first_ok gd ga c0 c1 (by omega)) fun y14 h14 => ?_
 obtain ⟨f1, f2, f3⟩ := h14
 refine Ok.ite (fun q => by rw [f1] at q; simp at q) fun _ => ?_
 refine Ok.bind (P := fun o => ∃ b, o = .nx b ∧ (b = true ↔ ∃ x ∈ exps y6.1 y8.1 y10.1, x.Time = y14.1)) ?_ fun o ho => ?_
 · refine Ok.forI (all := exps y6.1 y8.1 y10.1) (fun pre b => b = true ↔ ∃ x ∈ pre, x.Time = y14.1) _ [] 0 _ rfl rfl (by simp) (fun pre x r s hw hs => ?_) fun s hs => ⟨s, rfl, hs⟩
   unfold F_law30_ExposurePublic_L1
   have hm : x ∈ exps y6.1 y8.1 y10.1 := by rw [hw]; simp
   refine Ok.ite (fun q => ?_) fun _ => Ok.grp (Ok.ret ?_)
   · have q : x.Time < y14.1 := by simpa using q
     have := f2 x hm
     omega
   · show (s || decide (x.Time = y14.1)) = true ↔ _
     rw [Bool.or_eq_true, hs, decide_eq_true_eq]
     constructor
     · rintro (⟨y, h1, h2⟩ | h)
       · exact ⟨y, by simp [h1], h2⟩
       · exact ⟨x, by simp, h⟩
     · rintro ⟨y, h1, h2⟩
       rcases List.mem_append.1 h1 with h1 | h1
       · exact .inl ⟨y, h1, h2⟩
       · simp only [List.mem_singleton] at h1
         subst h1; exact .inr h2
 obtain ⟨b, rfl, hb⟩ := ho
 rw [Fl_nx]
 refine Ok.grp (Ok.ite (fun q => ?_) fun _ => Ok.ite (fun _ => awk) fun q => ?_)
 · exfalso
   simp only [Bool.and_eq_true, Bool.not_eq_true'] at q
   rw [f1] at q
   have q1 : 0 < ((exps y6.1 y8.1 y10.1).length : Int) := of_decide_eq_true q.1
   have := hb.2 (f3 (by omega))
   rw [q.2] at this; cases this
 have q : ¬ (exps y6.1 y8.1 y10.1).length = 0 := by simpa using q
 refine Ok.chk (inb_iff.2 ⟨by omega, by show (0 : Int) < ((exps y6.1 y8.1 y10.1).length : Int); omega⟩) (Ok.ite (fun _ => awk) fun w => ?_)
 have w : ((exps y6.1 y8.1 y10.1).getD 0 default).Principal = -1 := by simpa using w
 obtain ⟨t, hs⟩ : ∃ t, sin y6.1 y8.1 y10.1 (-1) = some t := by
   have hm : (exps y6.1 y8.1 y10.1).getD 0 default ∈ exps y6.1 y8.1 y10.1 := by
     rw [List.getD_eq_getElem?_getD, List.getElem?_eq_getElem (by omega)]; exact List.getElem_mem _
   have := (mem_expo.1 hm).2
   rw [w] at this
   exact ⟨_, this⟩
 have hE : exps y6.1 y8.1 y10.1 = ⟨-1, t⟩ :: expo y6.1 y8.1 y10.1 y6.1.Kinds.length 0 := by
   simp only [exps, expo, hs]; rfl
 have hn := nrd_len ga c0 c1 hs y6.1.Kinds.length 0 (Int.le_refl 0)
 have hnl := nrd_le y6.1 y6.1.Kinds.length 0
 refine Ok.chk (inc_iff.2 ⟨by omega, by show (1 : Int) ≤ ((exps y6.1 y8.1 y10.1).length : Int); omega, Int.le_refl _⟩) (Ok.bind (P := fun o => o = .nx (nrd y6.1 y6.1.Kinds.length 0 : Int)) ?_ fun o ho => ?_)
 · show Ok (forL (F_law30_ExposurePublic_L2 (exps y6.1 y8.1 y10.1, 0)) ((exps y6.1 y8.1 y10.1).drop 1) 0 0) _
   rw [hE, List.drop_succ_cons, List.drop_zero]
   refine Ok.forI (all := expo y6.1 y8.1 y10.1 y6.1.Kinds.length 0) (fun pre s => s = (pre.length : Int)) _ [] 0 _ rfl rfl rfl (fun pre x r s hw hs2 => ?_) fun s hs2 => by rw [hs2, hn]
   subst hs2
   have hm : x ∈ expo y6.1 y8.1 y10.1 y6.1.Kinds.length 0 := by rw [hw]; simp
   have hp : pre.length < (expo y6.1 y8.1 y10.1 y6.1.Kinds.length 0).length := by rw [hw]; simp
   obtain ⟨⟨m1, m2⟩, m3⟩ := mem_expo.1 hm
   unfold F_law30_ExposurePublic_L2
   refine Ok.chk (inb_iff.2 ⟨by omega, by simp⟩) (Ok.ite (fun v => ?_) fun _ => Ok.chk (in64_smD (by omega) (by omega)) (Ok.ret ?_))
   · exfalso
     have v : t < x.Time := by simpa using v
     by_cases r1 : rdr y6.1 x.Principal
     · obtain ⟨t', h1, h2⟩ := sin_pub ga c0 c1 r1 hs
       rw [m3] at h1; cases h1
       omega
     · rw [sin_nordr (by omega) r1] at m3; cases m3
   · show (pre.length : Int) + 1 = ((pre ++ [x]).length : Int)
     simp
 subst ho
 rw [Fl_nx]
 refine Ok.bind (P := fun x => x = (0 : Int)) ?_ fun x hx => ?_
 · refine Ok.foldI (all := y6.1.Kinds) (fun pre s => s = (nrd y6.1 y6.1.Kinds.length 0 : Int) - (nrd y6.1 pre.length 0 : Int)) _ [] 0 _ rfl rfl (by simp [nrd]) (fun pre x r s hw hs2 => ?_) fun s hs2 => by rw [hs2]; omega
   subst hs2
   have hp : pre.length < y6.1.Kinds.length := by rw [hw]; simp
   have h1 := nrd_le y6.1 pre.length 0
   have h2 := nrd_snoc y6.1 pre.length 0
   unfold F_law30_ExposurePublic_L3
   refine Ok.bind (Ok.of (rreader_eq gd _) rfl) fun y hy => ?_
   have h3 : nrd y6.1 1 (0 + (pre.length : Int)) = if rdr y6.1 (pre.length : Int) then 1 else 0 := by simp [nrd]
   rw [h3] at h2
   refine Ok.ite (fun v => Ok.chk (in64_smD (by omega) (by omega)) (Ok.ret ?_)) fun v => Ok.ret ?_
   · rw [← hy] at v
     have v := of_decide_eq_true v
     rw [if_pos v] at h2
     rw [List.length_append, List.length_singleton, h2]; omega
   · rw [← hy] at v
     have v := of_decide_eq_false v
     rw [if_neg v] at h2
     rw [List.length_append, List.length_singleton, h2]; omega
 subst hx
 exact Ok.jn (P := fun y => y = true) (Ok.ite (fun _ => awk) fun h => by simp at h) fun j hj => Ok.ret hj
end Go.Ab
