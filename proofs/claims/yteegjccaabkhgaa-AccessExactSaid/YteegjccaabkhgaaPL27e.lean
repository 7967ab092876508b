/- More laws of chapter 27 about what is made. -/
import Derived.Test.YteegjccaabkhgaaPL27d
import Derived.Test.YteegjccaabkhgaaLAWB
set_option linter.all false
set_option linter.all false
namespace Go.Ab
open Go.Proofs

theorem compactUpTo_mem (d : Array Int) : ∀ (m i : Nat), i < m → d[i]! ∈ Go.Lib.compactUpTo d m
  | 0, i, h => by omega
  | m + 1, i, h => by
    rw [Go.Lib.compactUpTo_succ, List.mem_append]
    rcases Nat.lt_or_ge i m with h1 | h1
    · exact .inl (compactUpTo_mem d m i h1)
    · have e : i = m := by omega
      subst e
      cases hk : Go.Lib.keeps d i with
      | true => right; simp [hk]
      | false =>
        left
        cases i with
        | zero => simp [Go.Lib.keeps] at hk
        | succ i =>
          have h2 : d[i + 1]! = d[i]! := by
            by_cases c : d[i + 1]! = d[i]!
            · exact c
            · have := Go.Lib.keeps_pos (d := d) (m := i + 1) (by simpa using c)
              rw [hk] at this; cases this
          rw [h2]
          exact compactUpTo_mem d (i + 1) i (by omega)
theorem compact_all (xs : List Int) : ∀ x ∈ xs, x ∈ Go.Lib.compact xs := by
  intro x hx
  obtain ⟨i, hi, rfl⟩ := List.mem_iff_getElem.1 hx
  have := compactUpTo_mem xs.toArray xs.length i hi
  simpa [Go.Lib.compact, hi] using this
open Classical in
theorem times_eq {a : GEstate} (g : Good a) : F_access_Times a = some (Go.Lib.compact (a.Events.map GAccess.Time)) := by
  simp only [F_access_Times, check_eq, if_pos g, Option.bind_some, decide_true, Bool.not_true, cond_false]
  have h := g.len
  rw [foldL_push (body := F_access_Times_L1) (g := GAccess.Time) (b := 8) (n := 120) (by omega) (fun k x s => rfl) a.Events 0 [] (by simpa using h)]
  simp only [Option.bind_some, compactI, List.nil_append, List.drop_zero]
  rw [List.take_left']
  rfl
theorem foldl_congr' {α β : Type} {f g : β → α → β} : ∀ {l : List α} {b : β}, (∀ x ∈ l, ∀ b, f b x = g b x) → l.foldl f b = l.foldl g b
  | [], b, h => rfl
  | x :: r, b, h => by
    simp only [List.foldl_cons, h x (by simp) b]
    exact foldl_congr' fun x hx => h x (by simp [hx])
theorem keysf_time {p t t' : Int} {l : List GAccess} (h : ∀ x ∈ l, (t < x.Time ↔ t' < x.Time)) : keysf p t l = keysf p t' l :=
  foldl_congr' fun x hx ks => by simp only [kst, h x hx]
theorem lk2_mono {p t : Int} : ∀ {l : List GAccess} {a b : Bool}, (∀ x ∈ l, x.Time ≠ t) → (b = true → a = true) → l.foldl (lk2 p t) b = true → l.foldl (lk2 p (t - 1)) a = true
  | [], a, b, h, hab, hb => hab hb
  | x :: r, a, b, h, hab, hb => by
    simp only [List.foldl_cons] at hb ⊢
    refine lk2_mono (fun y hy => h y (by simp [hy])) (fun h1 => ?_) hb
    have hx := h x (by simp)
    unfold lk2 at h1 ⊢
    by_cases c : t < x.Time ∨ x.Place ≠ p
    · rw [if_pos c] at h1
      rw [if_pos (by omega)]
      exact hab h1
    · rw [if_neg c] at h1
      rw [if_neg (by omega)]
      by_cases c2 : x.Kind = 4
      · rw [if_pos c2] at h1; cases h1
      · rw [if_neg c2] at h1 ⊢
        by_cases c3 : x.Kind = 3 ∧ t < x.Until
        · rw [if_pos (by omega)]
        · rw [if_neg c3] at h1
          split
          · rfl
          · exact hab h1
theorem quiet_law (l : List Int) : F_law27_AccessQuiet l = some true := by
  refine Ok.eq ?_
  unfold F_law27_AccessQuiet
  refine Ok.ite (fun _ => awake_ok) fun c => ?_
  refine made_ok (by rw [c]; simp) fun y g hp hn ht hT => ?_
  rw [times_eq g]
  refine Ok.bind (P := fun z => z = Go.Lib.compact (y.1.Events.map GAccess.Time)) ⟨_, rfl, rfl⟩ fun z hz => ?_
  subst hz
  refine Ok.bind (Ok.loop (Q := fun r => r = .inl ()) (fun x => 1 ≤ x ∧ x ≤ 40) (fun x => (40 - x).toNat) (fun t hx => ?_) _ ⟨by omega, by omega⟩) fun r hr => by subst hr; exact awake_ok
  unfold F_law27_AccessQuiet_L2
  refine Ok.ite (fun c => ?_) fun c => Ok.ret rfl
  have c : t < 40 := by simpa using c
  refine Ok.jn (P := fun o => o = .nx ()) ?_ fun o ho => by
    subst ho
    refine Ok.chk (in64_sm (by omega) (by omega)) (Ok.ret ?_)
    exact ⟨⟨by omega, by omega⟩, by omega⟩
  rw [has_eq]
  refine Ok.bind (P := fun z => z = decide (t ∈ Go.Lib.compact (y.1.Events.map GAccess.Time))) ⟨_, rfl, rfl⟩ fun z hz => ?_
  refine Ok.ite (fun _ => Ok.ret rfl) fun cz => ?_
  have hne : ∀ x ∈ y.1.Events, x.Time ≠ t := fun x hx e => by
    have := compact_all (y.1.Events.map GAccess.Time) t (by rw [← e]; exact List.mem_map_of_mem hx)
    rw [cz] at hz
    have := of_decide_eq_false hz.symm
    contradiction
  refine Ok.bind (Ok.loop (Q := fun r => r = .inl ()) (fun x => 0 ≤ x ∧ x ≤ y.1.Places) (fun x => (y.1.Places - x).toNat) (fun pl hx => ?_) _ ⟨by omega, by have := g.lo; omega⟩) fun r hr => by subst hr; exact Ok.ret rfl
  unfold F_law27_AccessQuiet_L1
  refine Ok.ite (fun c => ?_) fun c => Ok.ret rfl
  have c : pl < y.1.Places := by simpa using c
  have k1 := known_of g hx.1 (show pl ≤ y.1.Places - 1 by omega)
  have hk : keysf pl (t - 1) y.1.Events = keysf pl t y.1.Events := keysf_time fun x hx => by have := hne x hx; omega
  have hl : (lkf pl t y.1.Events 0 (0, false)).2 = true → (lkf pl (t - 1) y.1.Events 0 (0, false)).2 = true := fun h => by
    rw [lkf_2] at h ⊢
    exact lk2_mono hne (fun h => h) h
  refine Ok.jn (P := fun o => ∃ v, o = .nx v) ?_ fun o ho => by
    obtain ⟨v, rfl⟩ := ho
    refine Ok.chk (in64_sm (by omega) (by omega)) (Ok.ret ?_)
    exact ⟨⟨by omega, by omega⟩, by omega⟩
  have hin : in64 (t - 1) = true := in64_sm (by omega) (by omega)
  simp only [linked_eq _ k1, granted_eq _ (show y.1.Events.length ≤ 120 by omega) k1, hk, ints_eq, Option.bind_some, chk_true hin, decide_true, Bool.not_true, cond_false]
  refine Ok.ite (fun cl => ?_) fun cl => Ok.ret ⟨_, rfl⟩
  rw [hl cl]
  exact Ok.ret ⟨_, rfl⟩
/-! ### grants that are told -/
theorem aget_aput {β : Type} (q k : Int) (v : β) : ∀ m : List (Int × β), aget q (aput k v m) = if q = k then some v else aget q m
  | [] => by by_cases e : q = k <;> simp [aput, aget, e]
  | (a, b) :: r => by
    by_cases e : k = a
    · subst e
      by_cases e2 : q = k <;> simp [aput, aget, e2]
    · simp only [aput, if_neg e, aget, aget_aput q k v r]
      by_cases e2 : q = a
      · subst e2
        have : ¬ q = k := fun h => e h.symm
        simp [this]
      · simp [e2]
theorem aget_none {β : Type} {q : Int} : ∀ {m : List (Int × β)}, q ∉ m.map Prod.fst → aget q m = none
  | [], h => rfl
  | (a, b) :: r, h => by
    simp only [List.map_cons, List.mem_cons, not_or] at h
    simp only [aget, if_neg h.1, aget_none h.2]
theorem aget_some {β : Type} {q : Int} : ∀ {m : List (Int × β)}, q ∈ m.map Prod.fst → ∃ v, aget q m = some v
  | (a, b) :: r, h => by
    by_cases e : q = a
    · exact ⟨b, by simp [aget, e]⟩
    · have : q ∈ r.map Prod.fst := by simpa [e] using h
      obtain ⟨v, hv⟩ := aget_some this
      exact ⟨v, by simp [aget, e, hv]⟩
theorem aget_isSome {β : Type} (q : Int) (m : List (Int × β)) : (aget q m).isSome = decide (q ∈ m.map Prod.fst) := by
  by_cases h : q ∈ m.map Prod.fst
  · obtain ⟨v, hv⟩ := aget_some h
    rw [hv]; exact (decide_eq_true h).symm
  · rw [aget_none h]; exact (decide_eq_false h).symm
theorem aget_adel {β : Type} (q k : Int) : ∀ m : List (Int × β), (m.map Prod.fst).Nodup → aget q (adel k m) = if q = k then none else aget q m
  | [], h => by simp [adel, aget]
  | (a, b) :: r, h => by
    simp only [List.map_cons, List.nodup_cons] at h
    by_cases e : k = a
    · subst e
      by_cases e2 : q = k
      · subst e2
        simp only [adel, if_true]
        exact aget_none h.1
      · simp [adel, aget, e2]
    · simp only [adel, if_neg e, aget, aget_adel q k r h.2]
      by_cases e2 : q = a
      · subst e2
        have : ¬ q = k := fun h => e h.symm
        simp [this]
      · simp [e2]
theorem grf_nodup (p t : Int) (l : List GAccess) : ((grf p t l).map Prod.fst).Nodup := by rw [grf_keys]; exact keysf_nodup p t l
theorem grf_snoc (p t : Int) (l : List GAccess) (x : GAccess) : grf p t (l ++ [x]) = gst p t l.length x (grf p t l) := by
  simp only [grf, foldP_append, foldP, Int.zero_add]
def told (p t q : Int) (l : List GAccess) (n : Nat) : Prop :=
  n < l.length ∧ (l.getD n default).Kind = 1 ∧ (l.getD n default).Place = p ∧ (l.getD n default).Principal = q ∧ (l.getD n default).Time ≤ t ∧ ∀ y ∈ l.drop (n + 1), ¬ (y.Kind = 2 ∧ y.Place = p ∧ y.Principal = q ∧ y.Time ≤ t)
theorem told_snoc {p t q : Int} {l : List GAccess} {n : Nat} {x : GAccess} (h : told p t q l n) (hx : ¬ (x.Kind = 2 ∧ x.Place = p ∧ x.Principal = q ∧ x.Time ≤ t)) : told p t q (l ++ [x]) n := by
  obtain ⟨h1, h2, h3, h4, h5, h6⟩ := h
  have e : (l ++ [x]).getD n default = l.getD n default := by rw [List.getD_eq_getElem?_getD, List.getD_eq_getElem?_getD, List.getElem?_append_left h1]
  refine ⟨by simp; omega, by rw [e]; exact h2, by rw [e]; exact h3, by rw [e]; exact h4, by rw [e]; exact h5, fun y hy => ?_⟩
  rw [List.drop_append_of_le_length (by omega), List.mem_append, List.mem_singleton] at hy
  rcases hy with hy | rfl
  · exact h6 y hy
  · exact hx
theorem grant_told (p t q : Int) (l : List GAccess) (k : Int) (h : aget q (grf p t l) = some k) : ∃ n : Nat, k = n ∧ told p t q l n := by
  induction l using revList_ind generalizing k with
  | h0 => cases h
  | h1 l x ih =>
    rw [grf_snoc] at h
    unfold gst at h
    split at h
    · rename_i c
      obtain ⟨n, e, hn⟩ := ih k h
      exact ⟨n, e, told_snoc hn (by omega)⟩
    · rename_i c
      split at h
      · rename_i c2
        rw [aget_aput] at h
        split at h
        · rename_i c3
          cases h
          refine ⟨l.length, rfl, by simp, ?_⟩
          have e : (l ++ [x]).getD l.length default = x := by simp
          rw [e]
          refine ⟨c2, by omega, c3.symm, by omega, fun y hy => ?_⟩
          rw [List.drop_eq_nil_of_le (by simp)] at hy
          cases hy
        · obtain ⟨n, e, hn⟩ := ih k h
          exact ⟨n, e, told_snoc hn (by omega)⟩
      · split at h
        · rw [aget_adel _ _ _ (grf_nodup p t l)] at h
          split at h
          · cases h
          · rename_i c3
            obtain ⟨n, e, hn⟩ := ih k h
            exact ⟨n, e, told_snoc hn fun hh => c3 hh.2.2.1.symm⟩
        · obtain ⟨n, e, hn⟩ := ih k h
          exact ⟨n, e, told_snoc hn (by omega)⟩
theorem grants_law (l : List Int) : F_law27_AccessGrants l = some true := by
  refine Ok.eq ?_
  unfold F_law27_AccessGrants
  refine Ok.ite (fun _ => awake_ok) fun c => ?_
  refine made_ok (by rw [c]; simp) fun y g hp hn ht hT => Ok.bind (next_ok hT (by omega)) fun z hz => ?_
  refine Ok.bind (Ok.loop (Q := fun r => r = .inl ()) (fun x => 0 ≤ x ∧ x ≤ y.1.Places) (fun x => (y.1.Places - x).toNat) (fun pl hx => ?_) _ ⟨by omega, by have := g.lo; omega⟩) fun r hr => by subst hr; exact awake_ok
  unfold F_law27_AccessGrants_L3
  refine Ok.ite (fun c => ?_) fun c => Ok.ret rfl
  have c : pl < y.1.Places := by simpa using c
  have k1 := known_of g hx.1 (show pl ≤ y.1.Places - 1 by omega)
  rw [granted_eq _ (by omega) k1]
  simp only [Option.bind_some]
  refine Ok.bind (Ok.loop (Q := fun r => r = .inl ()) (fun x => 0 ≤ x ∧ x ≤ 9) (fun x => (9 - x).toNat) (fun q hq => ?_) _ ⟨by omega, by omega⟩) fun r hr => by
    subst hr
    refine Ok.chk (in64_sm (by omega) (by omega)) (Ok.ret ?_)
    exact ⟨⟨by omega, by omega⟩, by omega⟩
  unfold F_law27_AccessGrants_L2
  refine Ok.ite (fun c => ?_) fun c => Ok.ret rfl
  have c9 : q < 9 := by simpa using c
  refine Ok.jn (P := fun o => o = .nx ()) ?_ fun o ho => by
    subst ho
    refine Ok.chk (in64_sm (by omega) (by omega)) (Ok.ret ?_)
    exact ⟨⟨by omega, by omega⟩, by omega⟩
  rw [grant_eq _ _ k1, has_eq]
  simp only [Option.bind_some]
  have e1 : decide (q ∈ srtI (keysf pl z.1 y.1.Events)) = (aget q (grf pl z.1 y.1.Events)).isSome := by
    rw [aget_isSome, grf_keys]
    exact decide_eq_decide.2 srtI_mem
  rw [e1]
  simp only [beq_self_eq_true, Bool.not_true, cond_false]
  cases ha : aget q (grf pl z.1 y.1.Events) with
  | none => exact Ok.ret rfl
  | some k =>
    obtain ⟨n, rfl, h1, h2, h3, h4, h5, h6⟩ := grant_told _ _ _ _ _ ha
    simp only [Option.getD_some, Option.isSome_some, Bool.not_true, cond_false, grp, Int.toNat_natCast, h2, h3, h4, decide_true, Bool.or_false]
    have e2 : (decide ((n : Int) < 0) || decide ((y.1.Events.length : Int) ≤ (n : Int))) = false := by
      simp only [Bool.or_eq_false_iff, decide_eq_false_iff_not]; omega
    have e3 : inb (n : Int) y.1.Events.length = true := inb_iff.2 ⟨by omega, by omega⟩
    have e4 : decide (z.1 < (y.1.Events.getD n default).Time) = false := decide_eq_false (by omega)
    have e5 : in64 ((n : Int) + 1) = true := in64_sm (by omega) (by omega)
    have e6 : inc ((n : Int) + 1) (y.1.Events.length : Int) y.1.Events.length = true := inc_iff.2 ⟨by omega, by omega, by omega⟩
    simp only [e2, cond_false, chk_true e3, e4, chk_true e5, chk_true e6]
    have e7 : ((n : Int) + 1).toNat = n + 1 := by omega
    rw [e7]
    refine Ok.bind (Ok.for (Q := fun o => o = .nx ()) (fun _ => True) _ 0 () trivial (fun k x s hx _ => ?_) fun s _ => rfl) fun o ho => by subst ho; exact Ok.ret rfl
    have := h6 x hx
    unfold F_law27_AccessGrants_L1
    simp only [grp]
    have e8 : (decide (x.Kind = 2) && decide (x.Place = pl) && decide (x.Principal = q) && decide (x.Time ≤ z.1)) = false := by
      cases hh : (decide (x.Kind = 2) && decide (x.Place = pl) && decide (x.Principal = q) && decide (x.Time ≤ z.1)) with
      | false => rfl
      | true =>
        simp only [Bool.and_eq_true, decide_eq_true_eq] at hh
        exact absurd ⟨hh.1.1.1, hh.1.1.2, hh.1.2, hh.2⟩ this
    rw [e8]
    exact Ok.ret trivial
/-! ### all is revoked -/
theorem erase_all : ∀ {l K : List Int}, K.Perm l → l.foldl (fun s k => s.erase k) K = []
  | [], K, h => h.eq_nil
  | x :: r, K, h => by
    simp only [List.foldl_cons]
    refine erase_all ?_
    have := h.erase x
    simpa using this
theorem revokes_law (l : List Int) : F_law27_AccessRevokes l = some true := by
  refine Ok.eq ?_
  unfold F_law27_AccessRevokes
  refine Ok.ite (fun _ => awake_ok) fun c => ?_
  refine made_ok (by rw [c]; simp) fun y g hp hn ht hT => Ok.bind (next_ok hT (by have := g.lo; omega)) fun u hu => ?_
  have hlo := g.lo
  refine Ok.jn (P := fun j => 0 ≤ j ∧ j ≤ 33 ∧ ∀ x ∈ y.1.Events, x.Time ≤ j) ?_ fun j hj => ?_
  · refine Ok.ite (fun c => ?_) fun c => ?_
    · have c : 0 < (y.1.Events.length : Int) := by simpa using c
      refine Ok.chk (in64_sm (by omega) (by omega)) (Ok.chk (inb_iff.2 ⟨by omega, by omega⟩) (Ok.ret ?_))
      have hlt : ((y.1.Events.length : Int) - 1).toNat < y.1.Events.length := by omega
      have e : y.1.Events.getD ((y.1.Events.length : Int) - 1).toNat default = y.1.Events[((y.1.Events.length : Int) - 1).toNat] := by rw [List.getD_eq_getElem?_getD, List.getElem?_eq_getElem hlt]; rfl
      rw [e]
      refine ⟨(g.ev _ (List.getElem_mem hlt)).1, ht _ (List.getElem_mem hlt), fun x hx => ?_⟩
      obtain ⟨i, hi, rfl⟩ := List.mem_iff_getElem.1 hx
      by_cases hc : i = ((y.1.Events.length : Int) - 1).toNat
      · subst hc; exact Int.le_refl _
      · exact List.pairwise_iff_getElem.1 g.srt i _ hi hlt (by omega)
    · have c : ¬ 0 < (y.1.Events.length : Int) := by simpa using c
      have : y.1.Events = [] := List.length_eq_zero_iff.1 (by omega)
      exact Ok.ret ⟨by omega, by omega, by simp [this]⟩
  obtain ⟨j0, j1, j2⟩ := hj
  have k1 := known_of g hu.1 (show u.1 ≤ y.1.Places - 1 by omega)
  refine Ok.chk (room_sm (by omega)) ?_
  rw [granted_eq _ (by omega) k1]
  simp only [Option.bind_some]
  generalize hks : srtI (keysf u.1 j y.1.Events) = ks
  have hperm : ks.Perm (keysf u.1 j y.1.Events) := by rw [← hks]; exact srtI_perm _
  have hkl : ks.length ≤ 15 := by
    have h1 := hperm.length_eq
    have h2 := keysf_len u.1 j y.1.Events
    omega
  refine Ok.bind (Ok.foldI (all := ks) (Q := fun x : Int × List GAccess => x = (y.1.Places, y.1.Events ++ ks.map fun k => GAccess.mk j 2 u.1 k 0 0 0)) (fun pre x => x = (y.1.Places, y.1.Events ++ pre.map fun k => GAccess.mk j 2 u.1 k 0 0 0)) ks [] 0 _ rfl rfl (by simp) (fun pre x r s hw hs => ?_) fun s hs => hs) fun s hs => ?_
  · subst hs
    have hp : pre.length ≤ 15 := by have := congrArg List.length hw; simp at this; omega
    unfold F_law27_AccessRevokes_L1
    refine Ok.chk (room_sm (by simp; omega)) (Ok.ret ?_)
    simp
  subst hs
  simp only
  refine Ok.chk (room_sm (by simp; omega)) ?_
  generalize hm : (y.1.Events ++ ks.map (fun k => GAccess.mk j 2 u.1 k 0 0 0)) ++ [GAccess.mk j 4 u.1 0 0 0 0] = evs
  have gm : Good ⟨y.1.Places, evs⟩ := by
    refine ⟨g.lo, g.hi, by rw [← hm]; simp; omega, fun x hx => ?_, ?_⟩
    · rw [← hm] at hx
      simp only [List.mem_append, List.mem_map, List.mem_singleton] at hx
      rcases hx with (hx | ⟨k, hk, rfl⟩) | rfl
      · exact g.ev x hx
      · obtain ⟨w, hw, hw1, hw2, _⟩ := keysf_mem (hperm.mem_iff.1 hk)
        have := (g.ev w hw).2.2.2.2
        refine ⟨j0, by show j ≤ 1099511627776; omega, hu.1, by show u.1 ≤ y.1.Places - 1; omega, .inl ⟨.inr rfl, ?_, ?_, rfl, rfl, rfl⟩⟩
        · show 0 ≤ k; omega
        · show k ≤ 23; omega
      · exact ⟨j0, by show j ≤ 1099511627776; omega, hu.1, by show u.1 ≤ y.1.Places - 1; omega, .inr (.inr (.inl ⟨rfl, rfl, rfl, rfl, rfl⟩))⟩
    · show List.Pairwise _ evs
      rw [← hm, List.pairwise_append, List.pairwise_append]
      refine ⟨⟨g.srt, ?_, fun a ha b hb => ?_⟩, by simp, fun a ha b hb => ?_⟩
      · rw [List.pairwise_map]
        exact List.pairwise_of_forall (fun _ _ => Int.le_refl j)
      · simp only [List.mem_map] at hb
        obtain ⟨k, _, rfl⟩ := hb
        exact j2 a ha
      · simp only [List.mem_append, List.mem_map, List.mem_singleton] at ha hb
        subst hb
        rcases ha with ha | ⟨k, _, rfl⟩
        · exact j2 a ha
        · exact Int.le_refl j
  refine Ok.bind (Ok.loop (Q := fun r => r = .inl ⟨y.1.Places, evs⟩) (fun x => x.2 = ⟨y.1.Places, evs⟩ ∧ j ≤ x.1 ∧ x.1 ≤ j + 8) (fun x => (j + 8 - x.1).toNat) (fun x hx => ?_) _ ⟨rfl, by show j ≤ j; omega, by show j ≤ j + 8; omega⟩) fun r hr => ?_
  · obtain ⟨t, e⟩ := x
    obtain ⟨rfl, x1, x2⟩ := hx
    simp only at x1 x2
    unfold F_law27_AccessRevokes_L2
    refine Ok.chk (in64_sm (by omega) (by omega)) (Ok.ite (fun c => ?_) fun c => Ok.ret rfl)
    have c : t < j + 8 := by simpa using c
    have k2 := known_of gm hu.1 (show u.1 ≤ y.1.Places - 1 by omega)
    rw [linked_eq _ k2]
    simp only [Option.bind_some]
    have e1 : (lkf u.1 t evs 0 (0, false)).2 = false := by
      rw [← hm, lkf_append]
      simp only [lkf, lst]
      have : ¬ (t < j ∨ u.1 ≠ u.1) := by omega
      rw [if_neg this]
      rfl
    rw [e1]
    rw [granted_eq _ gm.len k2]
    have e2 : keysf u.1 t evs = [] := by
      rw [← hm, keysf_snoc, keysf_append, keysf_time (t' := j) fun x hx => by have := j2 x hx; omega]
      rw [List.foldl_map]
      have e3 : ks.foldl (fun s k => kst u.1 t (GAccess.mk j 2 u.1 k 0 0 0) s) (keysf u.1 j y.1.Events) = [] := by
        rw [foldl_congr' (g := fun s k => s.erase k) fun k _ s => by
          have : ¬ (t < j ∨ u.1 ≠ u.1) := by omega
          simp only [kst, if_neg this]
          rfl]
        exact erase_all hperm.symm
      rw [e3]
      simp only [kst]
      split <;> rfl
    rw [e2]
    simp only [cond_false, Option.bind_some]
    have e4 : (srtI []).length = 0 := by simp [srtI]
    rw [e4]
    refine Ok.ite (fun c => by simp at c) fun _ => Ok.chk (in64_sm (by omega) (by omega)) (Ok.ret ?_)
    exact ⟨⟨rfl, by show j ≤ t + 1; omega, by show t + 1 ≤ j + 8; omega⟩, by show (j + 8 - (t + 1)).toNat < (j + 8 - t).toNat; omega⟩
  · subst hr
    simp only [Sum_inl]
    classical
    rw [check_eq, if_pos gm]
    simp only [Option.bind_some, decide_true, cond_true, jn, awake_eq]
    exact ⟨_, rfl, rfl⟩
end Go.Ab
