/- What is reached, powers, worths, scores. -/
import Derived.Test.YtopbblhkapgdkaaDoorPL31b
set_option linter.all false
set_option linter.all false
namespace Go.Ab
open Go.Proofs

/-! ### maps and order -/
theorem aget_none {β : Type} {q : Int} : ∀ {m : List (Int × β)}, q ∉ m.map Prod.fst → aget q m = none
  | [], h => rfl
  | (a, b) :: r, h => by
    simp only [List.map_cons, List.mem_cons, not_or] at h
    simp only [aget, if_neg h.1, aget_none h.2]
theorem aget_mem {β : Type} {q : Int} : ∀ {m : List (Int × β)}, q ∈ m.map Prod.fst → ∃ v, aget q m = some v ∧ (q, v) ∈ m
  | (a, b) :: r, h => by
    by_cases e : q = a
    · exact ⟨b, by simp [aget, e], by simp [e]⟩
    · have : q ∈ r.map Prod.fst := by simpa [e] using h
      obtain ⟨v, hv, hm⟩ := aget_mem this
      exact ⟨v, by simp [aget, e, hv], by simp [hm]⟩
theorem aput_new {β : Type} {k : Int} {v : β} : ∀ {m : List (Int × β)}, k ∉ m.map Prod.fst → aput k v m = m ++ [(k, v)]
  | [], h => rfl
  | (a, b) :: r, h => by
    simp only [List.map_cons, List.mem_cons, not_or] at h
    simp only [aput, if_neg h.1, aput_new h.2, List.cons_append]
def srtI (l : List Int) : List Int := l.mergeSort fun x y => decide (x ≤ y)
theorem srtI_perm (l : List Int) : (srtI l).Perm l := List.mergeSort_perm _ _
theorem srtI_sorted (l : List Int) : (srtI l).Pairwise (fun x y => x ≤ y) := by
  have := List.pairwise_mergeSort (le := fun x y : Int => decide (x ≤ y)) (fun a b c h1 h2 => by simp at *; omega) (fun a b => by simp; omega) l
  exact this.imp fun h => by simpa using h
theorem srtI_congr {l m : List Int} (h : l.Perm m) : srtI l = srtI m :=
  ((srtI_perm l).trans (h.trans (srtI_perm m).symm)).eq_of_pairwise (fun a b _ _ h1 h2 => by omega) (srtI_sorted l) (srtI_sorted m)
theorem len_range : ∀ {l m : List Int}, l.Nodup → (∀ a ∈ l, a ∈ m) → l.length ≤ m.length
  | [], m, _, _ => by simp
  | x :: r, m, hn, hs => by
    rw [List.nodup_cons] at hn
    have hx := hs x (by simp)
    have : r.length ≤ (m.erase x).length := len_range hn.2 fun a ha => (List.mem_erase_of_ne fun e => hn.1 (by rw [← e]; exact ha)).2 (hs a (by simp [ha]))
    rw [List.length_erase_of_mem hx] at this
    have : 0 < m.length := List.length_pos_of_mem hx
    simp; omega
theorem len24 {l : List Int} (hn : l.Nodup) (h : ∀ a ∈ l, 0 ≤ a ∧ a ≤ 23) : l.length ≤ 24 := by
  have := len_range (m := (List.range 24).map fun i : Nat => (i : Int)) hn fun a ha => by
    have := h a ha
    simp only [List.mem_map, List.mem_range]
    exact ⟨a.toNat, by omega, by omega⟩
  simpa using this
theorem foldL_push {α β : Type} {body : Int → α → List β → Option (List β)} (g : α → β) (b : Nat) (n : Nat) (hn : n * b ≤ 140737488355328) (h : ∀ k x s, body k x s = chk (room (s.length + [g x].length) b) (some (s ++ [g x]))) :
    ∀ (xs : List α) (k : Int) (s : List β), s.length + xs.length ≤ n → foldL body xs k s = some (s ++ xs.map g)
  | [], k, s, hl => by simp [foldL]
  | x :: r, k, s, hl => by
    have : room (s.length + [g x].length) b = true := room_iff.2 (by
      simp at hl ⊢
      exact Nat.le_trans (Nat.mul_le_mul_right b (by omega)) hn)
    simp only [foldL, h, chk_true this, Option.bind_some]
    rw [foldL_push g b n hn h r (k + 1) _ (by simp at hl ⊢; omega)]
    simp
/-! ### what is reached -/
inductive Rch (x : GRights) (c : Int) : Int → Prop
  | refl : Rch x c c
  | step {a b : Int} (h : Rch x c a) (hl : leads x a b) : Rch x c b
theorem leads_range {x : GRights} (g : GoodR x) {a b : Int} (h : leads x a b) : 0 ≤ b ∧ b ≤ x.Credentials - 1 := by
  rcases h with ⟨m, hm, _, rfl⟩ | ⟨_, _, s, hs, _, _, rfl⟩
  · exact (g.mi m hm).2
  · exact (g.st s hs).1
theorem rch_range {x : GRights} (g : GoodR x) {c k : Int} (hc : 0 ≤ c ∧ c ≤ x.Credentials - 1) (h : Rch x c k) : 0 ≤ k ∧ k ≤ x.Credentials - 1 := by
  cases h with
  | refl => exact hc
  | step h hl => exact leads_range g hl
theorem clone_eq {s : List GLink} (h : s.length ≤ 1000) : F_slices_Clone_api_Link_api_Link s = some s := by
  have h1 : room (([] : List GLink).length + s.length) 32 = true := room_sm (by simp; omega)
  unfold F_slices_Clone_api_Link_api_Link
  rw [amb_eq]
  · rw [chk_true h1]; rfl
  · intro he
    rw [chk_true h1]
    have : s = [] := by simpa using he
    subst this; rfl
structure Inv (x : GRights) (c : Int) (q : List Int) (o : List (Int × List GLink)) : Prop where
  nd : (o.map Prod.fst).Nodup
  rc : ∀ k ∈ o.map Prod.fst, Rch x c k
  st : c ∈ o.map Prod.fst
  qn : q.Nodup
  qs : ∀ k ∈ q, k ∈ o.map Prod.fst
  cl : ∀ a ∈ o.map Prod.fst, a ∉ q → ∀ b, leads x a b → b ∈ o.map Prod.fst
  ln : ∀ p ∈ o, p.2.length ≤ o.length
theorem Inv.len {x : GRights} (g : GoodR x) {c : Int} (hc : 0 ≤ c ∧ c ≤ x.Credentials - 1) {q : List Int} {o : List (Int × List GLink)} (h : Inv x c q o) : o.length ≤ 24 := by
  have := len24 h.nd fun a ha => by have := rch_range g hc (h.rc a ha); have := g.c1; omega
  simpa using this
theorem chains_ok {x : GRights} (g : GoodR x) {c : Int} (hc : 0 ≤ c ∧ c ≤ x.Credentials - 1) : Ok (F_rights_chains x c) fun o => (o.map Prod.fst).Nodup ∧ o.length ≤ 24 ∧ ∀ k, k ∈ o.map Prod.fst ↔ Rch x c k := by
  unfold F_rights_chains
  refine Ok.bind (Ok.loop (Q := fun o : List (Int × List GLink) => (o.map Prod.fst).Nodup ∧ o.length ≤ 24 ∧ ∀ k, k ∈ o.map Prod.fst ↔ Rch x c k) (fun s => Inv x c s.1 s.2) (fun s => 2 * (24 - s.2.length) + s.1.length) (fun s hs => ?_) _ ?_) fun r hr => Ok.ret hr
  · obtain ⟨q, o⟩ := s
    simp only at hs
    unfold F_rights_chains_L2
    refine Ok.ite (fun cq => ?_) fun cq => ?_
    · have cq : 0 < (q.length : Int) := by simpa using cq
      obtain ⟨q0, rest, rfl⟩ : ∃ a r, q = a :: r := by
        cases q with
        | nil => simp at cq
        | cons a r => exact ⟨a, r, rfl⟩
      refine Ok.chk (inb_iff.2 ⟨by omega, cq⟩) ?_
      have e0 : (q0 :: rest).getD 0 default = q0 := rfl
      simp only [e0]
      refine Ok.bind (links_ok g q0) fun ls hls => ?_
      obtain ⟨l1, l2, l3⟩ := hls
      refine Ok.bind (Ok.foldI (all := ls) (Q := fun s : List Int × List (Int × List GLink) => (∃ news, s.1 = q0 :: (rest ++ news)) ∧ Inv x c s.1 s.2 ∧ 2 * (24 - s.2.length) + s.1.length ≤ 2 * (24 - o.length) + (q0 :: rest).length ∧ ∀ l ∈ ls, ∀ b, lnkTo x q0 l b → b ∈ s.2.map Prod.fst)
        (fun pre s => (∃ news, s.1 = q0 :: (rest ++ news)) ∧ Inv x c s.1 s.2 ∧ 2 * (24 - s.2.length) + s.1.length ≤ 2 * (24 - o.length) + (q0 :: rest).length ∧ ∀ l ∈ pre, ∀ b, lnkTo x q0 l b → b ∈ s.2.map Prod.fst) ls [] 0 _ rfl rfl ⟨⟨[], by simp⟩, hs, Nat.le_refl _, by simp⟩ (fun pre l r s hw hs => ?_) fun s hs => hs) fun s hs => ?_
      · obtain ⟨q', o'⟩ := s
        obtain ⟨⟨news, hq'⟩, hi, hm, hp⟩ := hs
        simp only at hq' hi hm hp
        subst hq'
        obtain ⟨b, hb, hlb⟩ := l2 l (by rw [hw]; simp)
        have hlen := hi.len g hc
        have hq0 := hi.qs q0 (by simp)
        unfold F_rights_chains_L1
        have e1 : (q0 :: (rest ++ news)).getD 0 default = q0 := rfl
        have i0 : inb 0 (q0 :: (rest ++ news)).length = true := inb_iff.2 ⟨by omega, by simp; omega⟩
        simp only [e1, hb, Option.bind_some, chk_true i0]
        by_cases hbk : b ∈ o'.map Prod.fst
        · obtain ⟨v, hv, _⟩ := aget_mem hbk
          simp only [hv, Option.isSome_some, Bool.not_true, cond_false]
          refine Ok.ret ⟨⟨news, rfl⟩, hi, hm, fun l' hl' b' hb' => ?_⟩
          simp only [List.mem_append, List.mem_singleton] at hl'
          rcases hl' with hl' | rfl
          · exact hp l' hl' b' hb'
          · rw [hb'.1] at hb; cases hb; exact hbk
        · simp only [aget_none hbk, Option.isSome_none, Bool.not_false, cond_true]
          obtain ⟨ch, hch, hchm⟩ := aget_mem hq0
          have hchl := hi.ln _ hchm
          simp only at hchl
          simp only [hch, Option.getD_some, clone_eq (show ch.length ≤ 1000 by omega), Option.bind_some]
          have hql : (q0 :: (rest ++ news)).length ≤ o'.length := by
            have := len_range hi.qn hi.qs
            simpa using this
          refine Ok.chk (room_sm (by simp; omega)) (Ok.chk (room_sm (by simp at hql ⊢; omega)) (Ok.ret ?_))
          have hkeys : (aput b (ch ++ [l]) o').map Prod.fst = o'.map Prod.fst ++ [b] := by rw [aput_new hbk]; simp
          have hol : (aput b (ch ++ [l]) o').length = o'.length + 1 := by rw [aput_new hbk]; simp
          have hbq : b ∉ q0 :: (rest ++ news) := fun h => hbk (hi.qs b h)
          have hrb : Rch x c b := .step (hi.rc q0 hq0) hlb
          have hnew : Inv x c (q0 :: (rest ++ news) ++ [b]) (aput b (ch ++ [l]) o') := by
            refine ⟨?_, ?_, ?_, ?_, ?_, ?_, ?_⟩
            · rw [hkeys, List.nodup_append]
              exact ⟨hi.nd, by simp, fun a ha z hz e => by simp at hz; subst hz; subst e; exact hbk ha⟩
            · intro k hk
              rw [hkeys] at hk
              simp only [List.mem_append, List.mem_singleton] at hk
              rcases hk with hk | rfl
              · exact hi.rc k hk
              · exact hrb
            · rw [hkeys]; simp [hi.st]
            · rw [List.nodup_append]
              exact ⟨hi.qn, by simp, fun a ha z hz e => by simp at hz; subst hz; subst e; exact hbq ha⟩
            · intro k hk
              rw [hkeys]
              simp only [List.mem_append, List.mem_singleton] at hk ⊢
              rcases hk with hk | rfl
              · exact .inl (hi.qs k hk)
              · exact .inr rfl
            · intro a ha hna z hz
              rw [hkeys] at ha ⊢
              simp only [List.mem_append, List.mem_singleton] at ha ⊢
              simp only [List.mem_append, List.mem_singleton, not_or] at hna
              rcases ha with ha | rfl
              · exact .inl (hi.cl a ha hna.1 z hz)
              · exact absurd rfl hna.2
            · intro p hpm
              rw [hol]
              rw [aput_new hbk] at hpm
              simp only [List.mem_append, List.mem_singleton] at hpm
              rcases hpm with hpm | rfl
              · have := hi.ln p hpm; omega
              · simp; omega
          have hlen2 := hnew.len g hc
          refine ⟨⟨news ++ [b], by simp⟩, hnew, ?_, fun l' hl' b' hb' => ?_⟩
          · simp only [hol, List.length_append, List.length_cons, List.length_nil] at hm ⊢
            rw [hol] at hlen2
            omega
          · rw [hkeys]
            simp only [List.mem_append, List.mem_singleton] at hl' ⊢
            rcases hl' with hl' | rfl
            · exact .inl (hp l' hl' b' hb')
            · rw [hb'.1] at hb; cases hb; exact .inr rfl
      · obtain ⟨q', o'⟩ := s
        obtain ⟨⟨news, hq'⟩, hi, hm, hp⟩ := hs
        simp only at hq' hi hm hp
        subst hq'
        refine Ok.chk (inc_iff.2 ⟨by omega, by simp; omega, by omega⟩) (Ok.ret ?_)
        have e1 : ((q0 :: (rest ++ news)).drop 1).take ((q0 :: (rest ++ news)).length - 1) = rest ++ news := by
          simp only [List.drop_succ_cons, List.drop_zero, List.length_cons, Nat.add_sub_cancel]
          exact List.take_length
        rw [e1]
        have hqn := hi.qn
        rw [List.nodup_cons] at hqn
        refine ⟨⟨hi.nd, hi.rc, hi.st, hqn.2, fun k hk => hi.qs k (by simp only [List.mem_cons]; exact .inr hk), fun a ha hna b hb => ?_, hi.ln⟩, ?_⟩
        · by_cases e : a = q0
          · subst e
            obtain ⟨l, hl, hlk⟩ := l3 b hb
            exact hp l hl b hlk
          · exact hi.cl a ha (by simp only [List.mem_cons, not_or]; exact ⟨e, hna⟩) b hb
        · show 2 * (24 - o'.length) + (rest ++ news).length < 2 * (24 - o.length) + (q0 :: rest).length
          simp only [List.length_cons] at hm ⊢
          omega
    · have : q = [] := by
        have cq : ¬ 0 < (q.length : Int) := by simpa using cq
        exact List.length_eq_zero_iff.1 (by omega)
      subst this
      refine Ok.ret ⟨hs.nd, hs.len g hc, fun k => ⟨hs.rc k, fun h => ?_⟩⟩
      induction h with
      | refl => exact hs.st
      | step h hl ih => exact hs.cl _ ih (by simp) _ hl
  · refine ⟨by simp [aput], ?_, by simp [aput], by simp, by simp [aput], ?_, ?_⟩
    · intro k hk; simp [aput] at hk; subst hk; exact .refl
    · intro a ha hna; simp [aput] at ha; simp at hna; exact absurd ha hna
    · intro p hp; simp [aput] at hp; subst hp; simp [aput]
theorem reach_ok {x : GRights} (g : GoodR x) {c : Int} (hc : 0 ≤ c ∧ c ≤ x.Credentials - 1) : Ok (F_rights_Reach x c) fun r => r.Pairwise (fun a b => a < b) ∧ ∀ k, k ∈ r ↔ Rch x c k := by
  classical
  obtain ⟨o, ho, h1, h2, h3⟩ := chains_ok g hc
  refine ⟨srtI (o.map Prod.fst), ?_, ?_, fun k => by rw [(srtI_perm _).mem_iff]; exact h3 k⟩
  · have hcr : F_rights_credential x c = some true := by rw [cred_eq x c g.c0 g.c1]; exact congrArg some (decide_eq_true hc)
    simp only [F_rights_Reach, rcheck_eq, if_pos g, Option.bind_some, decide_true, Bool.not_true, cond_false, hcr, ho]
    refine permL_of fun l hl => ?_
    have hlen : l.length ≤ 24 := by rw [hl.length_eq]; exact h2
    rw [foldL_push (body := F_rights_Reach_L1) (g := Prod.fst) (b := 8) (n := 24) (by omega) (fun k x s => rfl) l 0 [] (by simpa using hlen)]
    simp only [Option.bind_some, List.nil_append, sortI]
    have : (l.map Prod.fst).length < 4611686018427387904 := by simp; omega
    rw [if_pos this]
    exact congrArg some (srtI_congr (hl.map _))
  · have hn : (srtI (o.map Prod.fst)).Nodup := (srtI_perm _).nodup_iff.2 h1
    have := (srtI_sorted (o.map Prod.fst)).and hn
    exact this.imp fun ⟨a1, a2⟩ => by omega
/-! ### closed sets and bounds -/
theorem contains_eq (s : List Int) (v : Int) : F_slices_Contains_int_int s v = some (decide (v ∈ s)) := by
  have h := contains_of (body := F_slices_Index_int_int_L1 v) (fun y => v = y) s fun k y => by
    by_cases c : v = y <;> simp [F_slices_Index_int_int_L1, c]
  have e : decide (∃ y ∈ s, v = y) = decide (v ∈ s) := decide_eq_decide.2 ⟨fun ⟨y, hy, e⟩ => e ▸ hy, fun h => ⟨v, h, rfl⟩⟩
  rw [e] at h
  exact h
theorem asc_ok {l : List Int} (h : l.Pairwise (fun a b => a < b)) (hl : l.length ≤ 1000) : F_directory_Ascending l = some true := by
  refine Ok.eq ?_
  unfold F_directory_Ascending
  refine Ok.bind (Ok.loop (Q := fun r : Sum Unit Bool => r = .inl ()) (fun i : Int => 1 ≤ i) (fun i : Int => ((l.length : Int) - i).toNat) (fun i hi => ?_) _ (Int.le_refl 1)) fun r hr => by subst hr; exact Ok.ret rfl
  unfold F_directory_Ascending_L1
  refine Ok.ite (fun c => ?_) fun c => Ok.ret rfl
  have c : i < (l.length : Int) := by simpa using c
  refine Ok.chk (in64_sm (by omega) (by omega)) (Ok.chk (inb_iff.2 ⟨by omega, by omega⟩) (Ok.chk (inb_iff.2 ⟨by omega, by omega⟩) ?_))
  have h1 : (i - 1).toNat < l.length := by omega
  have h2 : i.toNat < l.length := by omega
  have := List.pairwise_iff_getElem.1 h (i - 1).toNat i.toNat h1 h2 (by omega)
  rw [List.getD_eq_getElem?_getD, List.getD_eq_getElem?_getD, List.getElem?_eq_getElem h1, List.getElem?_eq_getElem h2, Option.getD_some, Option.getD_some]
  refine Ok.ite (fun c => by have := of_decide_eq_true c; omega) fun _ => Ok.chk (in64_sm (by omega) (by omega)) (Ok.ret ?_)
  exact ⟨by omega, by omega⟩
theorem closed_ok {x : GRights} (g : GoodR x) {r : List Int} (h0 : r ≠ []) (hp : r.Pairwise (fun a b => a < b)) (hr : ∀ k ∈ r, 0 ≤ k ∧ k ≤ x.Credentials - 1) (hc : ∀ a ∈ r, ∀ b, leads x a b → b ∈ r) : F_rights_Closed x r = some true := by
  classical
  have hl : r.length ≤ 24 := len24 (hp.imp fun h => by omega) fun a ha => by have := hr a ha; have := g.c1; omega
  have hlp : 0 < r.length := List.length_pos_iff.2 h0
  have e1 : decide ((r.length : Int) = 0) = false := decide_eq_false (by omega)
  have e2 : F_slices_ContainsFunc_int_int_of_rights_Closed_1 r x = some (decide (∃ k ∈ r, ¬ (0 ≤ k ∧ k ≤ x.Credentials - 1))) := by
    refine contains_of (fun k => ¬ (0 ≤ k ∧ k ≤ x.Credentials - 1)) r fun k a => ?_
    simp only [F_slices_IndexFunc_int_int_of_rights_Closed_1_L1, F_rights_Closed_1, cred_eq x _ g.c0 g.c1, Option.bind_some]
    by_cases c : 0 ≤ a ∧ a ≤ x.Credentials - 1 <;> simp [c]
  have e3 : decide (∃ k ∈ r, ¬ (0 ≤ k ∧ k ≤ x.Credentials - 1)) = false := decide_eq_false fun ⟨k, hk, hn⟩ => hn (hr k hk)
  rw [e3] at e2
  refine Ok.eq ?_
  unfold F_rights_Closed
  simp only [rcheck_eq, if_pos g, Option.bind_some, decide_true, Bool.not_true, Bool.false_or, e1, grp, cond_false, asc_ok hp (by omega), e2]
  refine Ok.bind (Ok.for (Q := fun o => o = .nx ()) (fun _ => True) r 0 () trivial (fun k a s ha _ => ?_) fun s _ => rfl) fun o ho => by subst ho; exact Ok.ret rfl
  unfold F_rights_Closed_L2
  refine Ok.bind (links_ok g a) fun ls hls => ?_
  refine Ok.bind (Ok.for (Q := fun o => o = .nx ()) (fun _ => True) ls 0 () trivial (fun k l s hl _ => ?_) fun s _ => rfl) fun o ho => by subst ho; exact Ok.ret trivial
  obtain ⟨b, hb, hlb⟩ := hls.2.1 l hl
  unfold F_rights_Closed_L1
  have hbm : decide (b ∈ r) = true := decide_eq_true (hc a ha b hlb)
  simp only [hb, Option.bind_some, contains_eq, hbm, Bool.not_true, cond_false]
  exact Ok.ret trivial
open Classical in
/-- the greatest right at a resource of grants of credentials -/
noncomputable def mx (p : Int → Prop) (i : Int) (gs : List GGrant) : Int := gs.foldl (fun m g => if p g.Credential ∧ g.Resource = i then max m g.Right else m) 0
open Classical in
theorem mx_snoc (p : Int → Prop) (i : Int) (gs : List GGrant) (g : GGrant) : mx p i (gs ++ [g]) = if p g.Credential ∧ g.Resource = i then max (mx p i gs) g.Right else mx p i gs := by simp [mx]
open Classical in
theorem mx_mono {p p' : Int → Prop} (hp : ∀ c, p c → p' c) (i : Int) (gs : List GGrant) : mx p i gs ≤ mx p' i gs := by
  unfold mx
  have : ∀ (l : List GGrant) (a b : Int), a ≤ b → l.foldl (fun m g => if p g.Credential ∧ g.Resource = i then max m g.Right else m) a ≤ l.foldl (fun m g => if p' g.Credential ∧ g.Resource = i then max m g.Right else m) b := by
    intro l
    induction l with
    | nil => intro a b h; exact h
    | cons g r ih =>
      intro a b h
      simp only [List.foldl_cons]
      refine ih _ _ ?_
      by_cases c : p g.Credential ∧ g.Resource = i
      · rw [if_pos c, if_pos ⟨hp _ c.1, c.2⟩]; omega
      · rw [if_neg c]
        split <;> omega
  exact this gs 0 0 (Int.le_refl 0)
theorem mx_more (p : Int → Prop) (i : Int) (gs : List GGrant) (g : GGrant) : mx p i gs ≤ mx p i (gs ++ [g]) := by
  rw [mx_snoc]; split <;> omega
open Classical in
theorem mx_range (p : Int → Prop) (i : Int) (gs : List GGrant) (h : ∀ g ∈ gs, 1 ≤ g.Right ∧ g.Right ≤ 3) : 0 ≤ mx p i gs ∧ mx p i gs ≤ 3 := by
  unfold mx
  have : ∀ (l : List GGrant) (a : Int), (∀ g ∈ l, 1 ≤ g.Right ∧ g.Right ≤ 3) → 0 ≤ a → a ≤ 3 → 0 ≤ l.foldl (fun m g => if p g.Credential ∧ g.Resource = i then max m g.Right else m) a ∧ l.foldl (fun m g => if p g.Credential ∧ g.Resource = i then max m g.Right else m) a ≤ 3 := by
    intro l
    induction l with
    | nil => intro a _ h1 h2; exact ⟨h1, h2⟩
    | cons g r ih =>
      intro a hg h1 h2
      have := hg g (by simp)
      simp only [List.foldl_cons]
      refine ih _ (fun g hg' => hg g (by simp [hg'])) ?_ ?_ <;> split <;> omega
  exact this gs 0 h (by omega) (by omega)
theorem bound_ok {x : GRights} (g : GoodR x) {r : List Int} (hr : F_rights_Closed x r = some true) : Ok (F_rights_Bound x r) fun b => (b.length : Int) = x.Resources ∧ ∀ i : Nat, i < b.length → b.getD i default = mx (· ∈ r) i x.Grants := by
  classical
  have h0 := g.r0; have h1 := g.r1
  unfold F_rights_Bound
  rw [hr]
  simp only [Option.bind_some, Bool.not_true, cond_false]
  refine Ok.chk (roomI_iff.2 ⟨h0, Int.le_refl _, by omega⟩) (Ok.bind (Ok.foldI (all := x.Grants) (Q := fun b : List Int => (b.length : Int) = x.Resources ∧ ∀ i : Nat, i < b.length → b.getD i default = mx (· ∈ r) i x.Grants)
    (fun pre b => (b.length : Int) = x.Resources ∧ ∀ i : Nat, i < b.length → b.getD i default = mx (· ∈ r) i pre) x.Grants [] 0 _ rfl rfl ⟨by simp; omega, fun i hi => ?_⟩ (fun pre y q s hw hs => ?_) fun s hs => hs) fun b hb => Ok.ret hb)
  · simp only [List.length_replicate] at hi
    simp [mx, hi]
  · obtain ⟨s1, s2⟩ := hs
    have hy := g.gr y (by rw [hw]; simp)
    unfold F_rights_Bound_L1
    rw [contains_eq]
    refine Ok.bind (P := fun b => b = decide (y.Credential ∈ r)) ⟨_, rfl, rfl⟩ fun b hb => ?_
    subst hb
    refine Ok.ite (fun c => ?_) fun c => Ok.ret ⟨s1, fun i hi => ?_⟩
    · have c : y.Credential ∈ r := of_decide_eq_true c
      have hb := hy.2.1
      have i0 : inb y.Resource s.length = true := inb_iff.2 ⟨hb.1, by omega⟩
      refine Ok.chk i0 (Ok.chk i0 (Ok.ret ⟨by simpa using s1, fun i hi => ?_⟩))
      simp only [List.length_set] at hi
      rw [mx_snoc, List.getD_eq_getElem?_getD, List.getElem?_set]
      by_cases e : y.Resource.toNat = i
      · have e2 : y.Resource = (i : Int) := by omega
        rw [if_pos e, if_pos (by omega), Option.getD_some, if_pos ⟨c, e2⟩, e, s2 i hi]
      · have e2 : ¬ y.Resource = (i : Int) := by omega
        rw [if_neg e, if_neg (fun h => e2 h.2), ← List.getD_eq_getElem?_getD, s2 i hi]
    · have c : ¬ y.Credential ∈ r := of_decide_eq_false c
      rw [mx_snoc, if_neg (fun h => c h.1)]
      exact s2 i hi
theorem mx_congr {p p' : Int → Prop} (h : ∀ c, p c ↔ p' c) (i : Int) (gs : List GGrant) : mx p i gs = mx p' i gs := by
  have : p = p' := funext fun c => propext (h c)
  rw [this]
theorem power_ok {x : GRights} (g : GoodR x) {c : Int} (hc : 0 ≤ c ∧ c ≤ x.Credentials - 1) : Ok (F_rights_Power x c) fun p => (p.length : Int) = x.Resources ∧ ∀ i : Nat, i < p.length → p.getD i default = mx (Rch x c) i x.Grants := by
  unfold F_rights_Power
  refine Ok.bind (reach_ok g hc) fun r hr => ?_
  obtain ⟨h1, h2⟩ := hr
  have h0 : r ≠ [] := fun e => by
    have := (h2 c).2 .refl
    rw [e] at this; cases this
  refine Ok.bind (bound_ok g (closed_ok g h0 h1 (fun k hk => rch_range g hc ((h2 k).1 hk)) fun a ha b hb => (h2 b).2 (.step ((h2 a).1 ha) hb))) fun b hb => Ok.ret ⟨hb.1, fun i hi => ?_⟩
  rw [hb.2 i hi]
  exact mx_congr h2 i x.Grants
/-! ### worths -/
noncomputable def sumW (w : List Int) (x : GRights) (c : Int) : Nat → Int
  | 0 => 0
  | n + 1 => sumW w x c n + w.getD n default * mx (Rch x c) n x.Grants
def wOK (w : List Int) : Prop := ∀ a ∈ w, 0 ≤ a ∧ a ≤ 100
theorem wget {w : List Int} (h : wOK w) {n : Nat} (hn : n < w.length) : 0 ≤ w.getD n default ∧ w.getD n default ≤ 100 := by
  rw [List.getD_eq_getElem?_getD, List.getElem?_eq_getElem hn]
  exact h _ (List.getElem_mem hn)
theorem sumW_range {w : List Int} {x : GRights} (g : GoodR x) (hw : wOK w) (c : Int) : ∀ n, n ≤ w.length → 0 ≤ sumW w x c n ∧ sumW w x c n ≤ 300 * n
  | 0, _ => ⟨Int.le_refl 0, Int.le_refl 0⟩
  | n + 1, h => by
    have ih := sumW_range g hw c n (by omega)
    have h1 := wget hw (n := n) (by omega)
    have h2 := mx_range (Rch x c) n x.Grants fun y hy => (g.gr y hy).2.2
    have h3 := Int.mul_nonneg h1.1 h2.1
    have h4 := Int.mul_le_mul h1.2 h2.2 h2.1 (by omega)
    simp only [sumW]
    omega
theorem worth_ok {x : GRights} (g : GoodR x) {w : List Int} (hw : wOK w) (hl : (w.length : Int) = x.Resources) {c : Int} (hc : 0 ≤ c ∧ c ≤ x.Credentials - 1) : Ok (F_severity_Worth x w c) fun y => y = (sumW w x c w.length, 0) := by
  classical
  have h1 := g.r1
  have e1 : F_slices_ContainsFunc_int_int_of_severity_Worth_1 w = some (decide (∃ a ∈ w, ¬ (0 ≤ a ∧ a ≤ 100))) := by
    refine contains_of (fun a => ¬ (0 ≤ a ∧ a ≤ 100)) w fun k a => ?_
    simp only [F_slices_IndexFunc_int_int_of_severity_Worth_1_L1, F_severity_Worth_1, grp, Option.bind_some]
    by_cases q : 0 ≤ a ∧ a ≤ 100
    · have : (decide (a < 0) || decide (100 < a)) = false := by simp only [Bool.or_eq_false_iff, decide_eq_false_iff_not]; omega
      simp [this, q]
    · have : (decide (a < 0) || decide (100 < a)) = true := by simp only [Bool.or_eq_true, decide_eq_true_eq]; omega
      simp only [this, cond_true, q, not_false_eq_true, if_true]
  have e2 : decide (∃ a ∈ w, ¬ (0 ≤ a ∧ a ≤ 100)) = false := decide_eq_false fun ⟨a, ha, hn⟩ => hn (hw a ha)
  rw [e2] at e1
  have e3 : (decide (c < 0) || decide (x.Credentials ≤ c)) = false := by simp only [Bool.or_eq_false_iff, decide_eq_false_iff_not]; omega
  unfold F_severity_Worth
  simp only [rcheck_eq, if_pos g, Option.bind_some, decide_true, Bool.not_true, cond_false, hl, e1, e3, grp]
  refine Ok.bind (power_ok g hc) fun p hp => ?_
  have hpl : p.length = w.length := by have := hp.1; omega
  refine Ok.bind (Ok.foldI (all := p) (Q := fun s => s = sumW w x c w.length) (fun pre s => s = sumW w x c pre.length) p [] 0 0 rfl rfl rfl (fun pre y q s hwh hs => ?_) fun s hs => by rw [hs, hpl]) fun s hs => Ok.ret (by rw [hs])
  have hlen : pre.length < p.length := by have := congrArg List.length hwh; simp at this; omega
  have hy : p.getD pre.length default = y := by rw [hwh]; simp
  rw [hp.2 _ hlen] at hy
  subst hs
  have r1 := sumW_range g hw c pre.length (by omega)
  have r2 := sumW_range g hw c (pre.length + 1) (by omega)
  simp only [sumW, hy] at r2
  have e4 : sumW w x c (pre ++ [y]).length = sumW w x c pre.length + w.getD pre.length default * y := by simp only [List.length_append, List.length_singleton, sumW, hy]
  unfold F_severity_Worth_L1
  simp only [Int.toNat_natCast]
  refine Ok.chk (inb_iff.2 ⟨by omega, by omega⟩) (Ok.chk (in64_sm (by omega) (by omega)) (Ok.chk (in64_sm (by omega) (by omega)) (Ok.ret e4.symm)))
def aud (n : Int) (pub : Bool) : Int := bif pub then 100 else 1 + n
theorem rate_ok {x : GRights} (g : GoodR x) {w : List Int} (hw : wOK w) (hl : (w.length : Int) = x.Resources) {c : Int} (hc : 0 ≤ c ∧ c ≤ x.Credentials - 1) {n : Int} (hn : 0 ≤ n ∧ n ≤ 24) (pub : Bool) :
    F_severity_Rate x w c n pub = some (GSeverity.mk (lvl (sumW w x c w.length * aud n pub)) (sumW w x c w.length) (aud n pub) (sumW w x c w.length * aud n pub), 0) := by
  have h1 := g.r1
  have r := sumW_range g hw c w.length (Nat.le_refl _)
  have ha : 1 ≤ aud n pub ∧ aud n pub ≤ 100 := by unfold aud; cases pub <;> simp <;> omega
  have hp : 0 ≤ sumW w x c w.length * aud n pub ∧ sumW w x c w.length * aud n pub ≤ 720000 := by
    refine ⟨Int.mul_nonneg r.1 (by omega), ?_⟩
    have := Int.mul_le_mul (show sumW w x c w.length ≤ 7200 by omega) ha.2 (by omega) (by omega)
    omega
  obtain ⟨y, hy, rfl⟩ := worth_ok g hw hl hc
  have e3 : (decide (n < 0) || decide (24 < n)) = false := by simp only [Bool.or_eq_false_iff, decide_eq_false_iff_not]; omega
  have i1 : in64 (1 + n) = true := in64_sm (by omega) (by omega)
  have i2 : in64 (sumW w x c w.length * aud n pub) = true := in64_sm (by omega) (by omega)
  unfold F_severity_Rate
  rw [hy]
  simp only [Option.bind_some, decide_true, Bool.not_true, cond_false, e3, grp, chk_true i1, jn]
  cases pub with
  | true =>
    simp only [aud, cond_true] at i2 ⊢
    simp only [Option.bind_some, chk_true i2, level_eq]
  | false =>
    simp only [aud, cond_false] at i2 ⊢
    simp only [Option.bind_some, chk_true i2, level_eq]
end Go.Ab
