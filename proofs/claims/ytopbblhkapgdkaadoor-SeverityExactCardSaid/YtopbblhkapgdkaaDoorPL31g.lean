/- All functions of severity for any arguments. -/
import Derived.Test.YtopbblhkapgdkaaDoorPL31f
import Derived.Test.YtopbblhkapgdkaaDoorL31E
set_option linter.all false
set_option linter.all false
namespace Go.Ab
open Go.Proofs

theorem rhas_eq (l : List Int) (x : Int) : F_ref23_Has l x = some (decide (x ∈ l)) := by
  classical
  unfold F_ref23_Has
  rw [forL_fc true (fun a => a = x) l 0 fun k a _ => by
    simp only [F_ref23_Has_L1]
    by_cases c : a = x <;> simp [c]]
  by_cases c : x ∈ l
  · have : ∃ a ∈ l, a = x := ⟨x, c, rfl⟩
    simp only [if_pos this, Option.bind_some, Fl_ex, decide_eq_true c]
  · have : ¬ ∃ a ∈ l, a = x := fun ⟨a, h, e⟩ => c (e ▸ h)
    simp only [if_neg this, Option.bind_some, Fl_nx, decide_eq_false c]
theorem rbound_ok {x : GRights} (g : GoodR x) (r : List Int) : Ok (F_ref25_bound x r) fun b => (b.length : Int) = x.Resources ∧ ∀ i : Nat, i < b.length → b.getD i default = mx (· ∈ r) i x.Grants := by
  classical
  have h0 := g.r0; have h1 := g.r1
  unfold F_ref25_bound
  refine Ok.chk (roomI_iff.2 ⟨h0, Int.le_refl _, by omega⟩) (Ok.bind (Ok.foldI (all := x.Grants) (Q := fun b : List Int => (b.length : Int) = x.Resources ∧ ∀ i : Nat, i < b.length → b.getD i default = mx (· ∈ r) i x.Grants)
    (fun pre b => (b.length : Int) = x.Resources ∧ ∀ i : Nat, i < b.length → b.getD i default = mx (· ∈ r) i pre) x.Grants [] 0 _ rfl rfl ⟨by simp; omega, fun i hi => ?_⟩ (fun pre y q s hw hs => ?_) fun s hs => hs) fun b hb => Ok.ret hb)
  · simp only [List.length_replicate] at hi
    simp [mx, hi]
  · obtain ⟨s1, s2⟩ := hs
    have hy := g.gr y (by rw [hw]; simp)
    unfold F_ref25_bound_L1
    rw [rhas_eq]
    refine Ok.bind (P := fun b => b = decide (y.Credential ∈ r)) ⟨_, rfl, rfl⟩ fun b hb => ?_
    subst hb
    refine Ok.ite (fun c => ?_) fun c => Ok.ret ⟨s1, fun i hi => ?_⟩
    · have c : y.Credential ∈ r := of_decide_eq_true c
      have hb := hy.2.1
      have i0 : inb y.Resource s.length = true := inb_iff.2 ⟨hb.1, by omega⟩
      refine Ok.chk i0 (Ok.chk i0 (Ok.ret ⟨by simpa using s1, fun i hi => ?_⟩))
      simp only [List.length_set] at hi
      rw [mx_snoc, List.getD_eq_getElem?_getD, List.getElem?_set]
      by_cases e : y.Resource.toNat = i
      · have e2 : y.Resource = (i : Int) := by omega
        rw [if_pos e, if_pos (by omega), Option.getD_some, if_pos ⟨c, e2⟩, e, s2 i hi]
      · have e2 : ¬ y.Resource = (i : Int) := by omega
        rw [if_neg e, if_neg (fun h => e2 h.2), ← List.getD_eq_getElem?_getD, s2 i hi]
    · have c : ¬ y.Credential ∈ r := of_decide_eq_false c
      rw [mx_snoc, if_neg (fun h => c h.1)]
      exact s2 i hi
theorem rpower_ok {x : GRights} (g : GoodR x) {c : Int} (hc : 0 ≤ c ∧ c ≤ x.Credentials - 1) : Ok (F_ref25_Power x c) fun p => (p.length : Int) = x.Resources ∧ ∀ i : Nat, i < p.length → p.getD i default = mx (Rch x c) i x.Grants := by
  classical
  have h0 := g.c0; have h1 := g.c1
  have i1 : in64 (x.Credentials - 1) = true := in64_sm (by omega) (by omega)
  unfold F_ref25_Power
  simp only [rvalid_eq, decide_eq_true g, Option.bind_some, Bool.not_true, cond_false, chk_true i1, rin_eq, decide_eq_true hc]
  refine Ok.bind (rreach_ok g hc) fun r hr => Ok.bind (rbound_ok g r) fun b hb => Ok.ret ⟨hb.1, fun i hi => ?_⟩
  rw [hb.2 i hi]
  exact mx_congr hr.2 i x.Grants
theorem power_same {x : GRights} (g : GoodR x) {c : Int} (hc : 0 ≤ c ∧ c ≤ x.Credentials - 1) : F_ref25_Power x c = F_rights_Power x c := by
  obtain ⟨p, e1, h1, h2⟩ := rpower_ok g hc
  obtain ⟨q, e2, k1, k2⟩ := power_ok g hc
  rw [e1, e2]
  congr 1
  refine List.ext_getElem (by omega) fun i hi hj => ?_
  have a := h2 i hi
  have b := k2 i hj
  rw [List.getD_eq_getElem?_getD, List.getElem?_eq_getElem hi, Option.getD_some] at a
  rw [List.getD_eq_getElem?_getD, List.getElem?_eq_getElem hj, Option.getD_some] at b
  rw [a, b]
open Classical in
theorem wcont_eq (w : List Int) : F_slices_ContainsFunc_int_int_of_severity_Worth_1 w = some (decide (∃ a ∈ w, ¬ (0 ≤ a ∧ a ≤ 100))) := by
  refine contains_of (fun a => ¬ (0 ≤ a ∧ a ≤ 100)) w fun k a => ?_
  simp only [F_slices_IndexFunc_int_int_of_severity_Worth_1_L1, F_severity_Worth_1, grp, Option.bind_some]
  by_cases q : 0 ≤ a ∧ a ≤ 100
  · have : (decide (a < 0) || decide (100 < a)) = false := by simp only [Bool.or_eq_false_iff, decide_eq_false_iff_not]; omega
    simp [this, q]
  · have : (decide (a < 0) || decide (100 < a)) = true := by simp only [Bool.or_eq_true, decide_eq_true_eq]; omega
    simp only [this, cond_true, q, not_false_eq_true, if_true]
open Classical in
theorem rworths_eq (x : GRights) (w : List Int) : F_ref31_Worths x w = some (decide ((w.length : Int) = x.Resources) && !decide (∃ a ∈ w, ¬ (0 ≤ a ∧ a ≤ 100))) := by
  unfold F_ref31_Worths
  by_cases hl : (w.length : Int) = x.Resources
  · simp only [decide_eq_true hl, Bool.not_true, cond_false, Bool.true_and]
    rw [forL_fc false (fun a : Int => ¬ (0 ≤ a ∧ a ≤ 100)) w 0 fun k a _ => by
      simp only [F_ref31_Worths_L1, grp]
      by_cases q : 0 ≤ a ∧ a ≤ 100
      · have : (decide (a < 0) || decide (100 < a)) = false := by simp only [Bool.or_eq_false_iff, decide_eq_false_iff_not]; omega
        simp [this, q]
      · have : (decide (a < 0) || decide (100 < a)) = true := by simp only [Bool.or_eq_true, decide_eq_true_eq]; omega
        simp only [this, cond_true, q, not_false_eq_true, if_true]]
    by_cases c : ∃ a ∈ w, ¬ (0 ≤ a ∧ a ≤ 100)
    · simp only [if_pos c, Option.bind_some, Fl_ex, decide_eq_true c, Bool.not_true]
    · simp only [if_neg c, Option.bind_some, Fl_nx, decide_eq_false c, Bool.not_false]
  · simp only [decide_eq_false hl, Bool.not_false, cond_true, Bool.false_and]
theorem rworth_eq (x : GRights) (w : List Int) (c : Int) : F_ref31_Worth x w c = F_severity_Worth x w c := by
  classical
  simp only [F_ref31_Worth, F_severity_Worth, rvalid_eq, rcheck_eq, Option.bind_some, rworths_eq, wcont_eq, grp]
  by_cases g : GoodR x
  · simp only [decide_eq_true g, if_pos g, Bool.not_true, cond_false, decide_true]
    by_cases hl : (w.length : Int) = x.Resources
    · simp only [decide_eq_true hl, Bool.true_and, Bool.not_not, Bool.not_true, cond_false]
      by_cases q : ∃ a ∈ w, ¬ (0 ≤ a ∧ a ≤ 100)
      · simp only [decide_eq_true q, cond_true]
      · simp only [decide_eq_false q, cond_false]
        by_cases hc : 0 ≤ c ∧ c ≤ x.Credentials - 1
        · rw [power_same g hc]
          rfl
        · have : (decide (c < 0) || decide (x.Credentials ≤ c)) = true := by simp only [Bool.or_eq_true, decide_eq_true_eq]; omega
          simp only [this, cond_true]
    · simp only [decide_eq_false hl, Bool.false_and, Bool.not_false, cond_true]
  · have : ¬ ((32 : Int) = 0) := by omega
    simp only [decide_eq_false g, if_neg g, decide_eq_false this, Bool.not_false, cond_true]
theorem rrate_eq (x : GRights) (w : List Int) (c n : Int) (p : Bool) : F_ref31_Rate x w c n p = F_severity_Rate x w c n p := by
  simp only [F_ref31_Rate, F_severity_Rate, rworth_eq]
  rfl
theorem worth_tot (x : GRights) (w : List Int) (c : Int) : ∃ y, F_severity_Worth x w c = some y ∧ (y.2 ≠ 0 ∨ GoodR x ∧ wOK w ∧ (w.length : Int) = x.Resources ∧ 0 ≤ c ∧ c ≤ x.Credentials - 1) := by
  classical
  by_cases g : GoodR x
  · by_cases hl : (w.length : Int) = x.Resources
    · by_cases q : ∃ a ∈ w, ¬ (0 ≤ a ∧ a ≤ 100)
      · refine ⟨(0, 2), ?_, .inl (by decide)⟩
        simp only [F_severity_Worth, rcheck_eq, Option.bind_some, wcont_eq, if_pos g, decide_true, Bool.not_true, cond_false, decide_eq_true hl, decide_eq_true q, cond_true]
      · by_cases hc : 0 ≤ c ∧ c ≤ x.Credentials - 1
        · have hw : wOK w := fun a ha => Classical.byContradiction fun h => q ⟨a, ha, h⟩
          obtain ⟨y, hy, _⟩ := worth_ok g hw hl hc
          exact ⟨y, hy, .inr ⟨g, hw, hl, hc⟩⟩
        · have : (decide (c < 0) || decide (x.Credentials ≤ c)) = true := by simp only [Bool.or_eq_true, decide_eq_true_eq]; omega
          refine ⟨(0, 6), ?_, .inl (by decide)⟩
          simp only [F_severity_Worth, rcheck_eq, Option.bind_some, wcont_eq, if_pos g, decide_true, Bool.not_true, cond_false, decide_eq_true hl, decide_eq_false q, this, grp, cond_true]
    · refine ⟨(0, 2), ?_, .inl (by decide)⟩
      simp only [F_severity_Worth, rcheck_eq, Option.bind_some, if_pos g, decide_true, Bool.not_true, cond_false, decide_eq_false hl, Bool.not_false, cond_true]
  · have : ¬ ((32 : Int) = 0) := by omega
    refine ⟨(0, 32), ?_, .inl (by decide)⟩
    simp only [F_severity_Worth, rcheck_eq, Option.bind_some, if_neg g, decide_eq_false this, Bool.not_false, cond_true]
theorem rate_tot (x : GRights) (w : List Int) (c n : Int) (p : Bool) : ∃ y, F_severity_Rate x w c n p = some y := by
  obtain ⟨y, hy, h⟩ := worth_tot x w c
  rcases h with h | ⟨g, hw, hl, hc⟩
  · unfold F_severity_Rate
    rw [hy]
    simp only [Option.bind_some, decide_eq_false h, Bool.not_false, cond_true]
    exact ⟨_, rfl⟩
  · by_cases hn : 0 ≤ n ∧ n ≤ 24
    · exact ⟨_, rate_ok g hw hl hc hn p⟩
    · obtain ⟨z, hz, rfl⟩ := worth_ok g hw hl hc
      have : (decide (n < 0) || decide (24 < n)) = true := by simp only [Bool.or_eq_true, decide_eq_true_eq]; omega
      unfold F_severity_Rate
      rw [hz]
      simp only [Option.bind_some, decide_true, Bool.not_true, cond_false, grp, this, cond_true]
      exact ⟨_, rfl⟩
theorem bent_ok {t : GTape} (h : TOK t) {x : GRights} (g : GoodR x) : Ok (F_made_BentRights t x) fun y => TOK y.2 := by
  have h1 := g.gl; have h2 := g.sl; have h3 := g.ml
  unfold F_made_BentRights
  refine Ok.bind (next_ok h (by omega)) fun k hk => ?_
  obtain ⟨_, _, hT⟩ := hk
  refine Ok.ite (fun _ => ?_) fun _ => Ok.ite (fun _ => ?_) fun _ => Ok.ite (fun _ => ?_) fun _ => Ok.ite (fun _ => ?_) fun _ => ?_
  · refine Ok.chk (room_sm (by omega)) (Ok.bind (between_ok hT (by omega) (by omega) (by omega)) fun a ha => Ok.bind (between_ok ha.2.2 (by omega) (by omega) (by omega)) fun b hb => Ok.bind (next_ok hb.2.2 (by omega)) fun c hc => Ok.chk (room_sm (by simp only [List.length_singleton]; omega)) (Ok.ret hc.2.2))
  · refine Ok.chk (room_sm (by omega)) (Ok.bind (between_ok hT (by omega) (by omega) (by omega)) fun a ha => Ok.bind (between_ok ha.2.2 (by omega) (by omega) (by omega)) fun b hb => Ok.chk (room_sm (by simp only [List.length_singleton]; omega)) (Ok.ret hb.2.2))
  · refine Ok.chk (room_sm (by omega)) (Ok.bind (between_ok hT (by omega) (by omega) (by omega)) fun a ha => Ok.bind (between_ok ha.2.2 (by omega) (by omega) (by omega)) fun b hb => Ok.chk (room_sm (by simp only [List.length_singleton]; omega)) (Ok.ret hb.2.2))
  · exact Ok.bind (pick_ok hT (by simp)) fun a ha => Ok.ret ha.2
  · exact Ok.bind (pick_ok hT (by simp)) fun a ha => Ok.ret ha.2
theorem exact_law (l : List Int) (raw : GRights) (ws : List Int) (c n s : Int) (all : List GSeverity) : F_law31_SeverityExact l raw ws c n s all = some true := by
  refine Ok.eq ?_
  unfold F_law31_SeverityExact
  refine Ok.jn (P := fun o => o = .ex true ∨ o = .nx () ∧ l.length ≤ 300 ∧ all.length ≤ 20) ?_ fun o ho => ?_
  · refine Ok.ite (fun _ => ?_) fun cl => ?_
    · simp only [grp, Bool.true_or, cond_true, awake_eq, Option.bind_some]
      exact Ok.ret (.inl rfl)
    · simp only [grp]
      refine Ok.ite (fun _ => ?_) fun cc => ?_
      · rw [awake_eq]; exact Ok.ret (.inl rfl)
      · have h1 := of_decide_eq_false cl
        rw [Bool.or_eq_false_iff] at cc
        have h2 := of_decide_eq_false cc.2
        exact Ok.ret (.inr ⟨rfl, by omega, by omega⟩)
  rcases ho with rfl | ⟨rfl, hl, ha⟩
  · exact Ok.ret rfl
  simp only [Fl_nx]
  refine Ok.bind (rights_ok (t := ⟨l, 0⟩) ⟨Int.le_refl 0, hl⟩) fun x hx => ?_
  obtain ⟨g, c1, c2, r1, r2, gl, hT⟩ := hx
  refine Ok.bind (worths_ok hT (by omega) (by omega)) fun w hw => ?_
  obtain ⟨w1, w2, w3⟩ := hw
  refine Ok.bind (next_ok w3 (by omega)) fun k1 hk1 => Ok.bind (next_ok hk1.2.2 (by omega)) fun k2 hk2 => Ok.chk (in64_sm (by omega) (by omega)) (Ok.bind (next_ok hk2.2.2 (by omega)) fun k3 hk3 => Ok.chk (in64_sm (by omega) (by omega)) (Ok.bind (next_ok hk3.2.2 (by omega)) fun k4 hk4 => Ok.chk (in64_sm (by omega) (by omega)) ?_))
  refine Ok.bind (Ok.for (Q := fun o => o = .nx ()) (fun _ => True) _ 0 () trivial (fun k a u hm _ => ?_) fun u _ => rfl) fun o ho => ?_
  · unfold F_law31_SeverityExact_L1
    rw [show F_ref31_Level a = F_severity_Level a from rfl, level_eq]
    simp only [Option.bind_some, decide_true, Bool.not_true, cond_false]
    exact Ok.ret trivial
  subst ho
  simp only [Fl_nx]
  refine Ok.bind (bent_ok hk4.2.2 g) fun y hy => ?_
  refine Ok.bind (Ok.for (Q := fun o => ∃ t, o = .nx t) TOK _ 0 _ hy (fun k a t hm ht => ?_) fun t _ => ⟨t, rfl⟩) fun o ho => ?_
  · unfold F_law31_SeverityExact_L5
    refine Ok.bind (Ok.for (Q := fun o => ∃ t, o = .nx t ∧ TOK t) TOK _ 0 t ht (fun k b t hm ht => ?_) fun t ht => ⟨t, rfl, ht⟩) fun o ho => by
      obtain ⟨t, rfl, ht⟩ := ho
      exact Ok.ret ht
    unfold F_law31_SeverityExact_L4
    refine Ok.bind (next_ok ht (by omega)) fun q hq => Ok.bind (between_ok hq.2.2 (by omega) (by omega) (by omega)) fun u hu => ?_
    refine Ok.bind (Ok.for (Q := fun o => o = .nx ()) (fun _ => True) _ 0 () trivial (fun k e v hm _ => ?_) fun v _ => rfl) fun o ho => by
      subst ho
      exact Ok.ret hu.2.2
    unfold F_law31_SeverityExact_L3
    rw [rworth_eq]
    obtain ⟨z, hz, _⟩ := worth_tot a b e.e0
    rw [hz]
    simp only [Option.bind_some, decide_true, Bool.not_true, Bool.or_self, grp, cond_false]
    refine Ok.bind (Ok.loop (Q := fun r => r = .inl ()) (fun i : Int => 0 ≤ i) (fun i : Int => (2 - i).toNat) (fun i hi => ?_) _ (Int.le_refl 0)) fun r hr => by subst hr; exact Ok.ret trivial
    unfold F_law31_SeverityExact_L2
    refine Ok.ite (fun ci => ?_) fun _ => Ok.ret rfl
    have ci : i < 2 := by simpa using ci
    rw [rrate_eq]
    obtain ⟨p, hp⟩ := rate_tot a b e.e0 e.e1 (decide (i = 1))
    rw [hp]
    simp only [Option.bind_some, decide_true, Bool.and_self, Bool.not_true, Bool.or_self, grp, cond_false]
    exact Ok.chk (in64_sm (by omega) (by omega)) (Ok.ret ⟨by show 0 ≤ i + 1; omega, by show (2 - (i + 1)).toNat < (2 - i).toNat; omega⟩)
  · obtain ⟨t, rfl⟩ := ho
    simp only [Fl_nx]
    rw [show F_ref31_Worst all = F_severity_Worst all from rfl]
    obtain ⟨r, hr, _⟩ := worst_ok all (by omega)
    rw [hr]
    simp only [Option.bind_some, decide_true, BEq.rfl, Bool.and_self, grp, cond_true, awake_eq, jn]
    exact Ok.ret rfl
end Go.Ab
