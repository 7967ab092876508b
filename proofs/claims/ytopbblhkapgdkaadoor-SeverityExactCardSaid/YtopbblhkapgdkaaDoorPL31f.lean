/- A score is the product of its parts; what is reached is worth no more. -/
import Derived.Test.YtopbblhkapgdkaaDoorPL31e
set_option linter.all false
set_option linter.all false
namespace Go.Ab
open Go.Proofs

theorem Rch.trans {x : GRights} {a b c : Int} (h : Rch x a b) (k : Rch x b c) : Rch x a c := by
  induction k with
  | refl => exact h
  | step _ hl ih => exact .step ih hl
theorem sumW_rch {w : List Int} {x : GRights} (g : GoodR x) (hw : wOK w) {c q : Int} (h : Rch x c q) : ∀ n, n ≤ w.length → sumW w x q n ≤ sumW w x c n
  | 0, _ => Int.le_refl 0
  | n + 1, hn => by
    have ih := sumW_rch g hw h n (by omega)
    have a1 := wget hw (n := n) (by omega)
    have a2 := mx_range (Rch x q) n x.Grants fun y hy => (g.gr y hy).2.2
    have a3 := Int.mul_le_mul (Int.le_refl (w.getD n default)) (show mx (Rch x q) n x.Grants ≤ mx (Rch x c) n x.Grants from mx_mono (fun k hk => h.trans hk) n x.Grants) a2.1 a1.1
    simp only [sumW]
    omega
theorem parts_law (l : List Int) : F_law31_SeverityParts l = some true := by
  refine Ok.eq ?_
  unfold F_law31_SeverityParts
  refine Ok.ite (fun _ => awake_ok) fun c => ?_
  have hl : l.length ≤ 300 := by have := of_decide_eq_false c; omega
  refine Ok.bind (rights_ok (t := ⟨l, 0⟩) ⟨Int.le_refl 0, hl⟩) fun x hx => ?_
  obtain ⟨g, c1, c2, r1, r2, gl, hT⟩ := hx
  refine Ok.bind (worths_ok hT (by omega) (by omega)) fun w hw => ?_
  obtain ⟨w1, w2, w3⟩ := hw
  refine Ok.bind (Ok.loop (Q := fun r => r = .inl ()) (fun s => 0 ≤ s.1 ∧ TOK s.2) (fun s => (x.1.Credentials - s.1).toNat) (fun s hs => ?_) _ ⟨Int.le_refl 0, w3⟩) fun r hr => by subst hr; exact awake_ok
  obtain ⟨c, t⟩ := s
  obtain ⟨hc0, ht⟩ := hs
  simp only at hc0 ht
  unfold F_law31_SeverityParts_L2
  refine Ok.ite (fun cc => ?_) fun cc => Ok.ret rfl
  have cc : c < x.1.Credentials := by simpa using cc
  have hcr : 0 ≤ c ∧ c ≤ x.1.Credentials - 1 := by omega
  refine Ok.bind (next_ok ht (by omega)) fun n hn => Ok.bind (next_ok hn.2.2 (by omega)) fun p hp => ?_
  obtain ⟨n1, n2, _⟩ := hn
  obtain ⟨p1, p2, p3⟩ := hp
  rw [rate_ok g w2 w1 hcr (by omega) _]
  have hr := sumW_range g w2 c w.1.length (Nat.le_refl _)
  have ha : 1 ≤ aud n.1 (decide (p.1 = 1)) ∧ aud n.1 (decide (p.1 = 1)) ≤ 100 := by unfold aud; cases decide (p.1 = 1) <;> simp <;> omega
  have hp : 0 ≤ sumW w.1 x.1 c w.1.length * aud n.1 (decide (p.1 = 1)) ∧ sumW w.1 x.1 c w.1.length * aud n.1 (decide (p.1 = 1)) ≤ 720000 := by
    refine ⟨Int.mul_nonneg hr.1 (by omega), ?_⟩
    have := Int.mul_le_mul (show sumW w.1 x.1 c w.1.length ≤ 7200 by omega) ha.2 (by omega) (by omega)
    omega
  simp only [Option.bind_some, decide_true, Bool.not_true, cond_false]
  refine Ok.jn (P := fun j => ∃ z, j = .nx z) ?_ fun j hj => ?_
  · refine Ok.chk (in64_sm (by omega) (by omega)) ?_
    rw [level_eq]
    simp only [Option.bind_some, decide_true, Bool.not_true, cond_false]
    by_cases e : p.1 = 1
    · simp only [decide_eq_true e, aud, cond_true, decide_true, BEq.rfl, Bool.not_true, cond_false]
      exact Ok.ret ⟨_, rfl⟩
    · have : decide (1 + n.1 = 100) = false := decide_eq_false (by omega)
      have e2 : decide (1 + n.1 = n.1 + 1) = true := decide_eq_true (by omega)
      simp only [decide_eq_false e, aud, cond_false, this, BEq.rfl, Bool.not_true, Bool.not_false, cond_true, e2]
      exact Ok.chk (in64_sm (by omega) (by omega)) (Ok.ret ⟨_, rfl⟩)
  · obtain ⟨z, rfl⟩ := hj
    simp only [Fl_nx]
    refine Ok.bind (rreach_ok g hcr) fun r hr2 => ?_
    refine Ok.bind (Ok.for (Q := fun o => o = .nx ()) (fun _ => True) r 0 () trivial (fun k q s hq _ => ?_) fun s _ => rfl) fun o ho => by
      subst ho
      exact Ok.chk (in64_sm (by omega) (by omega)) (Ok.ret ⟨⟨by show 0 ≤ c + 1; omega, p3⟩, by show (x.1.Credentials - (c + 1)).toNat < (x.1.Credentials - c).toNat; omega⟩)
    have hq := (hr2.2 q).1 hq
    unfold F_law31_SeverityParts_L1
    obtain ⟨y, hy, rfl⟩ := worth_ok g w2 w1 (rch_range g hcr hq)
    rw [hy]
    have h1 := sumW_rch g w2 hq w.1.length (Nat.le_refl _)
    have e1 : decide (sumW w.1 x.1 c w.1.length < sumW w.1 x.1 q w.1.length) = false := decide_eq_false (by omega)
    simp only [Option.bind_some, decide_true, Bool.not_true, Bool.false_or, e1, grp, cond_false]
    exact Ok.ret trivial
end Go.Ab
