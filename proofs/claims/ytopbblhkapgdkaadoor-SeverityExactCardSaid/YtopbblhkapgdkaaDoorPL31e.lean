/- The reference's reach: what is reached. -/
import Derived.Test.YtopbblhkapgdkaaDoorPL31d
import Derived.Test.YtopbblhkapgdkaaDoorRCB31
import Derived.Test.YtopbblhkapgdkaaDoorL31D
set_option linter.all false
set_option linter.all false
namespace Go.Ab
open Go.Proofs

/-! ### the table's search -/
section search
variable {L : Nat → Nat → Bool} {n : Nat}
theorem stp_mono {a b : Nat} {f : Nat → Bool} {i : Nat} (h : f i = true) : stp L a b f i = true := by
  simp only [stp]; split
  · subst_vars; simp [h]
  · exact h
theorem inn_mono {a : Nat} {f : Nat → Bool} {i : Nat} (h : f i = true) : ∀ b, inn L a f b i = true
  | 0 => h
  | b + 1 => stp_mono (inn_mono h b)
theorem midd_mono {f : Nat → Bool} {i : Nat} (h : f i = true) : ∀ a, midd L n f a i = true
  | 0 => h
  | a + 1 => inn_mono (midd_mono h a) n
theorem inn_le {a : Nat} {f : Nat → Bool} {i b : Nat} (h : inn L a f b i = true) : ∀ c, b ≤ c → inn L a f c i = true := by
  intro c hc
  induction c with
  | zero => have : b = 0 := by omega
            subst this; exact h
  | succ c ih =>
    by_cases e : b = c + 1
    · subst e; exact h
    · exact stp_mono (ih (by omega))
theorem midd_le {f : Nat → Bool} {i b : Nat} (h : midd L n f b i = true) : ∀ c, b ≤ c → midd L n f c i = true := by
  intro c hc
  induction c with
  | zero => have : b = 0 := by omega
            subst this; exact h
  | succ c ih =>
    by_cases e : b = c + 1
    · subst e; exact h
    · exact inn_mono (ih (by omega)) n
theorem midd_step {f : Nat → Bool} {a b : Nat} (ha : a < n) (hb : b < n) (h : f a = true) (hl : L a b = true) : midd L n f n b = true := by
  refine midd_le (b := a + 1) ?_ n (by omega)
  show inn L a (midd L n f a) n b = true
  refine inn_le (b := b + 1) ?_ n (by omega)
  show stp L a b (inn L a (midd L n f a) b) b = true
  have h1 := inn_mono (L := L) (a := a) (midd_mono (L := L) (n := n) h a) b
  simp [stp, h1, hl]
theorem inn_sound {P : Nat → Prop} {a : Nat} (ha : a < n) (hP : ∀ a b, a < n → b < n → P a → L a b = true → P b) {f : Nat → Bool} (hf : ∀ i, f i = true → P i) : ∀ b, b ≤ n → ∀ i, inn L a f b i = true → P i
  | 0, _, i, h => hf i h
  | b + 1, hb, i, h => by
    have ih := inn_sound ha hP hf b (by omega)
    simp only [inn, stp] at h
    split at h
    · rename_i e
      subst e
      rw [Bool.or_eq_true, Bool.and_eq_true] at h
      rcases h with h | h
      · exact ih _ h
      · exact hP a i ha (by omega) (ih a h.1) h.2
    · exact ih i h
theorem midd_sound {P : Nat → Prop} (hP : ∀ a b, a < n → b < n → P a → L a b = true → P b) {f : Nat → Bool} (hf : ∀ i, f i = true → P i) : ∀ a, a ≤ n → ∀ i, midd L n f a i = true → P i
  | 0, _, i, h => hf i h
  | a + 1, ha, i, h => inn_sound (by omega) hP (midd_sound hP hf a (by omega)) n (Nat.le_refl _) i h
theorem oul_sound {P : Nat → Prop} (hP : ∀ a b, a < n → b < n → P a → L a b = true → P b) {f : Nat → Bool} (hf : ∀ i, f i = true → P i) : ∀ k i, oul L n f k i = true → P i
  | 0, i, h => hf i h
  | k + 1, i, h => midd_sound hP (oul_sound hP hf k) n (Nat.le_refl _) i h
theorem oul_mono {f : Nat → Bool} {i : Nat} (h : f i = true) : ∀ k, oul L n f k i = true
  | 0 => h
  | k + 1 => midd_mono (oul_mono h k) n
def cnt (f : Nat → Bool) : Nat → Nat
  | 0 => 0
  | n + 1 => cnt f n + bif f n then 1 else 0
theorem cnt_le (f : Nat → Bool) : ∀ n, cnt f n ≤ n
  | 0 => Nat.le_refl 0
  | n + 1 => by have := cnt_le f n; simp only [cnt]; cases f n <;> simp <;> omega
theorem cnt_mono {f g : Nat → Bool} (h : ∀ i, f i = true → g i = true) : ∀ n, cnt f n ≤ cnt g n
  | 0 => Nat.le_refl 0
  | n + 1 => by
    have ih := cnt_mono h n
    simp only [cnt]
    cases hf : f n with
    | true => rw [h n hf]; simp; exact ih
    | false => cases g n <;> simp <;> omega
theorem cnt_lt {f g : Nat → Bool} (h : ∀ i, f i = true → g i = true) {j : Nat} (hf : f j = false) (hg : g j = true) : ∀ n, j < n → cnt f n < cnt g n
  | 0, hj => absurd hj (Nat.not_lt_zero _)
  | n + 1, hj => by
    simp only [cnt]
    by_cases e : j = n
    · subst e
      have := cnt_mono h j
      rw [hf, hg]; simp; omega
    · have := cnt_lt h hf hg n (by omega)
      cases hfn : f n with
      | true => rw [h n hfn]; simp; exact this
      | false => cases g n <;> simp <;> omega
theorem cnt_pos {f : Nat → Bool} {j : Nat} (hf : f j = true) : ∀ n, j < n → 1 ≤ cnt f n
  | 0, hj => absurd hj (Nat.not_lt_zero _)
  | n + 1, hj => by
    simp only [cnt]
    by_cases e : j = n
    · subst e; rw [hf]; simp
    · have := cnt_pos hf n (by omega); omega
def Clo (L : Nat → Nat → Bool) (n : Nat) (f : Nat → Bool) : Prop := ∀ a b, a < n → b < n → f a = true → L a b = true → f b = true
theorem oul_clo {c : Nat} (hc : c < n) : ∀ k, Clo L n (oul L n (fun i => decide (i = c)) k) ∨ k + 1 ≤ cnt (oul L n (fun i => decide (i = c)) k) n
  | 0 => .inr (cnt_pos (j := c) (by simp [oul]) n hc)
  | k + 1 => by
    have ih := oul_clo hc k
    by_cases hcl : Clo L n (oul L n (fun i => decide (i = c)) k)
    · left
      have e : oul L n (fun i => decide (i = c)) (k + 1) = oul L n (fun i => decide (i = c)) k := by
        funext i
        rw [Bool.eq_iff_iff]
        exact ⟨fun h => midd_sound (P := fun i => oul L n (fun i => decide (i = c)) k i = true) hcl (fun i h => h) n (Nat.le_refl _) i h, fun h => midd_mono h n⟩
      rw [e]; exact hcl
    · right
      have ih := ih.resolve_left hcl
      have : ∃ a b, a < n ∧ b < n ∧ oul L n (fun i => decide (i = c)) k a = true ∧ L a b = true ∧ oul L n (fun i => decide (i = c)) k b = false := Classical.byContradiction fun hn => hcl fun a b ha hb h hl => by
        cases hb' : oul L n (fun i => decide (i = c)) k b with
        | true => rfl
        | false => exact absurd ⟨a, b, ha, hb, h, hl, hb'⟩ hn
      obtain ⟨a, b, ha, hb, h, hl, hb'⟩ := this
      have := cnt_lt (f := oul L n (fun i => decide (i = c)) k) (g := oul L n (fun i => decide (i = c)) (k + 1)) (fun i h => midd_mono h n) hb' (midd_step ha hb h hl) n hb
      omega
theorem oul_closed {c : Nat} (hc : c < n) : Clo L n (oul L n (fun i => decide (i = c)) n) := (oul_clo hc n).resolve_right fun h => by have := cnt_le (oul L n (fun i => decide (i = c)) n) n; omega
end search
/-! ### the reference's functions -/
theorem forL_fc {α ρ : Type} {body : Int → α → Unit → Option (Fl Unit ρ)} (v : ρ) (p : α → Prop) [DecidablePred p] : ∀ (xs : List α) (k : Int), (∀ k x, x ∈ xs → body k x () = some (if p x then .ex v else .nx ())) → [Decidable (∃ x ∈ xs, p x)] →
    forL body xs k () = some (if ∃ x ∈ xs, p x then .ex v else .nx ())
  | [], k, h, _ => by simp [forL]
  | x :: r, k, h, _ => by
    simp only [forL, h k x (by simp)]
    by_cases c : p x
    · have : ∃ y ∈ x :: r, p y := ⟨x, by simp, c⟩
      simp only [if_pos c, Option.bind_some, Fl_ex, if_pos this]
    · have := Classical.propDecidable (∃ y ∈ r, p y)
      simp only [if_neg c, Option.bind_some, Fl_nx]
      rw [forL_fc v p r (k + 1) fun k y hy => h k y (by simp [hy])]
      by_cases d : ∃ y ∈ r, p y
      · have : ∃ y ∈ x :: r, p y := by obtain ⟨y, hy, hp⟩ := d; exact ⟨y, by simp [hy], hp⟩
        rw [if_pos d, if_pos this]
      · have : ¬ ∃ y ∈ x :: r, p y := by
          rintro ⟨y, hy, hp⟩
          rcases List.mem_cons.1 hy with rfl | hy
          · exact c hp
          · exact d ⟨y, hy, hp⟩
        rw [if_neg d, if_neg this]
open Classical in
theorem rleads_eq (x : GRights) (a b : Int) : F_ref25_leads x a b = some (decide (leads x a b)) := by
  unfold F_ref25_leads
  rw [forL_fc true (fun m : GMint => m.From = a ∧ m.To = b) x.Mints 0 fun k m _ => by
    simp only [F_ref25_leads_L1, grp]
    by_cases c : m.From = a ∧ m.To = b
    · simp [c.1, c.2]
    · rw [if_neg c]
      have : (decide (m.From = a) && decide (m.To = b)) = false := by simpa using c
      rw [this]; rfl]
  by_cases h1 : ∃ m ∈ x.Mints, m.From = a ∧ m.To = b
  · have : leads x a b := .inl h1
    simp only [if_pos h1, Option.bind_some, Fl_ex, decide_eq_true this]
  · simp only [if_neg h1, Option.bind_some, Fl_nx]
    rw [forL_fc true (fun g : GGrant => g.Credential = a ∧ ∃ s ∈ x.Stores, s.Resource = g.Resource ∧ s.Credential = b) x.Grants 0 fun k g _ => by
      simp only [F_ref25_leads_L3]
      rw [forL_fc true (fun s : GStore => s.Resource = g.Resource ∧ s.Credential = b) x.Stores 0 fun k s _ => by
        simp only [F_ref25_leads_L2, grp]
        by_cases c : s.Resource = g.Resource ∧ s.Credential = b
        · simp [c.1, c.2]
        · rw [if_neg c]
          have : (decide (s.Resource = g.Resource) && decide (s.Credential = b)) = false := by simpa using c
          rw [this]; rfl]
      by_cases c : g.Credential = a
      · by_cases d : ∃ s ∈ x.Stores, s.Resource = g.Resource ∧ s.Credential = b
        · simp only [c, decide_true, Bool.not_true, cond_false, true_and, if_pos d, Option.bind_some, Fl_ex]
        · simp only [c, decide_true, Bool.not_true, cond_false, true_and, if_neg d, Option.bind_some, Fl_nx]
      · simp only [decide_eq_false c, Bool.not_false, cond_true, if_neg (show ¬ (g.Credential = a ∧ _) from fun h => c h.1)]]
    by_cases h2 : ∃ g ∈ x.Grants, g.Credential = a ∧ ∃ s ∈ x.Stores, s.Resource = g.Resource ∧ s.Credential = b
    · have : leads x a b := by
        obtain ⟨g, hg, e, s, hs, e1, e2⟩ := h2
        exact .inr ⟨g, hg, s, hs, e, e1, e2⟩
      simp only [if_pos h2, Option.bind_some, Fl_ex, decide_eq_true this]
    · have : ¬ leads x a b := by
        rintro (h | ⟨g, hg, s, hs, e, e1, e2⟩)
        · exact h1 h
        · exact h2 ⟨g, hg, e, s, hs, e1, e2⟩
      simp only [if_neg h2, Option.bind_some, Fl_nx, decide_eq_false this]
theorem rin_eq (n lo hi : Int) : F_ref25_in n lo hi = some (decide (lo ≤ n ∧ n ≤ hi)) := by simp [F_ref25_in, grp]
open Classical in
theorem rvalid_eq (x : GRights) : F_ref25_Valid x = some (decide (GoodR x)) := by
  simp only [F_ref25_Valid, rin_eq, Option.bind_some, grp]
  by_cases h1 : 0 ≤ x.Credentials ∧ x.Credentials ≤ 24
  · by_cases h2 : 0 ≤ x.Resources ∧ x.Resources ≤ 24
    · by_cases h3 : x.Grants.length ≤ 100 ∧ x.Stores.length ≤ 100 ∧ x.Mints.length ≤ 100
      · have e3 : (decide (100 < (x.Grants.length : Int)) || decide (100 < (x.Stores.length : Int)) || decide (100 < (x.Mints.length : Int))) = false := by
          simp only [Bool.or_eq_false_iff, decide_eq_false_iff_not]; omega
        have i1 : in64 (x.Credentials - 1) = true := in64_sm (by omega) (by omega)
        have i2 : in64 (x.Resources - 1) = true := in64_sm (by omega) (by omega)
        have g1 := forL_fc (body := F_ref25_Valid_L1 x) false (fun g => ¬ gOK x g) x.Grants 0 fun k g _ => by
          simp only [F_ref25_Valid_L1, rin_eq, Option.bind_some, chk_true i1, chk_true i2]
          unfold gOK
          by_cases c1 : 0 ≤ g.Credential ∧ g.Credential ≤ x.Credentials - 1 <;> by_cases c2 : 0 ≤ g.Resource ∧ g.Resource ≤ x.Resources - 1 <;> by_cases c3 : 1 ≤ g.Right ∧ g.Right ≤ 3 <;> simp only [c1, c2, c3, decide_true, decide_false, Bool.not_true, Bool.not_false, cond_true, cond_false, Option.bind_some, and_self, and_true, true_and, and_false, false_and, not_true_eq_false, not_false_eq_true, if_true, if_false]
        have g2 := forL_fc (body := F_ref25_Valid_L2 x) false (fun s => ¬ sOK x s) x.Stores 0 fun k g _ => by
          simp only [F_ref25_Valid_L2, rin_eq, Option.bind_some, chk_true i1, chk_true i2]
          unfold sOK
          by_cases c1 : 0 ≤ g.Credential ∧ g.Credential ≤ x.Credentials - 1 <;> by_cases c2 : 0 ≤ g.Resource ∧ g.Resource ≤ x.Resources - 1 <;> simp only [c1, c2, decide_true, decide_false, Bool.not_true, Bool.not_false, cond_true, cond_false, Option.bind_some, and_self, and_true, true_and, and_false, false_and, not_true_eq_false, not_false_eq_true, if_true, if_false]
        have g3 := forL_fc (body := F_ref25_Valid_L3 x) false (fun s => ¬ mOK x s) x.Mints 0 fun k g _ => by
          simp only [F_ref25_Valid_L3, rin_eq, Option.bind_some, chk_true i1]
          unfold mOK
          by_cases c1 : 0 ≤ g.From ∧ g.From ≤ x.Credentials - 1 <;> by_cases c2 : 0 ≤ g.To ∧ g.To ≤ x.Credentials - 1 <;> simp only [c1, c2, decide_true, decide_false, Bool.not_true, Bool.not_false, cond_true, cond_false, Option.bind_some, and_self, and_true, true_and, and_false, false_and, not_true_eq_false, not_false_eq_true, if_true, if_false]
        simp only [h1, h2, decide_true, Bool.not_true, Bool.false_or, cond_false, e3, jn, Option.bind_some, and_self, Fl_nx]
        rw [g1, g2, g3]
        by_cases q1 : ∃ g ∈ x.Grants, ¬ gOK x g
        · have : ¬ GoodR x := fun h => by obtain ⟨g, hg, hn⟩ := q1; exact hn (h.gr g hg)
          simp only [if_pos q1, Option.bind_some, Fl_ex, decide_eq_false this]
        · by_cases q2 : ∃ g ∈ x.Stores, ¬ sOK x g
          · have : ¬ GoodR x := fun h => by obtain ⟨g, hg, hn⟩ := q2; exact hn (h.st g hg)
            simp only [if_neg q1, if_pos q2, Option.bind_some, Fl_ex, Fl_nx, decide_eq_false this]
          · by_cases q3 : ∃ g ∈ x.Mints, ¬ mOK x g
            · have : ¬ GoodR x := fun h => by obtain ⟨g, hg, hn⟩ := q3; exact hn (h.mi g hg)
              simp only [if_neg q1, if_neg q2, if_pos q3, Option.bind_some, Fl_ex, Fl_nx, decide_eq_false this]
            · have : GoodR x := ⟨h1.1, h1.2, h2.1, h2.2, h3.1, h3.2.1, h3.2.2, fun g hg => Classical.byContradiction fun hn => q1 ⟨g, hg, hn⟩, fun g hg => Classical.byContradiction fun hn => q2 ⟨g, hg, hn⟩, fun g hg => Classical.byContradiction fun hn => q3 ⟨g, hg, hn⟩⟩
              simp only [if_neg q1, if_neg q2, if_neg q3, Option.bind_some, Fl_nx, decide_eq_true this]
      · have e3 : (decide (100 < (x.Grants.length : Int)) || decide (100 < (x.Stores.length : Int)) || decide (100 < (x.Mints.length : Int))) = true := by
          simp only [Bool.or_eq_true, decide_eq_true_eq]; omega
        have : ¬ GoodR x := fun h => h3 ⟨h.gl, h.sl, h.ml⟩
        simp only [h1, h2, decide_true, Bool.not_true, Bool.false_or, cond_false, e3, cond_true, decide_eq_false this, and_self, jn, Option.bind_some, Fl_ex]
    · have : ¬ GoodR x := fun h => h2 ⟨h.r0, h.r1⟩
      simp only [h1, h2, decide_true, decide_false, Bool.not_true, Bool.not_false, Bool.true_or, cond_false, cond_true, decide_eq_false this, and_self, jn, Option.bind_some, Fl_ex]
  · have : ¬ GoodR x := fun h => h1 ⟨h.c0, h.c1⟩
    simp only [h1, decide_false, Bool.not_false, Bool.true_or, cond_true, decide_eq_false this, jn, Option.bind_some, Fl_ex]
theorem rreach_ok {x : GRights} (g : GoodR x) {c : Int} (hc : 0 ≤ c ∧ c ≤ x.Credentials - 1) : Ok (F_ref25_Reach x c) fun r => r.Pairwise (fun a b => a < b) ∧ ∀ k, k ∈ r ↔ Rch x c k := by
  classical
  have h0 := g.c0; have h1 := g.c1
  have i1 : in64 (x.Credentials - 1) = true := in64_sm (by omega) (by omega)
  simp only [F_ref25_Reach, rvalid_eq, decide_eq_true g, Option.bind_some, Bool.not_true, cond_false, chk_true i1, rin_eq, decide_eq_true hc]
  have hL : reachF x c = some ((List.range x.Credentials.toNat).map (oul (fun a b => decide (leads x a b)) x.Credentials.toNat (fun i => decide (i = c.toNat)) x.Credentials.toNat)) := by
    unfold reachF
    have e : ∀ a b : Nat, F_ref25_leads x a b = some (decide (leads x a b)) := fun a b => rleads_eq x a b
    simp only [e, Option.isSome_some, Option.getD_some]
    rw [chk_true]
    simp only [Bool.and_eq_true, decide_eq_true_eq]
    exact ⟨⟨⟨inb_iff.2 (by omega), h1⟩, by omega⟩, by simp⟩
  rw [hL]
  simp only [Option.bind_some]
  generalize hf : oul (fun a b => decide (leads x a b)) x.Credentials.toNat (fun i => decide (i = c.toNat)) x.Credentials.toNat = f
  have hR : ∀ i : Nat, (i < x.Credentials.toNat ∧ f i = true) ↔ Rch x c i := by
    intro i
    constructor
    · rintro ⟨_, h⟩
      rw [← hf] at h
      refine oul_sound (L := fun a b => decide (leads x a b)) (n := x.Credentials.toNat) (P := fun i => Rch x c i) (fun a b _ _ ha hl => .step ha (of_decide_eq_true hl)) (fun j hj => ?_) _ i h
      have : j = c.toNat := of_decide_eq_true hj
      have : (j : Int) = c := by omega
      rw [this]; exact .refl
    · intro h
      have key : ∀ k, Rch x c k → f k.toNat = true := by
        intro k hk
        induction hk with
        | refl => rw [← hf]; exact oul_mono (by simp) _
        | @step a b hra hl ih =>
          have ra := rch_range g hc hra
          have rb := leads_range g hl
          have := oul_closed (L := fun a b : Nat => decide (leads x a b)) (n := x.Credentials.toNat) (c := c.toNat) (by omega)
          rw [hf] at this
          refine this a.toNat b.toNat (by omega) (by omega) ih (decide_eq_true ?_)
          rw [show ((a.toNat : Nat) : Int) = a by omega, show ((b.toNat : Nat) : Int) = b by omega]
          exact hl
      have := rch_range g hc h
      refine ⟨by omega, ?_⟩
      simpa using key _ h
  refine Ok.bind (Ok.foldI (all := (List.range x.Credentials.toNat).map f) (Q := fun r : List Int => r.Pairwise (fun a b => a < b) ∧ ∀ k, k ∈ r ↔ Rch x c k) (fun pre s => s.length ≤ pre.length ∧ s.Pairwise (fun a b => a < b) ∧ ∀ k, k ∈ s ↔ ∃ i : Nat, i < pre.length ∧ k = i ∧ f i = true) _ [] 0 _ rfl rfl ⟨Nat.le_refl _, by simp, fun k => ⟨fun h => by simp at h, fun ⟨i, hi, _⟩ => by simp at hi⟩⟩ (fun pre y r s hw hs => ?_) fun s hs => ?_) fun r hr => Ok.ret hr
  · obtain ⟨s1, s2, s3⟩ := hs
    have hlen : pre.length < x.Credentials.toNat := by have := congrArg List.length hw; simp at this; omega
    have hy : y = f pre.length := by
      have := congrArg (fun l => l[pre.length]?) hw
      simpa [hlen] using this.symm
    unfold F_ref25_Reach_L1
    refine Ok.ite (fun cy => Ok.chk (room_sm (by simp; omega)) (Ok.ret ⟨by simp; omega, ?_, fun k => ?_⟩)) fun cy => Ok.ret ⟨by simp; omega, s2, fun k => ?_⟩
    · rw [List.pairwise_append]
      refine ⟨s2, by simp, fun a ha b hb => ?_⟩
      obtain ⟨i, hi, rfl, _⟩ := (s3 a).1 ha
      simp at hb; omega
    · simp only [List.mem_append, List.mem_singleton, s3 k, List.length_append, List.length_singleton]
      constructor
      · rintro (⟨i, hi, e, h⟩ | rfl)
        · exact ⟨i, by omega, e, h⟩
        · exact ⟨pre.length, by omega, rfl, by rw [← hy]; exact cy⟩
      · rintro ⟨i, hi, rfl, h⟩
        by_cases e : i = pre.length
        · exact .inr (by rw [e])
        · exact .inl ⟨i, by omega, rfl, h⟩
    · rw [s3 k]
      simp only [List.length_append, List.length_singleton]
      constructor
      · rintro ⟨i, hi, e, h⟩; exact ⟨i, by omega, e, h⟩
      · rintro ⟨i, hi, rfl, h⟩
        refine ⟨i, ?_, rfl, h⟩
        by_cases e : i = pre.length
        · rw [e, ← hy, cy] at h; cases h
        · omega
  · obtain ⟨s1, s2, s3⟩ := hs
    refine ⟨s2, fun k => ?_⟩
    rw [s3 k]
    simp only [List.length_map, List.length_range]
    constructor
    · rintro ⟨i, hi, rfl, h⟩; exact (hR i).1 ⟨hi, h⟩
    · intro h
      have := rch_range g hc h
      obtain ⟨h1, h2⟩ := (hR k.toNat).2 (by rw [show ((k.toNat : Nat) : Int) = k by omega]; exact h)
      exact ⟨k.toNat, h1, by omega, h2⟩
end Go.Ab
