/- A search over a table, in plain words: passes over all pairs until nothing is new. -/
import Derived.Test.YtgjicmoegmbipaaGreatAbHo
set_option linter.all false
set_option linter.all false
namespace Go.Ab
def stp (L : Nat → Nat → Bool) (a b : Nat) (f : Nat → Bool) : Nat → Bool := fun i => if i = b then f b || (f a && L a b) else f i
def inn (L : Nat → Nat → Bool) (a : Nat) (f : Nat → Bool) : Nat → Nat → Bool
  | 0 => f
  | b + 1 => stp L a b (inn L a f b)
def midd (L : Nat → Nat → Bool) (n : Nat) (f : Nat → Bool) : Nat → Nat → Bool
  | 0 => f
  | a + 1 => inn L a (midd L n f a) n
def oul (L : Nat → Nat → Bool) (n : Nat) (f : Nat → Bool) : Nat → Nat → Bool
  | 0 => f
  | k + 1 => midd L n (oul L n f k) n
section search
variable {L : Nat → Nat → Bool} {n : Nat}
theorem stp_mono {a b : Nat} {f : Nat → Bool} {i : Nat} (h : f i = true) : stp L a b f i = true := by
  simp only [stp]; split
  · subst_vars; simp [h]
  · exact h
theorem inn_mono {a : Nat} {f : Nat → Bool} {i : Nat} (h : f i = true) : ∀ b, inn L a f b i = true
  | 0 => h
  | b + 1 => stp_mono (inn_mono h b)
theorem midd_mono {f : Nat → Bool} {i : Nat} (h : f i = true) : ∀ a, midd L n f a i = true
  | 0 => h
  | a + 1 => inn_mono (midd_mono h a) n
theorem inn_le {a : Nat} {f : Nat → Bool} {i b : Nat} (h : inn L a f b i = true) : ∀ c, b ≤ c → inn L a f c i = true := by
  intro c hc
  induction c with
  | zero => have : b = 0 := by omega
            subst this; exact h
  | succ c ih =>
    by_cases e : b = c + 1
    · subst e; exact h
    · exact stp_mono (ih (by omega))
theorem midd_le {f : Nat → Bool} {i b : Nat} (h : midd L n f b i = true) : ∀ c, b ≤ c → midd L n f c i = true := by
  intro c hc
  induction c with
  | zero => have : b = 0 := by omega
            subst this; exact h
  | succ c ih =>
    by_cases e : b = c + 1
    · subst e; exact h
    · exact inn_mono (ih (by omega)) n
theorem midd_step {f : Nat → Bool} {a b : Nat} (ha : a < n) (hb : b < n) (h : f a = true) (hl : L a b = true) : midd L n f n b = true := by
  refine midd_le (b := a + 1) ?_ n (by omega)
  show inn L a (midd L n f a) n b = true
  refine inn_le (b := b + 1) ?_ n (by omega)
  show stp L a b (inn L a (midd L n f a) b) b = true
  have h1 := inn_mono (L := L) (a := a) (midd_mono (L := L) (n := n) h a) b
  simp [stp, h1, hl]
theorem inn_sound {P : Nat → Prop} {a : Nat} (ha : a < n) (hP : ∀ a b, a < n → b < n → P a → L a b = true → P b) {f : Nat → Bool} (hf : ∀ i, f i = true → P i) : ∀ b, b ≤ n → ∀ i, inn L a f b i = true → P i
  | 0, _, i, h => hf i h
  | b + 1, hb, i, h => by
    have ih := inn_sound ha hP hf b (by omega)
    simp only [inn, stp] at h
    split at h
    · rename_i e
      subst e
      rw [Bool.or_eq_true, Bool.and_eq_true] at h
      rcases h with h | h
      · exact ih _ h
      · exact hP a i ha (by omega) (ih a h.1) h.2
    · exact ih i h
theorem midd_sound {P : Nat → Prop} (hP : ∀ a b, a < n → b < n → P a → L a b = true → P b) {f : Nat → Bool} (hf : ∀ i, f i = true → P i) : ∀ a, a ≤ n → ∀ i, midd L n f a i = true → P i
  | 0, _, i, h => hf i h
  | a + 1, ha, i, h => inn_sound (by omega) hP (midd_sound hP hf a (by omega)) n (Nat.le_refl _) i h
theorem oul_sound {P : Nat → Prop} (hP : ∀ a b, a < n → b < n → P a → L a b = true → P b) {f : Nat → Bool} (hf : ∀ i, f i = true → P i) : ∀ k i, oul L n f k i = true → P i
  | 0, i, h => hf i h
  | k + 1, i, h => midd_sound hP (oul_sound hP hf k) n (Nat.le_refl _) i h
theorem oul_mono {f : Nat → Bool} {i : Nat} (h : f i = true) : ∀ k, oul L n f k i = true
  | 0 => h
  | k + 1 => midd_mono (oul_mono h k) n
def cnt (f : Nat → Bool) : Nat → Nat
  | 0 => 0
  | n + 1 => cnt f n + bif f n then 1 else 0
theorem cnt_le (f : Nat → Bool) : ∀ n, cnt f n ≤ n
  | 0 => Nat.le_refl 0
  | n + 1 => by have := cnt_le f n; simp only [cnt]; cases f n <;> simp <;> omega
theorem cnt_mono {f g : Nat → Bool} (h : ∀ i, f i = true → g i = true) : ∀ n, cnt f n ≤ cnt g n
  | 0 => Nat.le_refl 0
  | n + 1 => by
    have ih := cnt_mono h n
    simp only [cnt]
    cases hf : f n with
    | true => rw [h n hf]; simp; exact ih
    | false => cases g n <;> simp <;> omega
theorem cnt_lt {f g : Nat → Bool} (h : ∀ i, f i = true → g i = true) {j : Nat} (hf : f j = false) (hg : g j = true) : ∀ n, j < n → cnt f n < cnt g n
  | 0, hj => absurd hj (Nat.not_lt_zero _)
  | n + 1, hj => by
    simp only [cnt]
    by_cases e : j = n
    · subst e
      have := cnt_mono h j
      rw [hf, hg]; simp; omega
    · have := cnt_lt h hf hg n (by omega)
      cases hfn : f n with
      | true => rw [h n hfn]; simp; exact this
      | false => cases g n <;> simp <;> omega
theorem cnt_pos {f : Nat → Bool} {j : Nat} (hf : f j = true) : ∀ n, j < n → 1 ≤ cnt f n
  | 0, hj => absurd hj (Nat.not_lt_zero _)
  | n + 1, hj => by
    simp only [cnt]
    by_cases e : j = n
    · subst e; rw [hf]; simp
    · have := cnt_pos hf n (by omega); omega
def Clo (L : Nat → Nat → Bool) (n : Nat) (f : Nat → Bool) : Prop := ∀ a b, a < n → b < n → f a = true → L a b = true → f b = true
theorem oul_clo {c : Nat} (hc : c < n) : ∀ k, Clo L n (oul L n (fun i => decide (i = c)) k) ∨ k + 1 ≤ cnt (oul L n (fun i => decide (i = c)) k) n
  | 0 => .inr (cnt_pos (j := c) (by simp [oul]) n hc)
  | k + 1 => by
    have ih := oul_clo hc k
    by_cases hcl : Clo L n (oul L n (fun i => decide (i = c)) k)
    · left
      have e : oul L n (fun i => decide (i = c)) (k + 1) = oul L n (fun i => decide (i = c)) k := by
        funext i
        rw [Bool.eq_iff_iff]
        exact ⟨fun h => midd_sound (P := fun i => oul L n (fun i => decide (i = c)) k i = true) hcl (fun i h => h) n (Nat.le_refl _) i h, fun h => midd_mono h n⟩
      rw [e]; exact hcl
    · right
      have ih := ih.resolve_left hcl
      have : ∃ a b, a < n ∧ b < n ∧ oul L n (fun i => decide (i = c)) k a = true ∧ L a b = true ∧ oul L n (fun i => decide (i = c)) k b = false := Classical.byContradiction fun hn => hcl fun a b ha hb h hl => by
        cases hb' : oul L n (fun i => decide (i = c)) k b with
        | true => rfl
        | false => exact absurd ⟨a, b, ha, hb, h, hl, hb'⟩ hn
      obtain ⟨a, b, ha, hb, h, hl, hb'⟩ := this
      have := cnt_lt (f := oul L n (fun i => decide (i = c)) k) (g := oul L n (fun i => decide (i = c)) (k + 1)) (fun i h => midd_mono h n) hb' (midd_step ha hb h hl) n hb
      omega
theorem oul_closed {c : Nat} (hc : c < n) : Clo L n (oul L n (fun i => decide (i = c)) n) := (oul_clo hc n).resolve_right fun h => by have := cnt_le (oul L n (fun i => decide (i = c)) n) n; omega
theorem midd_clo {f : Nat → Bool} (h : Clo L n f) : midd L n f n = f := by
  funext i
  rw [Bool.eq_iff_iff]
  exact ⟨fun h' => midd_sound (P := fun i => f i = true) h (fun i h => h) n (Nat.le_refl _) i h', fun h => midd_mono h n⟩
theorem oul_fix {f : Nat → Bool} {k : Nat} (h : midd L n (oul L n f k) n = oul L n f k) : ∀ j, oul L n f (k + j) = oul L n f k
  | 0 => rfl
  | j + 1 => by show midd L n (oul L n f (k + j)) n = _; rw [oul_fix h j, h]
theorem oul_eq_of_fix {c k : Nat} (hc : c < n) (h : midd L n (oul L n (fun i => decide (i = c)) k) n = oul L n (fun i => decide (i = c)) k) : oul L n (fun i => decide (i = c)) k = oul L n (fun i => decide (i = c)) n := by
  have h2 := midd_clo (oul_closed (L := L) hc)
  rw [← oul_fix h n, ← oul_fix h2 k, Nat.add_comm]
theorem stp_no {a b : Nat} {f : Nat → Bool} (h : (f a && L a b && !f b) = false) : stp L a b f = f := by
  funext i
  simp only [stp]
  split
  · rename_i e
    rw [e]
    cases hb : f b with
    | false => rw [hb] at h; simpa using h
    | true => simp
  · rfl
end search
end Go.Ab
