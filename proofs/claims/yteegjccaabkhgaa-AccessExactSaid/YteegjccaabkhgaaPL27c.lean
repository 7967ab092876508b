/- What the makers of examples make: valid estates. -/
import Derived.Test.YteegjccaabkhgaaPL27b
set_option linter.all false
set_option linter.all false
namespace Go.Ab
open Go.Proofs

def TOK (t : GTape) : Prop := 0 ≤ t.at_ ∧ t.L.length ≤ 300
theorem next_ok {t : GTape} {n : Int} (h : TOK t) (hn : 0 < n) : Ok (F_made_Tape_Next t n) fun y => 0 ≤ y.1 ∧ y.1 < n ∧ TOK y.2 := by
  unfold F_made_Tape_Next
  refine Ok.ite (fun c => Ok.ret ⟨Int.le_refl 0, hn, h⟩) fun c => ?_
  have c' : t.at_ < t.L.length := by simpa using c
  have h1 := h.1; have h2 := h.2
  refine Ok.chk (inb_iff.2 ⟨h.1, c'⟩) (Ok.chk (in64_sm (by omega) (by omega)) (Ok.chk (divs_iff.2 ⟨Int.emod_nonneg _ (by decide), hn⟩) (Ok.ret ⟨Int.emod_nonneg _ (by omega), Int.emod_lt_of_pos _ hn, ?_, h2⟩)))
  show 0 ≤ t.at_ + 1
  omega
theorem between_ok {t : GTape} {a b : Int} (h : TOK t) (h1 : -1000000 ≤ a) (h2 : a ≤ b) (h3 : b ≤ 1000000) : Ok (F_made_Tape_Between t a b) fun y => a ≤ y.1 ∧ y.1 ≤ b ∧ TOK y.2 := by
  unfold F_made_Tape_Between
  refine Ok.chk (in64_sm (by omega) (by omega)) (Ok.chk (in64_sm (by omega) (by omega)) (Ok.bind (next_ok h (by omega)) fun y hy => Ok.chk (in64_sm (by omega) (by omega)) (Ok.ret ⟨?_, ?_, hy.2.2⟩)))
  · show a ≤ a + y.1; omega
  · show a + y.1 ≤ b; omega
theorem pick_ok {t : GTape} {l : List Int} (h : TOK t) (hl : 0 < l.length) : Ok (F_made_Pick t l) fun y => y.1 ∈ l ∧ TOK y.2 := by
  unfold F_made_Pick
  refine Ok.bind (next_ok h (by omega)) fun y hy => Ok.chk (inb_iff.2 ⟨hy.1, hy.2.1⟩) (Ok.ret ⟨?_, hy.2.2⟩)
  have : y.1.toNat < l.length := by omega
  simp [this]
theorem room_sm {n b : Nat} (h : n * b ≤ 1000000) : room n b = true := room_iff.2 (by omega)
theorem clock_ok {t : GTape} {n : Int} (h : TOK t) (h0 : 0 ≤ n) (hn : n ≤ 30) : Ok (F_made_Clock t n) fun y => (y.1.length : Int) = n ∧ y.1.Pairwise (fun a b => a ≤ b) ∧ (∀ x ∈ y.1, 0 ≤ x ∧ x ≤ 3 + 2 * n) ∧ TOK y.2 := by
  unfold F_made_Clock
  refine Ok.bind (next_ok h (by omega)) fun y hy => ?_
  refine Ok.bind (Ok.loop (Q := fun y : List Int × GTape => (y.1.length : Int) = n ∧ y.1.Pairwise (fun a b => a ≤ b) ∧ (∀ x ∈ y.1, 0 ≤ x ∧ x ≤ 3 + 2 * n) ∧ TOK y.2) (fun x => x.2.1 = x.2.2.1.length ∧ x.2.1 ≤ n ∧ x.2.2.1.Pairwise (fun a b => a ≤ b) ∧ (∀ z ∈ x.2.2.1, 0 ≤ z ∧ z ≤ x.1) ∧ 0 ≤ x.1 ∧ x.1 ≤ 3 + 2 * x.2.1 ∧ TOK x.2.2.2) (fun x => (n - x.2.1).toNat) (fun x hx => ?_) _ ?_) fun r hr => Ok.ret hr
  · obtain ⟨a, i, out, t⟩ := x
    obtain ⟨h1, h2, h3, h4, h5, h6, h7⟩ := hx
    simp only at h1 h2 h3 h4 h5 h6 h7
    unfold F_made_Clock_L1
    refine Ok.ite (fun c => ?_) fun c => ?_
    · have c : i < n := by simpa using c
      refine Ok.bind (next_ok h7 (by omega)) fun y hy => ?_
      obtain ⟨y1, y2, y3⟩ := hy
      refine Ok.chk (in64_sm (by simp only; omega) (by simp only; omega)) (Ok.chk (room_sm (by simp; omega)) (Ok.chk (in64_sm (by simp only; omega) (by simp only; omega)) (Ok.ret ?_)))
      simp only [Fl.elim]
      refine ⟨⟨?_, ?_, ?_, ?_, ?_, ?_, y3⟩, by omega⟩
      · simp; omega
      · omega
      · rw [List.pairwise_append]
        refine ⟨h3, by simp, fun z hz w hw => ?_⟩
        simp at hw
        have := (h4 z hz).2
        omega
      · intro z hz
        simp only [List.mem_append, List.mem_singleton] at hz
        rcases hz with hz | hz
        · have := h4 z hz; omega
        · omega
      · omega
      · omega
    · have c : ¬ i < n := by simpa using c
      refine Ok.ret ?_
      simp only [Fl.elim]
      refine ⟨by omega, h3, fun z hz => ?_, h7⟩
      have := h4 z hz
      omega
  · simp only [List.length_nil]
    refine ⟨rfl, h0, List.Pairwise.nil, by simp, hy.1, by omega, hy.2.2⟩
theorem directory_ok {t : GTape} (h : TOK t) : Ok (F_made_Directory t) fun y => 1 ≤ y.1.Kinds.length ∧ y.1.Kinds.length ≤ 7 ∧ TOK y.2 := by
  unfold F_made_Directory
  refine Ok.bind (between_ok h (by omega) (by omega) (by omega)) fun y hy => ?_
  refine Ok.bind (Ok.loop (Q := fun y : List Int × GTape => 1 ≤ y.1.length ∧ y.1.length ≤ 7 ∧ TOK y.2) (fun x => 0 ≤ x.1 ∧ (x.2.1.length : Int) + x.1 ≤ 7 ∧ 1 ≤ x.2.1.length ∧ TOK x.2.2) (fun x => x.1.toNat) (fun x hx => ?_) _ ?_) fun r hr => ?_
  · obtain ⟨k, out, t⟩ := x
    obtain ⟨h1, h2, h3, h4⟩ := hx
    simp only at h1 h2 h3 h4
    unfold F_made_Directory_L1
    refine Ok.ite (fun c => ?_) fun c => ?_
    · have c : 0 < k := by simpa using c
      refine Ok.bind (pick_ok h4 (by simp)) fun y hy => ?_
      refine Ok.chk (room_sm (by simp; omega)) (Ok.chk (in64_sm (by simp only; omega) (by simp only; omega)) (Ok.ret ?_))
      simp only [Fl.elim]
      refine ⟨⟨by omega, by simp; omega, by simp, hy.2⟩, by omega⟩
    · refine Ok.ret ?_
      simp only [Fl.elim]
      exact ⟨h3, by omega, h4⟩
  · exact ⟨by show 0 ≤ y.1; omega, by show ((1 : Nat) : Int) + y.1 ≤ 7; omega, by simp, hy.2.2⟩
  · obtain ⟨r1, r2, r3⟩ := hr
    refine Ok.bind (Ok.foldI (all := r.1) (Q := fun x : List Int => x.length ≤ 7) (fun pre x => x.length ≤ pre.length) r.1 [] 0 [] rfl rfl (by simp) (fun pre x q s hw hs => ?_) fun s hs => by omega) fun gs hg => ?_
    · unfold F_made_Directory_L2
      have hp : pre.length ≤ 7 := by have := congrArg List.length hw; simp at this; omega
      refine Ok.ite (fun c => Ok.chk (room_sm (by simp; omega)) (Ok.ret (by simp; omega))) fun c => Ok.ret (by simp; omega)
    · refine Ok.ite (fun c => Ok.ret ⟨r1, r2, r3⟩) fun c => ?_
      have c : ¬ (gs.length : Int) = 0 := by simpa using c
      refine Ok.bind (next_ok r3 (by omega)) fun y hy => Ok.bind (clock_ok hy.2.2 hy.1 (by omega)) fun z hz => ?_
      refine Ok.bind (Ok.foldI (all := z.1) (Q := fun x : List GMember × GTape => TOK x.2) (fun pre x => x.1.length ≤ pre.length ∧ TOK x.2) z.1 [] 0 _ rfl rfl ⟨by simp, hz.2.2.2⟩ (fun pre x q s hw hs => ?_) fun s hs => hs.2) fun s hs => Ok.ret ⟨r1, r2, hs⟩
      unfold F_made_Directory_L3
      have hp : pre.length ≤ 30 := by have := congrArg List.length hw; simp at this; omega
      refine Ok.bind (next_ok hs.2 (by omega)) fun a ha => Ok.bind (next_ok ha.2.2 (by omega)) fun b hb => Ok.chk (inb_iff.2 ⟨hb.1, hb.2.1⟩) ?_
      refine Ok.jn (P := fun j : GMember × GTape => TOK j.2) (Ok.bind (next_ok hb.2.2 (by omega)) fun d hd => Ok.ite (fun _ => Ok.ret hd.2.2) fun _ => Ok.ret hd.2.2) fun j hj => ?_
      have hs1 := hs.1
      refine Ok.ite (fun c => Ok.chk (room_sm (by simp; omega)) (Ok.ret ⟨by simp; omega, hj⟩)) fun c => Ok.ret ⟨by simp; omega, hj⟩
theorem estate_ok {t : GTape} {d : GDirectory} (h : TOK t) (hd : d.Kinds.length ≤ 7) : Ok (F_made_Estate t d) fun y => Good y.1 ∧ y.1.Places ≤ 4 ∧ y.1.Events.length ≤ 15 ∧ (∀ x ∈ y.1.Events, x.Time ≤ 33) ∧ TOK y.2 := by
  unfold F_made_Estate
  refine Ok.bind (between_ok h (by omega) (by omega) (by omega)) fun y hy => Ok.bind (next_ok hy.2.2 (by omega)) fun n hn => Ok.bind (clock_ok hn.2.2 hn.1 (by omega)) fun z hz => ?_
  obtain ⟨z1, z2, z3, z4⟩ := hz
  refine Ok.bind (Ok.foldI (all := z.1) (Q := fun x : Int × List GAccess × GTape => x.1 = y.1 ∧ x.2.1.length ≤ z.1.length ∧ (∀ e ∈ x.2.1, xok y.1 e ∧ e.Time ≤ 33) ∧ x.2.1.Pairwise (fun a b => a.Time ≤ b.Time) ∧ TOK x.2.2)
    (fun pre x => x.1 = y.1 ∧ x.2.1.length ≤ pre.length ∧ (∀ e ∈ x.2.1, xok y.1 e ∧ e.Time ∈ pre) ∧ x.2.1.Pairwise (fun a b => a.Time ≤ b.Time) ∧ TOK x.2.2) z.1 [] 0 _ rfl rfl ⟨rfl, by simp, by simp, List.Pairwise.nil, z4⟩ (fun pre c q s hw hs => ?_) fun s hs => ?_) fun s hs => Ok.ret ?_
  · obtain ⟨s1, s2, s3, s4, s5⟩ := hs
    unfold F_made_Estate_L1
    have hc := z3 c (by rw [hw]; simp)
    have hpre : ∀ e ∈ pre, e ≤ c := fun e he => by rw [hw, List.pairwise_append] at z2; exact z2.2.2 e he c (by simp)
    have hp : pre.length ≤ 15 := by have := congrArg List.length hw; simp at this; omega
    obtain ⟨y1, y2, y3⟩ := hy
    -- what is done with an event
    have push : ∀ (x : GAccess) (t : GTape), xok y.1 x → x.Time = c → TOK t → Ok (chk (room (s.2.1.length + [x].length) 56) (some (s.1, s.2.1 ++ [x], t))) fun x => x.1 = y.1 ∧ x.2.1.length ≤ (pre ++ [c]).length ∧ (∀ e ∈ x.2.1, xok y.1 e ∧ e.Time ∈ pre ++ [c]) ∧ x.2.1.Pairwise (fun a b => a.Time ≤ b.Time) ∧ TOK x.2.2 := by
      intro x t hx ht hT
      refine Ok.chk (room_sm (by simp; omega)) (Ok.ret ⟨s1, by simp; omega, fun e he => ?_, ?_, hT⟩)
      · simp only [List.mem_append, List.mem_singleton] at he ⊢
        rcases he with he | rfl
        · exact ⟨(s3 e he).1, .inl (s3 e he).2⟩
        · exact ⟨hx, .inr ht⟩
      · rw [List.pairwise_append]
        refine ⟨s4, by simp, fun e he w hw2 => ?_⟩
        simp only [List.mem_singleton] at hw2
        subst hw2
        rw [ht]; exact hpre _ (s3 e he).2
    refine Ok.bind (pick_ok s5 (by simp)) fun k hk => Ok.bind (next_ok hk.2 (by omega)) fun pl hpl => ?_
    obtain ⟨p1, p2, p3⟩ := hpl
    rw [s1] at p2
    have hk1 : k.1 = 1 ∨ k.1 = 2 ∨ k.1 = 3 ∨ k.1 = 4 ∨ k.1 = 5 ∨ k.1 = 6 ∨ k.1 = 7 := by have := hk.1; simp at this; omega
    refine Ok.jn (P := fun o => match o with | .nx j => xok y.1 j.1 ∧ j.1.Time = c ∧ TOK j.2 | .ex r => TOK r) ?_ fun o ho => ?_
    · refine Ok.jn (P := fun b => b = true ↔ (k.1 = 1 ∨ k.1 = 2)) (Ok.ite (fun c => Ok.ret (by simpa using Or.inl (by simpa using c))) fun c => Ok.ret (by have : ¬ k.1 = 1 := by simpa using c
                                                                                                                                                           simp [this])) fun b hb => ?_
      refine Ok.ite (fun c1 => ?_) fun c1 => ?_
      · have hk2 := hb.1 c1
        refine Ok.chk (in64_sm (by omega) (by omega)) (Ok.bind (next_ok p3 (by omega)) fun w hw2 => Ok.ret ⟨?_, rfl, hw2.2.2⟩)
        exact ⟨by show 0 ≤ c; omega, by show c ≤ 1099511627776; omega, p1, by show pl.1 ≤ y.1 - 1; omega, .inl ⟨hk2, hw2.1, by show w.1 ≤ 23; omega, rfl, rfl, rfl⟩⟩
      · have hk2 : ¬ (k.1 = 1 ∨ k.1 = 2) := fun h => by rw [hb.2 h] at c1; cases c1
        refine Ok.ite (fun c2 => ?_) fun c2 => ?_
        · have c2 : k.1 = 3 := by simpa using c2
          refine Ok.chk (in64_sm (by omega) (by omega)) (Ok.bind (next_ok p3 (by omega)) fun w hw2 => Ok.chk (in64_sm (by omega) (by omega)) (Ok.ret ⟨?_, rfl, hw2.2.2⟩))
          exact ⟨by show 0 ≤ c; omega, by show c ≤ 1099511627776; omega, p1, by show pl.1 ≤ y.1 - 1; omega, .inr (.inl ⟨c2, by show c < c + 1 + w.1; omega, by show c + 1 + w.1 ≤ 1099511627776; omega, rfl, rfl, rfl⟩)⟩
        · have c2 : ¬ k.1 = 3 := by simpa using c2
          refine Ok.jn (P := fun b => b = true ↔ (k.1 = 5 ∨ k.1 = 6)) (Ok.ite (fun c => Ok.ret (by simpa using Or.inl (by simpa using c))) fun c => Ok.ret (by have : ¬ k.1 = 5 := by simpa using c
                                                                                                                                                               simp [this])) fun b hb => ?_
          refine Ok.ite (fun c3 => ?_) fun c3 => ?_
          · have hk3 := hb.1 c3
            refine Ok.bind (next_ok p3 (by omega)) fun w hw2 => Ok.ret ⟨?_, rfl, hw2.2.2⟩
            exact ⟨by show 0 ≤ c; omega, by show c ≤ 1099511627776; omega, p1, by show pl.1 ≤ y.1 - 1; omega, .inr (.inr (.inr (.inl ⟨hk3, hw2.1, by show w.1 ≤ 63; omega, rfl, rfl, rfl⟩)))⟩
          · have hk3 : ¬ (k.1 = 5 ∨ k.1 = 6) := fun h => by rw [hb.2 h] at c3; cases c3
            refine Ok.ite (fun c4 => ?_) fun c4 => ?_
            · have c4 : k.1 = 7 := by simpa using c4
              refine Ok.bind (next_ok p3 (by omega)) fun w hw2 => Ok.ite (fun _ => Ok.ret hw2.2.2) fun c5 => Ok.ret ⟨?_, rfl, hw2.2.2⟩
              have c5 : ¬ w.1 = pl.1 := by simpa using c5
              have hw3 := hw2.2.1
              rw [s1] at hw3
              exact ⟨by show 0 ≤ c; omega, by show c ≤ 1099511627776; omega, p1, by show pl.1 ≤ y.1 - 1; omega, .inr (.inr (.inr (.inr ⟨c4, hw2.1, by show w.1 ≤ y.1 - 1; omega, c5, rfl, rfl, rfl⟩)))⟩
            · have c4 : ¬ k.1 = 7 := by simpa using c4
              refine Ok.ret ⟨?_, rfl, p3⟩
              exact ⟨by show 0 ≤ c; omega, by show c ≤ 1099511627776; omega, p1, by show pl.1 ≤ y.1 - 1; omega, .inr (.inr (.inl ⟨by show k.1 = 4; omega, rfl, rfl, rfl, rfl⟩))⟩
    · cases o with
      | nx j => exact push j.1 j.2 ho.1 ho.2.1 ho.2.2
      | ex r =>
        refine Ok.ret ⟨s1, by simp; omega, fun e he => ⟨(s3 e he).1, by simp [(s3 e he).2]⟩, s4, ho⟩
  · obtain ⟨s1, s2, s3, s4, s5⟩ := hs
    refine ⟨s1, s2, fun e he => ⟨(s3 e he).1, ?_⟩, s4, s5⟩
    have := z3 _ (s3 e he).2
    omega
  · obtain ⟨s1, s2, s3, s4, s5⟩ := hs
    obtain ⟨y1, y2, y3⟩ := hy
    refine ⟨⟨?_, ?_, ?_, fun e he => ?_, s4⟩, ?_, ?_, fun e he => (s3 e he).2, s5⟩ <;> simp only [s1]
    · omega
    · omega
    · omega
    · exact (s3 e he).1
    · omega
    · omega
end Go.Ab
