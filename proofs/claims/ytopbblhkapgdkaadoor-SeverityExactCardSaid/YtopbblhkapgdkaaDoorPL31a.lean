/- Chapter 31: levels, the worst one, and the example. -/
import Derived.Test.YtopbblhkapgdkaaDoorL31B
import Derived.Test.YtopbblhkapgdkaaDoorAbHo
set_option linter.all false
set_option linter.all false
namespace Go.Ab
open Go.Proofs

theorem in64_sm {n : Int} (h1 : -1000000000000000 ≤ n) (h2 : n ≤ 1000000000000000) : in64 n = true := in64_iff.2 ⟨by omega, by omega⟩
theorem room_sm {n b : Nat} (h : n * b ≤ 1000000) : room n b = true := room_iff.2 (by omega)
def TOK (t : GTape) : Prop := 0 ≤ t.at_ ∧ t.L.length ≤ 300
theorem next_ok {t : GTape} {n : Int} (h : TOK t) (hn : 0 < n) : Ok (F_made_Tape_Next t n) fun y => 0 ≤ y.1 ∧ y.1 < n ∧ TOK y.2 := by
  unfold F_made_Tape_Next
  refine Ok.ite (fun c => Ok.ret ⟨Int.le_refl 0, hn, h⟩) fun c => ?_
  have c' : t.at_ < t.L.length := by simpa using c
  have h1 := h.1; have h2 := h.2
  refine Ok.chk (inb_iff.2 ⟨h.1, c'⟩) (Ok.chk (in64_sm (by omega) (by omega)) (Ok.chk (divs_iff.2 ⟨Int.emod_nonneg _ (by decide), hn⟩) (Ok.ret ⟨Int.emod_nonneg _ (by omega), Int.emod_lt_of_pos _ hn, ?_, h2⟩)))
  show 0 ≤ t.at_ + 1
  omega
theorem between_ok {t : GTape} {a b : Int} (h : TOK t) (h1 : -1000000 ≤ a) (h2 : a ≤ b) (h3 : b ≤ 1000000) : Ok (F_made_Tape_Between t a b) fun y => a ≤ y.1 ∧ y.1 ≤ b ∧ TOK y.2 := by
  unfold F_made_Tape_Between
  refine Ok.chk (in64_sm (by omega) (by omega)) (Ok.chk (in64_sm (by omega) (by omega)) (Ok.bind (next_ok h (by omega)) fun y hy => Ok.chk (in64_sm (by omega) (by omega)) (Ok.ret ⟨?_, ?_, hy.2.2⟩)))
  · show a ≤ a + y.1; omega
  · show a + y.1 ≤ b; omega
theorem pick_ok {t : GTape} {l : List Int} (h : TOK t) (hl : 0 < l.length) : Ok (F_made_Pick t l) fun y => y.1 ∈ l ∧ TOK y.2 := by
  unfold F_made_Pick
  refine Ok.bind (next_ok h (by omega)) fun y hy => Ok.chk (inb_iff.2 ⟨hy.1, hy.2.1⟩) (Ok.ret ⟨?_, hy.2.2⟩)
  have : y.1.toNat < l.length := by omega
  simp [this]
/-! ### levels -/
def lvl (s : Int) : Int := (if 1 ≤ s then 1 else 0) + (if 100 ≤ s then 1 else 0) + (if 1000 ≤ s then 1 else 0) + (if 10000 ≤ s then 1 else 0)
theorem level_eq (s : Int) : F_severity_Level s = some (lvl s) := by
  have h0 : in64 1 = true := in64_sm (by omega) (by omega)
  have h1 : in64 2 = true := in64_sm (by omega) (by omega)
  have h2 : in64 3 = true := in64_sm (by omega) (by omega)
  have h3 : in64 4 = true := in64_sm (by omega) (by omega)
  unfold lvl
  simp only [F_severity_Level, foldL, F_severity_Level_L1]
  by_cases c1 : 1 ≤ s
  · by_cases c2 : 100 ≤ s
    · by_cases c3 : 1000 ≤ s
      · by_cases c4 : 10000 ≤ s
        · simp [c1, c2, c3, c4, chk, h0, h1, h2, h3]
        · simp [c1, c2, c3, c4, chk, h0, h1, h2, h3]
      · have c4 : ¬ 10000 ≤ s := by omega
        simp [c1, c2, c3, c4, chk, h0, h1, h2, h3]
    · have c3 : ¬ 1000 ≤ s := by omega
      have c4 : ¬ 10000 ≤ s := by omega
      simp [c1, c2, c3, c4, chk, h0, h1, h2, h3]
  · have c2 : ¬ 100 ≤ s := by omega
    have c3 : ¬ 1000 ≤ s := by omega
    have c4 : ¬ 10000 ≤ s := by omega
    simp [c1, c2, c3, c4]
theorem lvl_mono {a b : Int} (h : a ≤ b) : lvl a ≤ lvl b := by
  unfold lvl
  repeat' split
  all_goals omega
theorem lvl_lo (a : Int) : 0 ≤ lvl a ∧ lvl a ≤ 4 := by
  unfold lvl
  repeat' split
  all_goals omega
/-! ### the example -/
theorem asc0 : F_directory_Ascending [0] = some true := by
  have e1 : F_directory_Ascending_L1 [0] 1 = some (.ex (.inl ())) := by kernel_rfl
  unfold F_directory_Ascending
  rw [loop_eq, e1]
  rfl
def exR : GRights := GRights.mk 1 1 [(GGrant.mk 0 0 3)] [] []
theorem ex_chains : F_rights_chains exR 0 = some [(0, [])] := by
  have e1 : F_rights_chains_L2 exR ([0], aput 0 [] []) = some (.nx ([], [(0, [])])) := by kernel_rfl
  have e2 : F_rights_chains_L2 exR ([], [(0, [])]) = some (.ex [(0, [])]) := by kernel_rfl
  unfold F_rights_chains
  rw [loop_eq, e1]; simp only [Option.bind_some, Fl_nx]
  rw [loop_eq, e2]; rfl
theorem ex_reach : F_rights_Reach exR 0 = some [0] := by
  have e1 : F_rights_Check exR = some 0 := by kernel_rfl
  have e2 : F_rights_credential exR 0 = some true := by kernel_rfl
  simp only [F_rights_Reach, e1, e2, ex_chains, Option.bind_some, decide_true, Bool.not_true, cond_false]
  refine permL_of fun l hl => ?_
  rw [List.perm_singleton.1 hl]
  have e3 : foldL F_rights_Reach_L1 [((0 : Int), ([] : List GLink))] 0 [] = some [0] := by kernel_rfl
  rw [e3]
  simp [sortI]
theorem ex_closed : F_rights_Closed exR [0] = some true := by
  have e1 : F_rights_Check exR = some 0 := by kernel_rfl
  have e2 : F_slices_ContainsFunc_int_int_of_rights_Closed_1 [0] exR = some false := by kernel_rfl
  have e3 : forL (F_rights_Closed_L2 exR [0]) [0] 0 () = some (.nx ()) := by kernel_rfl
  simp only [F_rights_Closed, e1, e2, e3, asc0, Option.bind_some, grp]
  rfl
theorem ex_power : F_rights_Power exR 0 = some [3] := by
  have e1 : roomI exR.Resources exR.Resources 8 = true := by kernel_rfl
  have e2 : foldL (F_rights_Bound_L1 [0]) exR.Grants 0 (List.replicate exR.Resources.toNat 0) = some [3] := by kernel_rfl
  simp only [F_rights_Power, ex_reach, F_rights_Bound, ex_closed, Option.bind_some, Bool.not_true, cond_false, chk_true e1, e2]
theorem ex_worth : F_severity_Worth exR [50] 0 = some (150, 0) := by
  have e1 : F_rights_Check exR = some 0 := by kernel_rfl
  have e2 : F_slices_ContainsFunc_int_int_of_severity_Worth_1 [50] = some false := by kernel_rfl
  have e3 : foldL (F_severity_Worth_L1 [50]) [3] 0 0 = some 150 := by kernel_rfl
  unfold F_severity_Worth
  rw [e1]
  simp only [Option.bind_some, e2, ex_power, e3, grp]
  rfl
theorem awake_eq : F_law31_awake = some true := by
  have e1 : in64 ((1 : Int) + 1) = true := in64_sm (by omega) (by omega)
  have e2 : in64 (150 * (1 + 1)) = true := in64_sm (by omega) (by omega)
  have ew : F_severity_Worth (GRights.mk 1 1 [(GGrant.mk 0 0 3)] [] []) [50] 0 = some (150, 0) := ex_worth
  have er : F_severity_Rate (GRights.mk 1 1 [(GGrant.mk 0 0 3)] [] []) [50] 0 1 false = some (GSeverity.mk 2 150 2 300, 0) := by
    unfold F_severity_Rate
    rw [ew]
    simp only [Option.bind_some, grp, jn]
    refine Eq.trans (b := chk (in64 (1 + 1)) (chk (in64 (150 * (1 + 1))) ((F_severity_Level (150 * (1 + 1))).bind fun y9 => some (GSeverity.mk y9 150 (1 + 1) (150 * (1 + 1)), 0)))) rfl ?_
    rw [chk_true e1, chk_true e2, level_eq]
    rfl
  unfold F_law31_awake
  rw [er]
  rfl
theorem awake_ok : Ok (F_law31_awake.bind fun y => some y) (· = true) := by rw [awake_eq]; exact ⟨true, rfl, rfl⟩
/-! ### the laws of levels and of the worst one -/
theorem levels_law (a b : Int) : F_law31_SeverityLevels a b = some true := by
  refine Ok.eq ?_
  unfold F_law31_SeverityLevels
  refine Ok.jn (P := fun j : Int × Int => j.1 ≤ j.2) ?_ fun j hj => ?_
  · refine Ok.ite (fun c => Ok.ret ?_) fun c => Ok.ret ?_
    · have : b < a := by simpa using c
      show b ≤ a; omega
    · have : ¬ b < a := by simpa using c
      show a ≤ b; omega
  have h1 := lvl_mono hj
  have h2 := lvl_lo j.1
  have h3 := lvl_lo j.2
  simp only [level_eq, Option.bind_some]
  refine Ok.ite (fun c => by have := of_decide_eq_true c; omega) fun _ => Ok.ite (fun c => by have := of_decide_eq_true c; omega) fun _ => Ok.ite (fun c => by have := of_decide_eq_true c; omega) fun _ => ?_
  have e : forL F_law31_SeverityLevels_L1 [1, 100, 1000, 10000] 0 () = some (.nx ()) := by kernel_rfl
  rw [e]
  exact awake_ok
/-- the place of the worst one of the first ones -/
theorem worst_ok (l : List GSeverity) (hl : l.length ≤ 100) : Ok (F_severity_Worst l) fun r => r.2 = decide (0 < (l.length : Int)) ∧ (0 < l.length → 0 ≤ r.1 ∧ r.1 < l.length ∧ (∀ i : Nat, i < l.length → (l.getD i default).Score ≤ (l.getD r.1.toNat default).Score) ∧ ∀ i : Nat, (i : Int) < r.1 → (l.getD i default).Score < (l.getD r.1.toNat default).Score) := by
  unfold F_severity_Worst
  refine Ok.bind (Ok.foldI (all := l) (Q := fun b : Int => 0 < l.length → 0 ≤ b ∧ b < l.length ∧ (∀ i : Nat, i < l.length → (l.getD i default).Score ≤ (l.getD b.toNat default).Score) ∧ ∀ i : Nat, (i : Int) < b → (l.getD i default).Score < (l.getD b.toNat default).Score)
    (fun pre (b : Int) => 0 ≤ b ∧ (b < pre.length ∨ pre = [] ∧ b = 0) ∧ (∀ i : Nat, i < pre.length → (l.getD i default).Score ≤ (l.getD b.toNat default).Score) ∧ ∀ i : Nat, (i : Int) < b → (l.getD i default).Score < (l.getD b.toNat default).Score) l [] 0 0 rfl rfl ⟨by omega, .inr ⟨rfl, rfl⟩, by simp, fun i hi => by omega⟩ (fun pre x r s hw hs => ?_) fun s hs hp => ?_) fun b hb => Ok.ret ⟨rfl, hb⟩
  · obtain ⟨h1, h2, h3, h4⟩ := hs
    have hlen : pre.length < l.length := by have := congrArg List.length hw; simp at this; omega
    have hx : l.getD pre.length default = x := by rw [hw]; simp
    have hsl : s < l.length := by
      rcases h2 with h2 | ⟨h2, h5⟩
      · omega
      · omega
    unfold F_severity_Worst_L1
    refine Ok.chk (inb_iff.2 ⟨h1, hsl⟩) (Ok.ite (fun c => Ok.ret ?_) fun c => Ok.ret ?_)
    · have c : (l.getD s.toNat default).Score < x.Score := by simpa using c
      refine ⟨by omega, .inl (by simp; omega), fun i hi => ?_, fun i hi => ?_⟩
      · simp only [List.length_append, List.length_singleton] at hi
        simp only [Int.toNat_natCast, hx]
        by_cases e : i = pre.length
        · rw [e, hx]; exact Int.le_refl _
        · have := h3 i (by omega); omega
      · simp only [Int.toNat_natCast, hx]
        have := h3 i (by omega); omega
    · have c : ¬ (l.getD s.toNat default).Score < x.Score := by simpa using c
      refine ⟨h1, .inl ?_, fun i hi => ?_, h4⟩
      · simp only [List.length_append, List.length_singleton]
        rcases h2 with h2 | ⟨h2, h5⟩
        · omega
        · omega
      · simp only [List.length_append, List.length_singleton] at hi
        by_cases e : i = pre.length
        · rw [e, hx]; omega
        · exact h3 i (by omega)
  · obtain ⟨h1, h2, h3, h4⟩ := hs
    refine ⟨h1, ?_, h3, h4⟩
    rcases h2 with h2 | ⟨h2, h5⟩
    · exact h2
    · rw [h2] at hp; simp at hp
theorem rlevel_ok (s : Int) : ∃ y, F_ref31_Level s = some y := by
  have e : F_ref31_Level s = F_severity_Level s := rfl
  rw [e]; exact ⟨_, level_eq s⟩
theorem worst_law (l : List Int) : F_law31_SeverityWorst l = some true := by
  refine Ok.eq ?_
  unfold F_law31_SeverityWorst
  refine Ok.ite (fun _ => awake_ok) fun c => ?_
  have hl : l.length ≤ 300 := by have := of_decide_eq_false c; omega
  refine Ok.bind (next_ok (t := ⟨l, 0⟩) ⟨Int.le_refl 0, hl⟩ (by omega)) fun k hk => ?_
  refine Ok.bind (Ok.loop (Q := fun r : List GSeverity => r.length ≤ 8) (fun x => 0 ≤ x.1 ∧ (x.2.1.length : Int) + x.1 ≤ 8 ∧ TOK x.2.2) (fun x => x.1.toNat) (fun x hx => ?_) _ ⟨hk.1, by show ((0 : Nat) : Int) + k.1 ≤ 8; omega, hk.2.2⟩) fun all hall => ?_
  · obtain ⟨n, out, t⟩ := x
    obtain ⟨h1, h2, h3⟩ := hx
    simp only at h1 h2 h3
    unfold F_law31_SeverityWorst_L1
    refine Ok.ite (fun c => ?_) fun c => Ok.ret (by simp only [Fl.elim]; omega)
    have c : 0 < n := by simpa using c
    refine Ok.bind (next_ok h3 (by omega)) fun a ha => Ok.bind (next_ok ha.2.2 (by omega)) fun b hb => ?_
    have hab : 0 ≤ a.1 * b.1 ∧ a.1 * b.1 ≤ 18 := by
      obtain ⟨a1, a2, _⟩ := ha
      obtain ⟨b1, b2, _⟩ := hb
      have h5 : a.1 ≤ 5 := by omega
      have h6 : b.1 ≤ 3 := by omega
      refine ⟨Int.mul_nonneg a1 b1, ?_⟩
      have := Int.mul_le_mul h5 h6 b1 (by omega)
      omega
    refine Ok.chk (in64_sm (by omega) (by omega)) ?_
    obtain ⟨y, hy⟩ := rlevel_ok (a.1 * b.1)
    rw [hy]
    refine Ok.chk (room_sm (by simp; omega)) (Ok.chk (in64_sm (by simp only; omega) (by simp only; omega)) (Ok.ret ?_))
    exact ⟨⟨by show 0 ≤ n - 1; omega, by simp; omega, hb.2.2⟩, by show (n - 1).toNat < n.toNat; omega⟩
  · refine Ok.bind (worst_ok all (by omega)) fun w hw => ?_
    rw [hw.1]
    simp only [beq_self_eq_true, Bool.not_true, cond_false]
    refine Ok.bind (Ok.forI (all := all) (Q := fun o => o = .nx ()) (fun _ _ => True) all [] 0 () rfl rfl trivial (fun pre x r s hwh _ => ?_) fun s _ => rfl) fun o ho => by subst ho; exact awake_ok
    have hlen : pre.length < all.length := by have := congrArg List.length hwh; simp at this; omega
    have hx : all.getD pre.length default = x := by rw [hwh]; simp
    obtain ⟨w1, w2, w3, w4⟩ := hw.2 (by omega)
    unfold F_law31_SeverityWorst_L2
    refine Ok.ite (fun c => by have := of_decide_eq_true c; omega) fun _ => Ok.ite (fun c => by have := of_decide_eq_true c; omega) fun _ => Ok.chk (inb_iff.2 ⟨w1, w2⟩) ?_
    have h3 := w3 pre.length hlen
    rw [hx] at h3
    refine Ok.ite (fun c => by have := of_decide_eq_true c; omega) fun _ => Ok.ite (fun c => Ok.chk (inb_iff.2 ⟨w1, w2⟩) (Ok.ite (fun c2 => ?_) fun _ => Ok.ret trivial)) fun _ => Ok.ret trivial
    have c := of_decide_eq_true c
    have c2 := of_decide_eq_true c2
    have h4 := w4 pre.length c
    rw [hx] at h4
    omega
end Go.Ab
