/- Rights: what is reached, and the power of a credential. -/
import Derived.Test.YtopbblhkapgdkaaDoorPL31a
set_option linter.all false
set_option linter.all false
namespace Go.Ab
open Go.Proofs

/-! ### right rights -/
def gOK (x : GRights) (g : GGrant) : Prop := (0 ≤ g.Credential ∧ g.Credential ≤ x.Credentials - 1) ∧ (0 ≤ g.Resource ∧ g.Resource ≤ x.Resources - 1) ∧ 1 ≤ g.Right ∧ g.Right ≤ 3
def sOK (x : GRights) (s : GStore) : Prop := (0 ≤ s.Credential ∧ s.Credential ≤ x.Credentials - 1) ∧ 0 ≤ s.Resource ∧ s.Resource ≤ x.Resources - 1
def mOK (x : GRights) (m : GMint) : Prop := (0 ≤ m.From ∧ m.From ≤ x.Credentials - 1) ∧ 0 ≤ m.To ∧ m.To ≤ x.Credentials - 1
structure GoodR (x : GRights) : Prop where
  c0 : 0 ≤ x.Credentials
  c1 : x.Credentials ≤ 24
  r0 : 0 ≤ x.Resources
  r1 : x.Resources ≤ 24
  gl : x.Grants.length ≤ 100
  sl : x.Stores.length ≤ 100
  ml : x.Mints.length ≤ 100
  gr : ∀ g ∈ x.Grants, gOK x g
  st : ∀ s ∈ x.Stores, sOK x s
  mi : ∀ m ∈ x.Mints, mOK x m
theorem ramong_eq (n lo hi : Int) : F_rights_among n lo hi = some (decide (lo ≤ n ∧ n ≤ hi)) := by simp [F_rights_among, grp]
theorem cred_eq (x : GRights) (c : Int) (h1 : 0 ≤ x.Credentials) (h2 : x.Credentials ≤ 24) : F_rights_credential x c = some (decide (0 ≤ c ∧ c ≤ x.Credentials - 1)) := by
  simp [F_rights_credential, ramong_eq, chk_true (in64_sm (n := x.Credentials - 1) (by omega) (by omega))]
theorem res_eq (x : GRights) (r : Int) (h1 : 0 ≤ x.Resources) (h2 : x.Resources ≤ 24) : F_rights_resource x r = some (decide (0 ≤ r ∧ r ≤ x.Resources - 1)) := by
  simp [F_rights_resource, ramong_eq, chk_true (in64_sm (n := x.Resources - 1) (by omega) (by omega))]
/-- a search for the first one -/
theorem find_neg {α : Type} {body : Int → α → Unit → Option (Fl Unit Int)} (p : α → Prop) [DecidablePred p] (h : ∀ k x, body k x () = some (if p x then .ex k else .nx ())) : ∀ (xs : List α) (k : Int), 0 ≤ k →
    ∃ o, forL body xs k () = some o ∧ ((∃ x ∈ xs, p x) → ∃ r, o = .ex r ∧ 0 ≤ r) ∧ ((∀ x ∈ xs, ¬ p x) → o = .nx ())
  | [], k, hk => ⟨.nx (), rfl, fun ⟨x, hx, _⟩ => by simp at hx, fun _ => rfl⟩
  | x :: r, k, hk => by
    simp only [forL, h]
    by_cases c : p x
    · simp only [if_pos c, Option.bind_some, Fl_ex]
      exact ⟨_, rfl, fun _ => ⟨k, rfl, hk⟩, fun hn => absurd c (hn x (by simp))⟩
    · simp only [if_neg c, Option.bind_some, Fl_nx]
      obtain ⟨o, h1, h2, h3⟩ := find_neg p h r (k + 1) (by omega)
      refine ⟨o, h1, fun ⟨y, hy, hp⟩ => ?_, fun hn => h3 fun y hy => hn y (by simp [hy])⟩
      rcases List.mem_cons.1 hy with rfl | hy
      · exact absurd hp c
      · exact h2 ⟨y, hy, hp⟩
theorem contains_of {α : Type} {body : Int → α → Unit → Option (Fl Unit Int)} (p : α → Prop) [DecidablePred p] (xs : List α) [Decidable (∃ x ∈ xs, p x)] (h : ∀ k x, body k x () = some (if p x then .ex k else .nx ())) :
    (((forL body xs 0 ()).bind fun o => o.elim (fun _ => some (-1)) fun r => some r).bind fun y => some (decide (0 ≤ y))) = some (decide (∃ x ∈ xs, p x)) := by
  obtain ⟨o, h1, h2, h3⟩ := find_neg p h xs 0 (Int.le_refl 0)
  rw [h1]
  by_cases c : ∃ x ∈ xs, p x
  · obtain ⟨r, rfl, hr⟩ := h2 c
    simp only [Option.bind_some, Fl_ex, decide_eq_true hr, decide_eq_true c]
  · have := h3 fun x hx hp => c ⟨x, hx, hp⟩
    subst this
    simp only [Option.bind_some, Fl_nx, decide_eq_false c]
    rfl
open Classical in
theorem rcheck_eq (x : GRights) : F_rights_Check x = some (if GoodR x then 0 else 32) := by
  simp only [F_rights_Check, ramong_eq, Option.bind_some, grp]
  by_cases h1 : 0 ≤ x.Credentials ∧ x.Credentials ≤ 24
  · by_cases h2 : 0 ≤ x.Resources ∧ x.Resources ≤ 24
    · by_cases h3 : x.Grants.length ≤ 100 ∧ x.Stores.length ≤ 100 ∧ x.Mints.length ≤ 100
      · have e3 : (decide (100 < (x.Grants.length : Int)) || decide (100 < (x.Stores.length : Int)) || decide (100 < (x.Mints.length : Int))) = false := by
          simp only [Bool.or_eq_false_iff, decide_eq_false_iff_not]; omega
        have g1 : F_slices_ContainsFunc_api_Grant_api_Grant_of_rights_Check_1 x.Grants x = some (decide (∃ g ∈ x.Grants, ¬ gOK x g)) := by
          refine contains_of (fun g => ¬ gOK x g) x.Grants fun k g => ?_
          simp only [F_slices_IndexFunc_api_Grant_api_Grant_of_rights_Check_1_L1, F_rights_Check_1, cred_eq x _ h1.1 h1.2, res_eq x _ h2.1 h2.2, ramong_eq, Option.bind_some, jn]
          unfold gOK
          by_cases c1 : 0 ≤ g.Credential ∧ g.Credential ≤ x.Credentials - 1 <;> by_cases c2 : 0 ≤ g.Resource ∧ g.Resource ≤ x.Resources - 1 <;> by_cases c3 : 1 ≤ g.Right ∧ g.Right ≤ 3 <;> simp only [c1, c2, c3, decide_true, decide_false, Bool.not_true, Bool.not_false, cond_true, cond_false, Option.bind_some, and_self, and_true, true_and, and_false, false_and, not_true_eq_false, not_false_eq_true, if_true, if_false]
        have g2 : F_slices_ContainsFunc_api_Store_api_Store_of_rights_Check_2 x.Stores x = some (decide (∃ g ∈ x.Stores, ¬ sOK x g)) := by
          refine contains_of (fun g => ¬ sOK x g) x.Stores fun k g => ?_
          simp only [F_slices_IndexFunc_api_Store_api_Store_of_rights_Check_2_L1, F_rights_Check_2, cred_eq x _ h1.1 h1.2, res_eq x _ h2.1 h2.2, ramong_eq, Option.bind_some, jn]
          unfold sOK
          by_cases c1 : 0 ≤ g.Credential ∧ g.Credential ≤ x.Credentials - 1 <;> by_cases c2 : 0 ≤ g.Resource ∧ g.Resource ≤ x.Resources - 1 <;> simp only [c1, c2, decide_true, decide_false, Bool.not_true, Bool.not_false, cond_true, cond_false, Option.bind_some, and_self, and_true, true_and, and_false, false_and, not_true_eq_false, not_false_eq_true, if_true, if_false]
        have g3 : F_slices_ContainsFunc_api_Mint_api_Mint_of_rights_Check_3 x.Mints x = some (decide (∃ g ∈ x.Mints, ¬ mOK x g)) := by
          refine contains_of (fun g => ¬ mOK x g) x.Mints fun k g => ?_
          simp only [F_slices_IndexFunc_api_Mint_api_Mint_of_rights_Check_3_L1, F_rights_Check_3, cred_eq x _ h1.1 h1.2, Option.bind_some, jn]
          unfold mOK
          by_cases c1 : 0 ≤ g.From ∧ g.From ≤ x.Credentials - 1 <;> by_cases c2 : 0 ≤ g.To ∧ g.To ≤ x.Credentials - 1 <;> simp only [c1, c2, decide_true, decide_false, Bool.not_true, Bool.not_false, cond_true, cond_false, Option.bind_some, and_self, and_true, true_and, and_false, false_and, not_true_eq_false, not_false_eq_true, if_true, if_false]
        simp only [h1, h2, decide_true, Bool.not_true, cond_false, e3, g1, g2, g3, Option.bind_some, and_self]
        by_cases q1 : ∃ g ∈ x.Grants, ¬ gOK x g
        · have : ¬ GoodR x := fun h => by obtain ⟨g, hg, hn⟩ := q1; exact hn (h.gr g hg)
          simp only [decide_eq_true q1, cond_true, if_neg this]
        · by_cases q2 : ∃ g ∈ x.Stores, ¬ sOK x g
          · have : ¬ GoodR x := fun h => by obtain ⟨g, hg, hn⟩ := q2; exact hn (h.st g hg)
            simp only [decide_eq_false q1, decide_eq_true q2, cond_true, cond_false, if_neg this]
          · by_cases q3 : ∃ g ∈ x.Mints, ¬ mOK x g
            · have : ¬ GoodR x := fun h => by obtain ⟨g, hg, hn⟩ := q3; exact hn (h.mi g hg)
              simp only [decide_eq_false q1, decide_eq_false q2, decide_eq_true q3, cond_true, cond_false, if_neg this]
            · have : GoodR x := ⟨h1.1, h1.2, h2.1, h2.2, h3.1, h3.2.1, h3.2.2, fun g hg => Classical.byContradiction fun hn => q1 ⟨g, hg, hn⟩, fun g hg => Classical.byContradiction fun hn => q2 ⟨g, hg, hn⟩, fun g hg => Classical.byContradiction fun hn => q3 ⟨g, hg, hn⟩⟩
              simp only [decide_eq_false q1, decide_eq_false q2, decide_eq_false q3, cond_false, if_pos this]
      · have e3 : (decide (100 < (x.Grants.length : Int)) || decide (100 < (x.Stores.length : Int)) || decide (100 < (x.Mints.length : Int))) = true := by
          simp only [Bool.or_eq_true, decide_eq_true_eq]; omega
        have : ¬ GoodR x := fun h => h3 ⟨h.gl, h.sl, h.ml⟩
        simp only [h1, h2, decide_true, Bool.not_true, cond_false, e3, cond_true, if_neg this, and_self]
    · have : ¬ GoodR x := fun h => h2 ⟨h.r0, h.r1⟩
      simp only [h1, h2, decide_true, decide_false, Bool.not_true, Bool.not_false, cond_false, cond_true, if_neg this, and_self]
  · have : ¬ GoodR x := fun h => h1 ⟨h.c0, h.c1⟩
    simp only [h1, decide_false, Bool.not_false, cond_true, if_neg this]
/-! ### links -/
def leads (x : GRights) (a b : Int) : Prop := (∃ m ∈ x.Mints, m.From = a ∧ m.To = b) ∨ ∃ g ∈ x.Grants, ∃ s ∈ x.Stores, g.Credential = a ∧ s.Resource = g.Resource ∧ s.Credential = b
/-- a link that leads from a credential to another one, as the code sees it -/
def lnkTo (x : GRights) (c : Int) (l : GLink) (b : Int) : Prop := F_rights_follow x c l = some (b, true) ∧ leads x c b
theorem follow_mint {x : GRights} (g : GoodR x) {k : Nat} (hk : k < x.Mints.length) {c : Int} (hf : (x.Mints.getD k default).From = c) : lnkTo x c (GLink.mk 2 (-1) (-1) k) (x.Mints.getD k default).To := by
  have hm := g.ml
  have i1 : in64 ((x.Mints.length : Int) - 1) = true := in64_sm (by omega) (by omega)
  have i2 : inb (k : Int) x.Mints.length = true := inb_iff.2 ⟨by omega, by omega⟩
  have i3 : decide (0 ≤ (k : Int) ∧ (k : Int) ≤ (x.Mints.length : Int) - 1) = true := decide_eq_true (by omega)
  have e : x.Mints.getD k default = x.Mints[k] := by rw [List.getD_eq_getElem?_getD, List.getElem?_eq_getElem hk]; rfl
  refine ⟨?_, .inl ⟨_, by rw [e]; exact List.getElem_mem hk, hf, rfl⟩⟩
  simp only [F_rights_follow, decide_true, Bool.and_self, grp, cond_true, chk_true i1, ramong_eq, i3, Option.bind_some, jn, chk_true i2, Int.toNat_natCast, hf]
theorem follow_store {x : GRights} (g : GoodR x) {i k : Nat} (hi : i < x.Grants.length) (hk : k < x.Stores.length) {c : Int} (hf : (x.Grants.getD i default).Credential = c) (hr : (x.Stores.getD k default).Resource = (x.Grants.getD i default).Resource) :
    lnkTo x c (GLink.mk 1 i k (-1)) (x.Stores.getD k default).Credential := by
  have hm := g.gl
  have hm2 := g.sl
  have i1 : in64 ((x.Grants.length : Int) - 1) = true := in64_sm (by omega) (by omega)
  have j1 : in64 ((x.Stores.length : Int) - 1) = true := in64_sm (by omega) (by omega)
  have i2 : inb (i : Int) x.Grants.length = true := inb_iff.2 ⟨by omega, by omega⟩
  have j2 : inb (k : Int) x.Stores.length = true := inb_iff.2 ⟨by omega, by omega⟩
  have i3 : decide (0 ≤ (i : Int) ∧ (i : Int) ≤ (x.Grants.length : Int) - 1) = true := decide_eq_true (by omega)
  have j3 : decide (0 ≤ (k : Int) ∧ (k : Int) ≤ (x.Stores.length : Int) - 1) = true := decide_eq_true (by omega)
  have e1 : x.Grants.getD i default = x.Grants[i] := by rw [List.getD_eq_getElem?_getD, List.getElem?_eq_getElem hi]; rfl
  have e2 : x.Stores.getD k default = x.Stores[k] := by rw [List.getD_eq_getElem?_getD, List.getElem?_eq_getElem hk]; rfl
  refine ⟨?_, .inr ⟨_, by rw [e1]; exact List.getElem_mem hi, _, by rw [e2]; exact List.getElem_mem hk, hf, hr, rfl⟩⟩
  have n1 : decide ((1 : Int) = 2) = false := rfl
  simp only [F_rights_follow, n1, Bool.false_and, grp, jn, cond_false, Option.bind_some, decide_true, cond_true, chk_true i1, chk_true j1, ramong_eq, i3, j3, chk_true i2, chk_true j2, Int.toNat_natCast, hf, hr]
theorem links_ok {x : GRights} (g : GoodR x) (c : Int) : Ok (F_rights_links x c) fun ls => ls.length ≤ 10100 ∧ (∀ l ∈ ls, ∃ b, lnkTo x c l b) ∧ ∀ b, leads x c b → ∃ l ∈ ls, lnkTo x c l b := by
  have hm := g.ml; have hg := g.gl; have hs := g.sl
  unfold F_rights_links
  refine Ok.bind (Ok.foldI (all := x.Mints) (Q := fun ls => ls.length ≤ 100 ∧ (∀ l ∈ ls, ∃ b, lnkTo x c l b) ∧ ∀ m ∈ x.Mints, m.From = c → ∃ l ∈ ls, lnkTo x c l m.To)
    (fun pre ls => ls.length ≤ pre.length ∧ (∀ l ∈ ls, ∃ b, lnkTo x c l b) ∧ ∀ m ∈ pre, m.From = c → ∃ l ∈ ls, lnkTo x c l m.To) x.Mints [] 0 [] rfl rfl ⟨by simp, by simp, by simp⟩ (fun pre m r s hw hs => ?_) fun s hs => ⟨by omega, hs.2⟩) fun ls1 h1 => ?_
  · obtain ⟨s1, s2, s3⟩ := hs
    have hlen : pre.length < x.Mints.length := by have := congrArg List.length hw; simp at this; omega
    have hx : x.Mints.getD pre.length default = m := by rw [hw]; simp
    unfold F_rights_links_L1
    refine Ok.ite (fun cc => ?_) fun cc => Ok.ret ⟨by simp; omega, s2, fun m' hm' hf => ?_⟩
    · have cc : m.From = c := by simpa using cc
      have hl := follow_mint g hlen (c := c) (by rw [hx]; exact cc)
      rw [hx] at hl
      refine Ok.chk (room_sm (by simp; omega)) (Ok.ret ⟨by simp; omega, fun l hl' => ?_, fun m' hm' hf => ?_⟩)
      · simp only [List.mem_append, List.mem_singleton] at hl'
        rcases hl' with hl' | rfl
        · exact s2 l hl'
        · exact ⟨_, hl⟩
      · simp only [List.mem_append, List.mem_singleton] at hm'
        rcases hm' with hm' | rfl
        · obtain ⟨l, q1, q2⟩ := s3 m' hm' hf
          exact ⟨l, by simp [q1], q2⟩
        · exact ⟨_, by simp, hl⟩
    · simp only [List.mem_append, List.mem_singleton] at hm'
      rcases hm' with hm' | rfl
      · exact s3 m' hm' hf
      · simp [hf] at cc
  · obtain ⟨a1, a2, a3⟩ := h1
    refine Ok.bind (Ok.foldI (all := x.Grants) (Q := fun ls => ls.length ≤ 10100 ∧ (∀ l ∈ ls, ∃ b, lnkTo x c l b) ∧ (∀ l ∈ ls1, l ∈ ls) ∧ ∀ y ∈ x.Grants, ∀ z ∈ x.Stores, y.Credential = c → z.Resource = y.Resource → ∃ l ∈ ls, lnkTo x c l z.Credential)
      (fun pre ls => ls.length ≤ 100 + pre.length * 100 ∧ (∀ l ∈ ls, ∃ b, lnkTo x c l b) ∧ (∀ l ∈ ls1, l ∈ ls) ∧ ∀ y ∈ pre, ∀ z ∈ x.Stores, y.Credential = c → z.Resource = y.Resource → ∃ l ∈ ls, lnkTo x c l z.Credential) x.Grants [] 0 ls1 rfl rfl ⟨by simp; omega, a2, fun _ h => h, by simp⟩ (fun pre y r s hw hs => ?_) fun s hs => ⟨by omega, hs.2⟩) fun ls h => Ok.ret ⟨h.1, h.2.1, fun b hb => ?_⟩
    · obtain ⟨s1, s2, s3, s4⟩ := hs
      have hlen : pre.length < x.Grants.length := by have := congrArg List.length hw; simp at this; omega
      have hx : x.Grants.getD pre.length default = y := by rw [hw]; simp
      unfold F_rights_links_L3
      refine Ok.bind (Ok.foldI (all := x.Stores) (Q := fun ls => ls.length ≤ s.length + 100 ∧ (∀ l ∈ ls, ∃ b, lnkTo x c l b) ∧ (∀ l ∈ s, l ∈ ls) ∧ ∀ z ∈ x.Stores, y.Credential = c → z.Resource = y.Resource → ∃ l ∈ ls, lnkTo x c l z.Credential)
        (fun pre2 ls => ls.length ≤ s.length + pre2.length ∧ (∀ l ∈ ls, ∃ b, lnkTo x c l b) ∧ (∀ l ∈ s, l ∈ ls) ∧ ∀ z ∈ pre2, y.Credential = c → z.Resource = y.Resource → ∃ l ∈ ls, lnkTo x c l z.Credential) x.Stores [] 0 s rfl rfl ⟨by simp, s2, fun _ h => h, by simp⟩ (fun pre2 z r2 s' hw2 hs2 => ?_) fun s' hs' => ⟨by omega, hs'.2⟩) fun ls2 h2 => Ok.ret ?_
      · obtain ⟨t1, t2, t3, t4⟩ := hs2
        have hlen2 : pre2.length < x.Stores.length := by have := congrArg List.length hw2; simp at this; omega
        have hz : x.Stores.getD pre2.length default = z := by rw [hw2]; simp
        unfold F_rights_links_L2
        refine Ok.grp (Ok.ite (fun cc => ?_) fun cc => Ok.ret ⟨by simp; omega, t2, t3, fun z' hz' hf hr => ?_⟩)
        · simp only [Bool.and_eq_true, decide_eq_true_eq] at cc
          have hl := follow_store g hlen hlen2 (c := c) (by rw [hx]; exact cc.1) (by rw [hx, hz]; exact cc.2)
          rw [hz] at hl
          refine Ok.chk (room_sm (by simp; omega)) (Ok.ret ⟨by simp; omega, fun l hl' => ?_, fun l hl' => by simp [t3 l hl'], fun z' hz' hf hr => ?_⟩)
          · simp only [List.mem_append, List.mem_singleton] at hl'
            rcases hl' with hl' | rfl
            · exact t2 l hl'
            · exact ⟨_, hl⟩
          · simp only [List.mem_append, List.mem_singleton] at hz'
            rcases hz' with hz' | rfl
            · obtain ⟨l, q1, q2⟩ := t4 z' hz' hf hr
              exact ⟨l, by simp [q1], q2⟩
            · exact ⟨_, by simp, hl⟩
        · simp only [List.mem_append, List.mem_singleton] at hz'
          rcases hz' with hz' | rfl
          · exact t4 z' hz' hf hr
          · simp [hf, hr] at cc
      · obtain ⟨b1, b2, b3, b4⟩ := h2
        refine ⟨?_, b2, fun l hl => b3 l (s3 l hl), fun y' hy' z hz hf hr => ?_⟩
        · simp only [List.length_append, List.length_singleton]; omega
        · simp only [List.mem_append, List.mem_singleton] at hy'
          rcases hy' with hy' | rfl
          · obtain ⟨l, q1, q2⟩ := s4 y' hy' z hz hf hr
            exact ⟨l, b3 l q1, q2⟩
          · exact b4 z hz hf hr
    · obtain ⟨h1, h2, h3, h4⟩ := h
      rcases hb with ⟨m, hm', hf, rfl⟩ | ⟨y, hy, z, hz, hf, hr, rfl⟩
      · obtain ⟨l, q1, q2⟩ := a3 m hm' hf
        exact ⟨l, h3 l q1, q2⟩
      · exact h4 y hy z hz hf hr
end Go.Ab
