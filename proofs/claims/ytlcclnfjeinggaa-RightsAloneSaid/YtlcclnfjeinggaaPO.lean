/- Chapter 31: levels, the worst one, and the example. -/
import Derived.Test.YtlcclnfjeinggaaLC
import Derived.Test.YtlcclnfjeinggaaAbHo
set_option linter.all false
set_option linter.all false
namespace Go.Ab
open Go.Proofs
theorem in64_sm {n : Int} (h1 : -1000000000000000 ≤ n) (h2 : n ≤ 1000000000000000) : in64 n = true := in64_iff.2 ⟨by omega, by omega⟩
theorem room_sm {n b : Nat} (h : n * b ≤ 1000000) : room n b = true := room_iff.2 (by omega)
def TOK (t : GTape) : Prop := 0 ≤ t.at_ ∧ t.L.length ≤ 300
theorem next_ok {t : GTape} {n : Int} (h : TOK t) (hn : 0 < n) : Ok (F_2 t n) fun y => 0 ≤ y.1 ∧ y.1 < n ∧ TOK y.2 := by
 unfold F_2
 refine Ok.ite (fun c => Ok.ret ⟨Int.le_refl 0, hn, h⟩) fun c => ?_
 have c' : t.at_ < t.L.length := by simpa using c
 have h1 := h.1; have h2 := h.2
 refine Ok.chk (inb_iff.2 ⟨h.1, c'⟩) (Ok.chk (in64_sm (by omega) (by omega)) (Ok.chk (divs_iff.2 ⟨Int.emod_nonneg _ (by decide), hn⟩) (Ok.ret ⟨Int.emod_nonneg _ (by omega), Int.emod_lt_of_pos _ hn, ?_, h2⟩)))
 show 0 ≤ t.at_ + 1
 omega
theorem between_ok {t : GTape} {a b : Int} (h : TOK t) (h1 : -1000000 ≤ a) (h2 : a ≤ b) (h3 : b ≤ 1000000) : Ok (F_j t a b) fun y => a ≤ y.1 ∧ y.1 ≤ b ∧ TOK y.2 := by
 unfold F_j
 refine Ok.chk (in64_sm (by omega) (by omega)) (Ok.chk (in64_sm (by omega) (by omega)) (Ok.bind (next_ok h (by omega)) fun y hy => Ok.chk (in64_sm (by omega) (by omega)) (Ok.ret ⟨?_, ?_, hy.2.2⟩)))
 ·show a ≤ a + y.1; omega
 ·show a + y.1 ≤ b; omega
end Go.Ab
namespace Go.Ab
open Go.Proofs
def gOK (x : GRights) (g : GGrant) : Prop := (0 ≤ g.Credential ∧ g.Credential ≤ x.Credentials - 1) ∧ (0 ≤ g.Resource ∧ g.Resource ≤ x.Resources - 1) ∧ 1 ≤ g.Right ∧ g.Right ≤ 3
def sOK (x : GRights) (s : GStore) : Prop := (0 ≤ s.Credential ∧ s.Credential ≤ x.Credentials - 1) ∧ 0 ≤ s.Resource ∧ s.Resource ≤ x.Resources - 1
def mOK (x : GRights) (m : GMint) : Prop := (0 ≤ m.From ∧ m.From ≤ x.Credentials - 1) ∧ 0 ≤ m.To ∧ m.To ≤ x.Credentials - 1
structure GoodR (x : GRights) : Prop where
 c0 : 0 ≤ x.Credentials
 c1 : x.Credentials ≤ 24
 r0 : 0 ≤ x.Resources
 r1 : x.Resources ≤ 24
 gl : x.Grants.length ≤ 100
 sl : x.Stores.length ≤ 100
 ml : x.Mints.length ≤ 100
 gr : ∀ g ∈ x.Grants, gOK x g
 st : ∀ s ∈ x.Stores, sOK x s
 mi : ∀ m ∈ x.Mints, mOK x m
theorem ramong_eq (n lo hi : Int) : F_0 n lo hi = some (decide (lo ≤ n ∧ n ≤ hi)) := by simp [F_0, grp]
theorem cred_eq (x : GRights) (c : Int) (h1 : 0 ≤ x.Credentials) (h2 : x.Credentials ≤ 24) : F_3 x c = some (decide (0 ≤ c ∧ c ≤ x.Credentials - 1)) := by
 simp [F_3, ramong_eq, chk_true (in64_sm (n := x.Credentials - 1) (by omega) (by omega))]
theorem res_eq (x : GRights) (r : Int) (h1 : 0 ≤ x.Resources) (h2 : x.Resources ≤ 24) : F_f x r = some (decide (0 ≤ r ∧ r ≤ x.Resources - 1)) := by
 simp [F_f, ramong_eq, chk_true (in64_sm (n := x.Resources - 1) (by omega) (by omega))]
theorem find_neg {α : Type} {body : Int → α → Unit → Option (Fl Unit Int)} (p : α → Prop) [DecidablePred p] (h : ∀ k x, body k x () = some (if p x then .ex k else .nx ())) : ∀ (xs : List α) (k : Int),0 ≤ k →
  ∃ o, forL body xs k () = some o ∧ ((∃ x ∈ xs, p x) → ∃ r, o = .ex r ∧ 0 ≤ r) ∧ ((∀ x ∈ xs, ¬ p x) → o = .nx ())
 | [], k, hk => ⟨.nx (), rfl, fun ⟨x, hx, _⟩ => by simp at hx, fun _ => rfl⟩
 | x :: r, k, hk => by
  simp only [forL, h]
  by_cases c : p x
  ·simp only [if_pos c, Option.bind_some, Fl_ex]
   exact ⟨_, rfl, fun _ => ⟨k, rfl, hk⟩, fun hn => absurd c (hn x (by simp))⟩
  ·simp only [if_neg c, Option.bind_some, Fl_nx]
   obtain ⟨o, h1, h2, h3⟩ := find_neg p h r (k + 1) (by omega)
   refine ⟨o, h1, fun ⟨y, hy, hp⟩ => ?_, fun hn => h3 fun y hy => hn y (by simp [hy])⟩
   rcases List.mem_cons.1 hy with rfl | hy
   ·exact absurd hp c
   ·exact h2 ⟨y, hy, hp⟩
theorem contains_of {α : Type} {body : Int → α → Unit → Option (Fl Unit Int)} (p : α → Prop) [DecidablePred p] (xs : List α) [Decidable (∃ x ∈ xs, p x)] (h : ∀ k x, body k x () = some (if p x then .ex k else .nx ())) :
  (((forL body xs 0 ()).bind fun o => o.elim (fun _ => some (-1)) fun r => some r).bind fun y => some (decide (0 ≤ y))) = some (decide (∃ x ∈ xs, p x)) := by
 obtain ⟨o, h1, h2, h3⟩ := find_neg p h xs 0 (Int.le_refl 0)
 rw [h1]
 by_cases c : ∃ x ∈ xs, p x
 ·obtain ⟨r, rfl, hr⟩ := h2 c
  simp only [Option.bind_some, Fl_ex, decide_eq_true hr, decide_eq_true c]
 ·have := h3 fun x hx hp => c ⟨x, hx, hp⟩
  subst this
  simp only [Option.bind_some, Fl_nx, decide_eq_false c]
  rfl
open Classical in
theorem rcheck_eq (x : GRights) : F_7 x = some (if GoodR x then 0 else 32) := by
 simp only [F_7, ramong_eq, Option.bind_some, grp]
 by_cases h1 : 0 ≤ x.Credentials ∧ x.Credentials ≤ 24
 ·by_cases h2 : 0 ≤ x.Resources ∧ x.Resources ≤ 24
  ·by_cases h3 : x.Grants.length ≤ 100 ∧ x.Stores.length ≤ 100 ∧ x.Mints.length ≤ 100
   ·have e3 : (decide (100 < (x.Grants.length : Int)) || decide (100 < (x.Stores.length : Int)) || decide (100 < (x.Mints.length : Int))) = false := by
     simp only [Bool.or_eq_false_iff, decide_eq_false_iff_not]; omega
    have g1 : F_s x.Grants x = some (decide (∃ g ∈ x.Grants, ¬ gOK x g)) := by
     refine contains_of (fun g => ¬ gOK x g) x.Grants fun k g => ?_
     simp only [F_13, F_a, cred_eq x _ h1.1 h1.2, res_eq x _ h2.1 h2.2, ramong_eq, Option.bind_some, jn]
     unfold gOK
     by_cases c1 : 0 ≤ g.Credential ∧ g.Credential ≤ x.Credentials - 1 <;> by_cases c2 : 0 ≤ g.Resource ∧ g.Resource ≤ x.Resources - 1 <;> by_cases c3 : 1 ≤ g.Right ∧ g.Right ≤ 3 <;> simp only [c1, c2, c3, decide_true, decide_false, Bool.not_true, Bool.not_false, cond_true, cond_false, Option.bind_some, and_self, and_true, true_and, and_false, false_and, not_true_eq_false, not_false_eq_true, if_true, if_false]
    have g2 : F_t x.Stores x = some (decide (∃ g ∈ x.Stores, ¬ sOK x g)) := by
     refine contains_of (fun g => ¬ sOK x g) x.Stores fun k g => ?_
     simp only [F_15, F_b, cred_eq x _ h1.1 h1.2, res_eq x _ h2.1 h2.2, ramong_eq, Option.bind_some, jn]
     unfold sOK
     by_cases c1 : 0 ≤ g.Credential ∧ g.Credential ≤ x.Credentials - 1 <;> by_cases c2 : 0 ≤ g.Resource ∧ g.Resource ≤ x.Resources - 1 <;> simp only [c1, c2, decide_true, decide_false, Bool.not_true, Bool.not_false, cond_true, cond_false, Option.bind_some, and_self, and_true, true_and, and_false, false_and, not_true_eq_false, not_false_eq_true, if_true, if_false]
    have g3 : F_v x.Mints x = some (decide (∃ g ∈ x.Mints, ¬ mOK x g)) := by
     refine contains_of (fun g => ¬ mOK x g) x.Mints fun k g => ?_
     simp only [F_17, F_u, cred_eq x _ h1.1 h1.2, Option.bind_some, jn]
     unfold mOK
     by_cases c1 : 0 ≤ g.From ∧ g.From ≤ x.Credentials - 1 <;> by_cases c2 : 0 ≤ g.To ∧ g.To ≤ x.Credentials - 1 <;> simp only [c1, c2, decide_true, decide_false, Bool.not_true, Bool.not_false, cond_true, cond_false, Option.bind_some, and_self, and_true, true_and, and_false, false_and, not_true_eq_false, not_false_eq_true, if_true, if_false]
    simp only [h1, h2, decide_true, Bool.not_true, cond_false, e3, g1, g2, g3, Option.bind_some, and_self]
    by_cases q1 : ∃ g ∈ x.Grants, ¬ gOK x g
    ·have : ¬ GoodR x := fun h => by obtain ⟨g, hg, hn⟩ := q1; exact hn (h.gr g hg)
     simp only [decide_eq_true q1, cond_true, if_neg this]
    ·by_cases q2 : ∃ g ∈ x.Stores, ¬ sOK x g
     ·have : ¬ GoodR x := fun h => by obtain ⟨g, hg, hn⟩ := q2; exact hn (h.st g hg)
      simp only [decide_eq_false q1, decide_eq_true q2, cond_true, cond_false, if_neg this]
     ·by_cases q3 : ∃ g ∈ x.Mints, ¬ mOK x g
      ·have : ¬ GoodR x := fun h => by obtain ⟨g, hg, hn⟩ := q3; exact hn (h.mi g hg)
       simp only [decide_eq_false q1, decide_eq_false q2, decide_eq_true q3, cond_true, cond_false, if_neg this]
      ·have : GoodR x := ⟨h1.1, h1.2, h2.1, h2.2, h3.1, h3.2.1, h3.2.2, fun g hg => Classical.byContradiction fun hn => q1 ⟨g, hg, hn⟩, fun g hg => Classical.byContradiction fun hn => q2 ⟨g, hg, hn⟩, fun g hg => Classical.byContradiction fun hn => q3 ⟨g, hg, hn⟩⟩
       simp only [decide_eq_false q1, decide_eq_false q2, decide_eq_false q3, cond_false, if_pos this]
   ·have e3 : (decide (100 < (x.Grants.length : Int)) || decide (100 < (x.Stores.length : Int)) || decide (100 < (x.Mints.length : Int))) = true := by
     simp only [Bool.or_eq_true, decide_eq_true_eq]; omega
    have : ¬ GoodR x := fun h => h3 ⟨h.gl, h.sl, h.ml⟩
    simp only [h1, h2, decide_true, Bool.not_true, cond_false, e3, cond_true, if_neg this, and_self]
  ·have : ¬ GoodR x := fun h => h2 ⟨h.r0, h.r1⟩
   simp only [h1, h2, decide_true, decide_false, Bool.not_true, Bool.not_false, cond_false, cond_true, if_neg this, and_self]
 ·have : ¬ GoodR x := fun h => h1 ⟨h.c0, h.c1⟩
  simp only [h1, decide_false, Bool.not_false, cond_true, if_neg this]
def leads (x : GRights) (a b : Int) : Prop := (∃ m ∈ x.Mints, m.From = a ∧ m.To = b) ∨ ∃ g ∈ x.Grants, ∃ s ∈ x.Stores, g.Credential = a ∧ s.Resource = g.Resource ∧ s.Credential = b
def lnkTo (x : GRights) (c : Int) (l : GLink) (b : Int) : Prop := F_9 x c l = some (b, true) ∧ leads x c b
theorem follow_mint {x : GRights} (g : GoodR x) {k : Nat} (hk : k < x.Mints.length) {c : Int} (hf : (x.Mints.getD k default).From = c) : lnkTo x c (GLink.mk 2 (-1) (-1) k) (x.Mints.getD k default).To := by
 have hm := g.ml
 have i1 : in64 ((x.Mints.length : Int) - 1) = true := in64_sm (by omega) (by omega)
 have i2 : inb (k : Int) x.Mints.length = true := inb_iff.2 ⟨by omega, by omega⟩
 have i3 : decide (0 ≤ (k : Int) ∧ (k : Int) ≤ (x.Mints.length : Int) - 1) = true := decide_eq_true (by omega)
 have e : x.Mints.getD k default = x.Mints[k] := by rw [List.getD_eq_getElem?_getD, List.getElem?_eq_getElem hk]; rfl
 refine ⟨?_, .inl ⟨_, by rw [e]; exact List.getElem_mem hk, hf, rfl⟩⟩
 simp only [F_9, decide_true, Bool.and_self, grp, cond_true, chk_true i1, ramong_eq, i3, Option.bind_some, jn, chk_true i2, Int.toNat_natCast, hf]
theorem follow_store {x : GRights} (g : GoodR x) {i k : Nat} (hi : i < x.Grants.length) (hk : k < x.Stores.length) {c : Int} (hf : (x.Grants.getD i default).Credential = c) (hr : (x.Stores.getD k default).Resource = (x.Grants.getD i default).Resource) :
  lnkTo x c (GLink.mk 1 i k (-1)) (x.Stores.getD k default).Credential := by
 have hm := g.gl
 have hm2 := g.sl
 have i1 : in64 ((x.Grants.length : Int) - 1) = true := in64_sm (by omega) (by omega)
 have j1 : in64 ((x.Stores.length : Int) - 1) = true := in64_sm (by omega) (by omega)
 have i2 : inb (i : Int) x.Grants.length = true := inb_iff.2 ⟨by omega, by omega⟩
 have j2 : inb (k : Int) x.Stores.length = true := inb_iff.2 ⟨by omega, by omega⟩
 have i3 : decide (0 ≤ (i : Int) ∧ (i : Int) ≤ (x.Grants.length : Int) - 1) = true := decide_eq_true (by omega)
 have j3 : decide (0 ≤ (k : Int) ∧ (k : Int) ≤ (x.Stores.length : Int) - 1) = true := decide_eq_true (by omega)
 have e1 : x.Grants.getD i default = x.Grants[i] := by rw [List.getD_eq_getElem?_getD, List.getElem?_eq_getElem hi]; rfl
 have e2 : x.Stores.getD k default = x.Stores[k] := by rw [List.getD_eq_getElem?_getD, List.getElem?_eq_getElem hk]; rfl
 refine ⟨?_, .inr ⟨_, by rw [e1]; exact List.getElem_mem hi, _, by rw [e2]; exact List.getElem_mem hk, hf, hr, rfl⟩⟩
 have n1 : decide ((1 : Int) = 2) = false := rfl
 simp only [F_9, n1, Bool.false_and, grp, jn, cond_false, Option.bind_some, decide_true, cond_true, chk_true i1, chk_true j1, ramong_eq, i3, j3, chk_true i2, chk_true j2, Int.toNat_natCast, hf, hr]
theorem links_ok {x : GRights} (g : GoodR x) (c : Int) : Ok (F_8 x c) fun ls => ls.length ≤ 10100 ∧ (∀ l ∈ ls, ∃ b, lnkTo x c l b) ∧ ∀ b, leads x c b → ∃ l ∈ ls, lnkTo x c l b := by
 have hm := g.ml; have hg := g.gl; have hs := g.sl
 unfold F_8
 refine Ok.bind (Ok.foldI (all := x.Mints) (Q := fun ls => ls.length ≤ 100 ∧ (∀ l ∈ ls, ∃ b, lnkTo x c l b) ∧ ∀ m ∈ x.Mints, m.From = c → ∃ l ∈ ls, lnkTo x c l m.To)
  (fun pre ls => ls.length ≤ pre.length ∧ (∀ l ∈ ls, ∃ b, lnkTo x c l b) ∧ ∀ m ∈ pre, m.From = c → ∃ l ∈ ls, lnkTo x c l m.To) x.Mints [] 0 [] rfl rfl ⟨by simp, by simp, by simp⟩ (fun pre m r s hw hs => ?_) fun s hs => ⟨by omega, hs.2⟩) fun ls1 h1 => ?_
 ·obtain ⟨s1, s2, s3⟩ := hs
  have hlen : pre.length < x.Mints.length := by have := congrArg List.length hw; simp at this; omega
  have hx : x.Mints.getD pre.length default = m := by rw [hw]; simp
  unfold F_19
  refine Ok.ite (fun cc => ?_) fun cc => Ok.ret ⟨by simp; omega, s2, fun m' hm' hf => ?_⟩
  ·have cc : m.From = c := by simpa using cc
   have hl := follow_mint g hlen (c := c) (by rw [hx]; exact cc)
   rw [hx] at hl
   refine Ok.chk (room_sm (by simp; omega)) (Ok.ret ⟨by simp; omega, fun l hl' => ?_, fun m' hm' hf => ?_⟩)
   ·simp only [List.mem_append, List.mem_singleton] at hl'
    rcases hl' with hl' | rfl
    ·exact s2 l hl'
    ·exact ⟨_, hl⟩
   ·simp only [List.mem_append, List.mem_singleton] at hm'
    rcases hm' with hm' | rfl
    ·obtain ⟨l, q1, q2⟩ := s3 m' hm' hf
     exact ⟨l, by simp [q1], q2⟩
    ·exact ⟨_, by simp, hl⟩
  ·simp only [List.mem_append, List.mem_singleton] at hm'
   rcases hm' with hm' | rfl
   ·exact s3 m' hm' hf
   ·simp [hf] at cc
 ·obtain ⟨a1, a2, a3⟩ := h1
  refine Ok.bind (Ok.foldI (all := x.Grants) (Q := fun ls => ls.length ≤ 10100 ∧ (∀ l ∈ ls, ∃ b, lnkTo x c l b) ∧ (∀ l ∈ ls1, l ∈ ls) ∧ ∀ y ∈ x.Grants, ∀ z ∈ x.Stores, y.Credential = c → z.Resource = y.Resource → ∃ l ∈ ls, lnkTo x c l z.Credential)
   (fun pre ls => ls.length ≤ 100 + pre.length * 100 ∧ (∀ l ∈ ls, ∃ b, lnkTo x c l b) ∧ (∀ l ∈ ls1, l ∈ ls) ∧ ∀ y ∈ pre, ∀ z ∈ x.Stores, y.Credential = c → z.Resource = y.Resource → ∃ l ∈ ls, lnkTo x c l z.Credential) x.Grants [] 0 ls1 rfl rfl ⟨by simp; omega, a2, fun _ h => h, by simp⟩ (fun pre y r s hw hs => ?_) fun s hs => ⟨by omega, hs.2⟩) fun ls h => Ok.ret ⟨h.1, h.2.1, fun b hb => ?_⟩
  ·obtain ⟨s1, s2, s3, s4⟩ := hs
   have hlen : pre.length < x.Grants.length := by have := congrArg List.length hw; simp at this; omega
   have hx : x.Grants.getD pre.length default = y := by rw [hw]; simp
   unfold F_1b
   refine Ok.bind (Ok.foldI (all := x.Stores) (Q := fun ls => ls.length ≤ s.length + 100 ∧ (∀ l ∈ ls, ∃ b, lnkTo x c l b) ∧ (∀ l ∈ s, l ∈ ls) ∧ ∀ z ∈ x.Stores, y.Credential = c → z.Resource = y.Resource → ∃ l ∈ ls, lnkTo x c l z.Credential)
    (fun pre2 ls => ls.length ≤ s.length + pre2.length ∧ (∀ l ∈ ls, ∃ b, lnkTo x c l b) ∧ (∀ l ∈ s, l ∈ ls) ∧ ∀ z ∈ pre2, y.Credential = c → z.Resource = y.Resource → ∃ l ∈ ls, lnkTo x c l z.Credential) x.Stores [] 0 s rfl rfl ⟨by simp, s2, fun _ h => h, by simp⟩ (fun pre2 z r2 s' hw2 hs2 => ?_) fun s' hs' => ⟨by omega, hs'.2⟩) fun ls2 h2 => Ok.ret ?_
   ·obtain ⟨t1, t2, t3, t4⟩ := hs2
    have hlen2 : pre2.length < x.Stores.length := by have := congrArg List.length hw2; simp at this; omega
    have hz : x.Stores.getD pre2.length default = z := by rw [hw2]; simp
    unfold F_1a
    refine Ok.grp (Ok.ite (fun cc => ?_) fun cc => Ok.ret ⟨by simp; omega, t2, t3, fun z' hz' hf hr => ?_⟩)
    ·simp only [Bool.and_eq_true, decide_eq_true_eq] at cc
     have hl := follow_store g hlen hlen2 (c := c) (by rw [hx]; exact cc.1) (by rw [hx, hz]; exact cc.2)
     rw [hz] at hl
     refine Ok.chk (room_sm (by simp; omega)) (Ok.ret ⟨by simp; omega, fun l hl' => ?_, fun l hl' => by simp [t3 l hl'], fun z' hz' hf hr => ?_⟩)
     ·simp only [List.mem_append, List.mem_singleton] at hl'
      rcases hl' with hl' | rfl
      ·exact t2 l hl'
      ·exact ⟨_, hl⟩
     ·simp only [List.mem_append, List.mem_singleton] at hz'
      rcases hz' with hz' | rfl
      ·obtain ⟨l, q1, q2⟩ := t4 z' hz' hf hr
       exact ⟨l, by simp [q1], q2⟩
      ·exact ⟨_, by simp, hl⟩
    ·simp only [List.mem_append, List.mem_singleton] at hz'
     rcases hz' with hz' | rfl
     ·exact t4 z' hz' hf hr
     ·simp [hf, hr] at cc
   ·obtain ⟨b1, b2, b3, b4⟩ := h2
    refine ⟨?_, b2, fun l hl => b3 l (s3 l hl), fun y' hy' z hz hf hr => ?_⟩
    ·simp only [List.length_append, List.length_singleton]; omega
    ·simp only [List.mem_append, List.mem_singleton] at hy'
     rcases hy' with hy' | rfl
     ·obtain ⟨l, q1, q2⟩ := s4 y' hy' z hz hf hr
      exact ⟨l, b3 l q1, q2⟩
     ·exact b4 z hz hf hr
  ·obtain ⟨h1, h2, h3, h4⟩ := h
   rcases hb with ⟨m, hm', hf, rfl⟩ | ⟨y, hy, z, hz, hf, hr, rfl⟩
   ·obtain ⟨l, q1, q2⟩ := a3 m hm' hf
    exact ⟨l, h3 l q1, q2⟩
   ·exact h4 y hy z hz hf hr
end Go.Ab
namespace Go.Ab
open Go.Proofs
theorem aget_none {β : Type} {q : Int} : ∀ {m : List (Int × β)}, q ∉ m.map Prod.fst → aget q m = none
 | [], h => rfl
 | (a, b) :: r, h => by
  simp only [List.map_cons, List.mem_cons, not_or] at h
  simp only [aget, if_neg h.1, aget_none h.2]
theorem aget_mem {β : Type} {q : Int} : ∀ {m : List (Int × β)}, q ∈ m.map Prod.fst → ∃ v, aget q m = some v ∧ (q, v) ∈ m
 | (a, b) :: r, h => by
  by_cases e : q = a
  ·exact ⟨b, by simp [aget, e], by simp [e]⟩
  ·have : q ∈ r.map Prod.fst := by simpa [e] using h
   obtain ⟨v, hv, hm⟩ := aget_mem this
   exact ⟨v, by simp [aget, e, hv], by simp [hm]⟩
theorem aput_new {β : Type} {k : Int} {v : β} : ∀ {m : List (Int × β)}, k ∉ m.map Prod.fst → aput k v m = m ++ [(k, v)]
 | [], h => rfl
 | (a, b) :: r, h => by
  simp only [List.map_cons, List.mem_cons, not_or] at h
  simp only [aput, if_neg h.1, aput_new h.2, List.cons_append]
def srtI (l : List Int) : List Int := l.mergeSort fun x y => decide (x ≤ y)
theorem srtI_perm (l : List Int) : (srtI l).Perm l := List.mergeSort_perm _ _
theorem srtI_sorted (l : List Int) : (srtI l).Pairwise (fun x y => x ≤ y) := by
 have := List.pairwise_mergeSort (le := fun x y : Int => decide (x ≤ y)) (fun a b c h1 h2 => by simp at *; omega) (fun a b => by simp; omega) l
 exact this.imp fun h => by simpa using h
theorem srtI_congr {l m : List Int} (h : l.Perm m) : srtI l = srtI m :=
 ((srtI_perm l).trans (h.trans (srtI_perm m).symm)).eq_of_pairwise (fun a b _ _ h1 h2 => by omega) (srtI_sorted l) (srtI_sorted m)
theorem len_range : ∀ {l m : List Int}, l.Nodup → (∀ a ∈ l, a ∈ m) → l.length ≤ m.length
 | [], m, _, _ => by simp
 | x :: r, m, hn, hs => by
  rw [List.nodup_cons] at hn
  have hx := hs x (by simp)
  have : r.length ≤ (m.erase x).length := len_range hn.2 fun a ha => (List.mem_erase_of_ne fun e => hn.1 (by rw [← e]; exact ha)).2 (hs a (by simp [ha]))
  rw [List.length_erase_of_mem hx] at this
  have : 0 < m.length := List.length_pos_of_mem hx
  simp; omega
theorem len24 {l : List Int} (hn : l.Nodup) (h : ∀ a ∈ l, 0 ≤ a ∧ a ≤ 23) : l.length ≤ 24 := by
 have := len_range (m := (List.range 24).map fun i : Nat => (i : Int)) hn fun a ha => by
  have := h a ha
  simp only [List.mem_map, List.mem_range]
  exact ⟨a.toNat, by omega, by omega⟩
 simpa using this
theorem foldL_push {α β : Type} {body : Int → α → List β → Option (List β)} (g : α → β) (b : Nat) (n : Nat) (hn : n * b ≤ 140737488355328) (h : ∀ k x s, body k x s = chk (room (s.length + [g x].length) b) (some (s ++ [g x]))) :
  ∀ (xs : List α) (k : Int) (s : List β), s.length + xs.length ≤ n → foldL body xs k s = some (s ++ xs.map g)
 | [], k, s, hl => by simp [foldL]
 | x :: r, k, s, hl => by
  have : room (s.length + [g x].length) b = true := room_iff.2 (by
   simp at hl ⊢
   exact Nat.le_trans (Nat.mul_le_mul_right b (by omega)) hn)
  simp only [foldL, h, chk_true this, Option.bind_some]
  rw [foldL_push g b n hn h r (k + 1) _ (by simp at hl ⊢; omega)]
  simp
inductive Rch (x : GRights) (c : Int) : Int → Prop
 | refl : Rch x c c
 | step {a b : Int} (h : Rch x c a) (hl : leads x a b) : Rch x c b
theorem leads_range {x : GRights} (g : GoodR x) {a b : Int} (h : leads x a b) : 0 ≤ b ∧ b ≤ x.Credentials - 1 := by
 rcases h with ⟨m, hm, _, rfl⟩ | ⟨_, _, s, hs, _, _, rfl⟩
 ·exact (g.mi m hm).2
 ·exact (g.st s hs).1
theorem rch_range {x : GRights} (g : GoodR x) {c k : Int} (hc : 0 ≤ c ∧ c ≤ x.Credentials - 1) (h : Rch x c k) : 0 ≤ k ∧ k ≤ x.Credentials - 1 := by
 cases h with
 | refl => exact hc
 | step h hl => exact leads_range g hl
theorem clone_eq {s : List GLink} (h : s.length ≤ 1000) : F_k s = some s := by
 have h1 : room (([] : List GLink).length + s.length) 32 = true := room_sm (by simp; omega)
 unfold F_k
 rw [amb_eq]
 ·rw [chk_true h1]; rfl
 ·intro he
  rw [chk_true h1]
  have : s = [] := by simpa using he
  subst this; rfl
inductive Walk (x : GRights) (c : Int) : List GLink → Int → Prop
 | nil : Walk x c [] c
 | snoc {ch : List GLink} {a b : Int} {l : GLink} (h : Walk x c ch a) (hl : lnkTo x a l b) : Walk x c (ch ++ [l]) b
structure Inv (x : GRights) (c : Int) (q : List Int) (o : List (Int × List GLink)) : Prop where
 nd : (o.map Prod.fst).Nodup
 rc : ∀ k ∈ o.map Prod.fst, Rch x c k
 st : c ∈ o.map Prod.fst
 qn : q.Nodup
 qs : ∀ k ∈ q, k ∈ o.map Prod.fst
 cl : ∀ a ∈ o.map Prod.fst, a ∉ q → ∀ b, leads x a b → b ∈ o.map Prod.fst
 ln : ∀ p ∈ o, p.2.length ≤ o.length
 wk : ∀ p ∈ o, Walk x c p.2 p.1
theorem Inv.len {x : GRights} (g : GoodR x) {c : Int} (hc : 0 ≤ c ∧ c ≤ x.Credentials - 1) {q : List Int} {o : List (Int × List GLink)} (h : Inv x c q o) : o.length ≤ 24 := by
 have := len24 h.nd fun a ha => by have := rch_range g hc (h.rc a ha); have := g.c1; omega
 simpa using this
theorem chains_ok {x : GRights} (g : GoodR x) {c : Int} (hc : 0 ≤ c ∧ c ≤ x.Credentials - 1) : Ok (F_6 x c) fun o => (o.map Prod.fst).Nodup ∧ o.length ≤ 24 ∧ (∀ k, k ∈ o.map Prod.fst ↔ Rch x c k) ∧ ∀ p ∈ o, p.2.length ≤ 24 ∧ Walk x c p.2 p.1 := by
 unfold F_6
 refine Ok.bind (Ok.loop (Q := fun o : List (Int × List GLink) => (o.map Prod.fst).Nodup ∧ o.length ≤ 24 ∧ (∀ k, k ∈ o.map Prod.fst ↔ Rch x c k) ∧ ∀ p ∈ o, p.2.length ≤ 24 ∧ Walk x c p.2 p.1) (fun s => Inv x c s.1 s.2) (fun s => 2 * (24 - s.2.length) + s.1.length) (fun s hs => ?_) _ ?_) fun r hr => Ok.ret hr
 ·obtain ⟨q, o⟩ := s
  simp only at hs
  unfold F_c
  refine Ok.ite (fun cq => ?_) fun cq => ?_
  ·have cq : 0 < (q.length : Int) := by simpa using cq
   obtain ⟨q0, rest, rfl⟩ : ∃ a r, q = a :: r := by
    cases q with
    | nil => simp at cq
    | cons a r => exact ⟨a, r, rfl⟩
   refine Ok.chk (inb_iff.2 ⟨by omega, cq⟩) ?_
   have e0 : (q0 :: rest).getD 0 default = q0 := rfl
   simp only [e0]
   refine Ok.bind (links_ok g q0) fun ls hls => ?_
   obtain ⟨l1, l2, l3⟩ := hls
   refine Ok.bind (Ok.foldI (all := ls) (Q := fun s : List Int × List (Int × List GLink) => (∃ news, s.1 = q0 :: (rest ++ news)) ∧ Inv x c s.1 s.2 ∧ 2 * (24 - s.2.length) + s.1.length ≤ 2 * (24 - o.length) + (q0 :: rest).length ∧ ∀ l ∈ ls, ∀ b, lnkTo x q0 l b → b ∈ s.2.map Prod.fst)
    (fun pre s => (∃ news, s.1 = q0 :: (rest ++ news)) ∧ Inv x c s.1 s.2 ∧ 2 * (24 - s.2.length) + s.1.length ≤ 2 * (24 - o.length) + (q0 :: rest).length ∧ ∀ l ∈ pre, ∀ b, lnkTo x q0 l b → b ∈ s.2.map Prod.fst) ls [] 0 _ rfl rfl ⟨⟨[], by simp⟩, hs, Nat.le_refl _, by simp⟩ (fun pre l r s hw hs => ?_) fun s hs => hs) fun s hs => ?_
   ·obtain ⟨q', o'⟩ := s
    obtain ⟨⟨news, hq'⟩, hi, hm, hp⟩ := hs
    simp only at hq' hi hm hp
    subst hq'
    obtain ⟨b, hb, hlb⟩ := l2 l (by rw [hw]; simp)
    have hlen := hi.len g hc
    have hq0 := hi.qs q0 (by simp)
    unfold F_o
    have e1 : (q0 :: (rest ++ news)).getD 0 default = q0 := rfl
    have i0 : inb 0 (q0 :: (rest ++ news)).length = true := inb_iff.2 ⟨by omega, by simp; omega⟩
    simp only [e1, hb, Option.bind_some, chk_true i0]
    by_cases hbk : b ∈ o'.map Prod.fst
    ·obtain ⟨v, hv, _⟩ := aget_mem hbk
     simp only [hv, Option.isSome_some, Bool.not_true, cond_false]
     refine Ok.ret ⟨⟨news, rfl⟩, hi, hm, fun l' hl' b' hb' => ?_⟩
     simp only [List.mem_append, List.mem_singleton] at hl'
     rcases hl' with hl' | rfl
     ·exact hp l' hl' b' hb'
     ·rw [hb'.1] at hb; cases hb; exact hbk
    ·simp only [aget_none hbk, Option.isSome_none, Bool.not_false, cond_true]
     obtain ⟨ch, hch, hchm⟩ := aget_mem hq0
     have hchl := hi.ln _ hchm
     simp only at hchl
     simp only [hch, Option.getD_some, clone_eq (show ch.length ≤ 1000 by omega), Option.bind_some]
     have hql : (q0 :: (rest ++ news)).length ≤ o'.length := by
      have := len_range hi.qn hi.qs
      simpa using this
     refine Ok.chk (room_sm (by simp; omega)) (Ok.chk (room_sm (by simp at hql ⊢; omega)) (Ok.ret ?_))
     have hkeys : (aput b (ch ++ [l]) o').map Prod.fst = o'.map Prod.fst ++ [b] := by rw [aput_new hbk]; simp
     have hol : (aput b (ch ++ [l]) o').length = o'.length + 1 := by rw [aput_new hbk]; simp
     have hbq : b ∉ q0 :: (rest ++ news) := fun h => hbk (hi.qs b h)
     have hrb : Rch x c b := .step (hi.rc q0 hq0) hlb
     have hnew : Inv x c (q0 :: (rest ++ news) ++ [b]) (aput b (ch ++ [l]) o') := by
      refine ⟨?_, ?_, ?_, ?_, ?_, ?_, ?_, ?_⟩
      ·rw [hkeys, List.nodup_append]
       exact ⟨hi.nd, by simp, fun a ha z hz e => by simp at hz; subst hz; subst e; exact hbk ha⟩
      ·intro k hk
       rw [hkeys] at hk
       simp only [List.mem_append, List.mem_singleton] at hk
       rcases hk with hk | rfl
       ·exact hi.rc k hk
       ·exact hrb
      ·rw [hkeys]; simp [hi.st]
      ·rw [List.nodup_append]
       exact ⟨hi.qn, by simp, fun a ha z hz e => by simp at hz; subst hz; subst e; exact hbq ha⟩
      ·intro k hk
       rw [hkeys]
       simp only [List.mem_append, List.mem_singleton] at hk ⊢
       rcases hk with hk | rfl
       ·exact .inl (hi.qs k hk)
       ·exact .inr rfl
      ·intro a ha hna z hz
       rw [hkeys] at ha ⊢
       simp only [List.mem_append, List.mem_singleton] at ha ⊢
       simp only [List.mem_append, List.mem_singleton, not_or] at hna
       rcases ha with ha | rfl
       ·exact .inl (hi.cl a ha hna.1 z hz)
       ·exact absurd rfl hna.2
      ·intro p hpm
       rw [hol]
       rw [aput_new hbk] at hpm
       simp only [List.mem_append, List.mem_singleton] at hpm
       rcases hpm with hpm | rfl
       ·have := hi.ln p hpm; omega
       ·simp; omega
      ·intro p hpm
       rw [aput_new hbk] at hpm
       simp only [List.mem_append, List.mem_singleton] at hpm
       rcases hpm with hpm | rfl
       ·exact hi.wk p hpm
       ·exact .snoc (hi.wk _ hchm) ⟨hb, hlb⟩
     have hlen2 := hnew.len g hc
     refine ⟨⟨news ++ [b], by simp⟩, hnew, ?_, fun l' hl' b' hb' => ?_⟩
     ·simp only [hol, List.length_append, List.length_cons, List.length_nil] at hm ⊢
      rw [hol] at hlen2
      omega
     ·rw [hkeys]
      simp only [List.mem_append, List.mem_singleton] at hl' ⊢
      rcases hl' with hl' | rfl
      ·exact .inl (hp l' hl' b' hb')
      ·rw [hb'.1] at hb; cases hb; exact .inr rfl
   ·obtain ⟨q', o'⟩ := s
    obtain ⟨⟨news, hq'⟩, hi, hm, hp⟩ := hs
    simp only at hq' hi hm hp
    subst hq'
    refine Ok.chk (inc_iff.2 ⟨by omega, by simp; omega, by omega⟩) (Ok.ret ?_)
    have e1 : ((q0 :: (rest ++ news)).drop 1).take ((q0 :: (rest ++ news)).length - 1) = rest ++ news := by
     simp only [List.drop_succ_cons, List.drop_zero, List.length_cons, Nat.add_sub_cancel]
     exact List.take_length
    rw [e1]
    have hqn := hi.qn
    rw [List.nodup_cons] at hqn
    refine ⟨⟨hi.nd, hi.rc, hi.st, hqn.2, fun k hk => hi.qs k (by simp only [List.mem_cons]; exact .inr hk), fun a ha hna b hb => ?_, hi.ln, hi.wk⟩, ?_⟩
    ·by_cases e : a = q0
     ·subst e
      obtain ⟨l, hl, hlk⟩ := l3 b hb
      exact hp l hl b hlk
     ·exact hi.cl a ha (by simp only [List.mem_cons, not_or]; exact ⟨e, hna⟩) b hb
    ·show 2 * (24 - o'.length) + (rest ++ news).length < 2 * (24 - o.length) + (q0 :: rest).length
     simp only [List.length_cons] at hm ⊢
     omega
  ·have : q = [] := by
    have cq : ¬ 0 < (q.length : Int) := by simpa using cq
    exact List.length_eq_zero_iff.1 (by omega)
   subst this
   refine Ok.ret ⟨hs.nd, hs.len g hc, fun k => ⟨hs.rc k, fun h => ?_⟩, fun p hp => ⟨Nat.le_trans (hs.ln p hp) (hs.len g hc), hs.wk p hp⟩⟩
   induction h with
   | refl => exact hs.st
   | step h hl ih => exact hs.cl _ ih (by simp) _ hl
 ·refine ⟨by simp [aput], ?_, by simp [aput], by simp, by simp [aput], ?_, ?_, ?_⟩
  ·intro k hk; simp [aput] at hk; subst hk; exact .refl
  ·intro a ha hna; simp [aput] at ha; simp at hna; exact absurd ha hna
  ·intro p hp; simp [aput] at hp; subst hp; simp [aput]
  ·intro p hp; simp [aput] at hp; subst hp; exact .nil
theorem reach_ok {x : GRights} (g : GoodR x) {c : Int} (hc : 0 ≤ c ∧ c ≤ x.Credentials - 1) : Ok (F_5 x c) fun r => r.Pairwise (fun a b => a < b) ∧ ∀ k, k ∈ r ↔ Rch x c k := by
 classical
 obtain ⟨o, ho, h1, h2, h3, _⟩ := chains_ok g hc
 refine ⟨srtI (o.map Prod.fst), ?_, ?_, fun k => by rw [(srtI_perm _).mem_iff]; exact h3 k⟩
 ·have hcr : F_3 x c = some true := by rw [cred_eq x c g.c0 g.c1]; exact congrArg some (decide_eq_true hc)
  simp only [F_5, rcheck_eq, if_pos g, Option.bind_some, decide_true, Bool.not_true, cond_false, hcr, ho]
  refine permL_of fun l hl => ?_
  have hlen : l.length ≤ 24 := by rw [hl.length_eq]; exact h2
  rw [foldL_push (body := F_1c) (g := Prod.fst) (b := 8) (n := 24) (by omega) (fun k x s => rfl) l 0 [] (by simpa using hlen)]
  simp only [Option.bind_some, List.nil_append, sortI]
  have : (l.map Prod.fst).length < 4611686018427387904 := by simp; omega
  rw [if_pos this]
  exact congrArg some (srtI_congr (hl.map _))
 ·have hn : (srtI (o.map Prod.fst)).Nodup := (srtI_perm _).nodup_iff.2 h1
  have := (srtI_sorted (o.map Prod.fst)).and hn
  exact this.imp fun ⟨a1, a2⟩ => by omega
theorem contains_eq (s : List Int) (v : Int) : F_l s v = some (decide (v ∈ s)) := by
 have h := contains_of (body := F_x v) (fun y => v = y) s fun k y => by
  by_cases c : v = y <;> simp [F_x, c]
 have e : decide (∃ y ∈ s, v = y) = decide (v ∈ s) := decide_eq_decide.2 ⟨fun ⟨y, hy, e⟩ => e ▸ hy, fun h => ⟨v, h, rfl⟩⟩
 rw [e] at h
 exact h
theorem asc_ok {l : List Int} (h : l.Pairwise (fun a b => a < b)) (hl : l.length ≤ 1000) : F_p l = some true := by
 refine Ok.eq ?_
 unfold F_p
 refine Ok.bind (Ok.loop (Q := fun r : Sum Unit Bool => r = .inl ()) (fun i : Int => 1 ≤ i) (fun i : Int => ((l.length : Int) - i).toNat) (fun i hi => ?_) _ (Int.le_refl 1)) fun r hr => by subst hr; exact Ok.ret rfl
 unfold F_1o
 refine Ok.ite (fun c => ?_) fun c => Ok.ret rfl
 have c : i < (l.length : Int) := by simpa using c
 refine Ok.chk (in64_sm (by omega) (by omega)) (Ok.chk (inb_iff.2 ⟨by omega, by omega⟩) (Ok.chk (inb_iff.2 ⟨by omega, by omega⟩) ?_))
 have h1 : (i - 1).toNat < l.length := by omega
 have h2 : i.toNat < l.length := by omega
 have := List.pairwise_iff_getElem.1 h (i - 1).toNat i.toNat h1 h2 (by omega)
 rw [List.getD_eq_getElem?_getD, List.getD_eq_getElem?_getD, List.getElem?_eq_getElem h1, List.getElem?_eq_getElem h2, Option.getD_some, Option.getD_some]
 refine Ok.ite (fun c => by have := of_decide_eq_true c; omega) fun _ => Ok.chk (in64_sm (by omega) (by omega)) (Ok.ret ?_)
 exact ⟨by omega, by omega⟩
theorem closed_ok {x : GRights} (g : GoodR x) {r : List Int} (h0 : r ≠ []) (hp : r.Pairwise (fun a b => a < b)) (hr : ∀ k ∈ r, 0 ≤ k ∧ k ≤ x.Credentials - 1) (hc : ∀ a ∈ r, ∀ b, leads x a b → b ∈ r) : F_g x r = some true := by
 classical
 have hl : r.length ≤ 24 := len24 (hp.imp fun h => by omega) fun a ha => by have := hr a ha; have := g.c1; omega
 have hlp : 0 < r.length := List.length_pos_iff.2 h0
 have e1 : decide ((r.length : Int) = 0) = false := decide_eq_false (by omega)
 have e2 : F_w r x = some (decide (∃ k ∈ r, ¬ (0 ≤ k ∧ k ≤ x.Credentials - 1))) := by
  refine contains_of (fun k => ¬ (0 ≤ k ∧ k ≤ x.Credentials - 1)) r fun k a => ?_
  simp only [F_1d, F_d, cred_eq x _ g.c0 g.c1, Option.bind_some]
  by_cases c : 0 ≤ a ∧ a ≤ x.Credentials - 1 <;> simp [c]
 have e3 : decide (∃ k ∈ r, ¬ (0 ≤ k ∧ k ≤ x.Credentials - 1)) = false := decide_eq_false fun ⟨k, hk, hn⟩ => hn (hr k hk)
 rw [e3] at e2
 refine Ok.eq ?_
 unfold F_g
 simp only [rcheck_eq, if_pos g, Option.bind_some, decide_true, Bool.not_true, Bool.false_or, e1, grp, cond_false, asc_ok hp (by omega), e2]
 refine Ok.bind (Ok.for (Q := fun o => o = .nx ()) (fun _ => True) r 0 () trivial (fun k a s ha _ => ?_) fun s _ => rfl) fun o ho => by subst ho; exact Ok.ret rfl
 unfold F_1h
 refine Ok.bind (links_ok g a) fun ls hls => ?_
 refine Ok.bind (Ok.for (Q := fun o => o = .nx ()) (fun _ => True) ls 0 () trivial (fun k l s hl _ => ?_) fun s _ => rfl) fun o ho => by subst ho; exact Ok.ret trivial
 obtain ⟨b, hb, hlb⟩ := hls.2.1 l hl
 unfold F_1g
 have hbm : decide (b ∈ r) = true := decide_eq_true (hc a ha b hlb)
 simp only [hb, Option.bind_some, contains_eq, hbm, Bool.not_true, cond_false]
 exact Ok.ret trivial
open Classical in
noncomputable def mx (p : Int → Prop) (i : Int) (gs : List GGrant) : Int := gs.foldl (fun m g => if p g.Credential ∧ g.Resource = i then max m g.Right else m) 0
open Classical in
theorem mx_snoc (p : Int → Prop) (i : Int) (gs : List GGrant) (g : GGrant) : mx p i (gs ++ [g]) = if p g.Credential ∧ g.Resource = i then max (mx p i gs) g.Right else mx p i gs := by simp [mx]
theorem bound_ok {x : GRights} (g : GoodR x) {r : List Int} (hr : F_g x r = some true) : Ok (F_m x r) fun b => (b.length : Int) = x.Resources ∧ ∀ i : Nat, i < b.length → b.getD i default = mx (· ∈ r) i x.Grants := by
 classical
 have h0 := g.r0; have h1 := g.r1
 unfold F_m
 rw [hr]
 simp only [Option.bind_some, Bool.not_true, cond_false]
 refine Ok.chk (roomI_iff.2 ⟨h0, Int.le_refl _, by omega⟩) (Ok.bind (Ok.foldI (all := x.Grants) (Q := fun b : List Int => (b.length : Int) = x.Resources ∧ ∀ i : Nat, i < b.length → b.getD i default = mx (· ∈ r) i x.Grants)
  (fun pre b => (b.length : Int) = x.Resources ∧ ∀ i : Nat, i < b.length → b.getD i default = mx (· ∈ r) i pre) x.Grants [] 0 _ rfl rfl ⟨by simp; omega, fun i hi => ?_⟩ (fun pre y q s hw hs => ?_) fun s hs => hs) fun b hb => Ok.ret hb)
 ·simp only [List.length_replicate] at hi
  simp [mx, hi]
 ·obtain ⟨s1, s2⟩ := hs
  have hy := g.gr y (by rw [hw]; simp)
  unfold F_y
  rw [contains_eq]
  refine Ok.bind (P := fun b => b = decide (y.Credential ∈ r)) ⟨_, rfl, rfl⟩ fun b hb => ?_
  subst hb
  refine Ok.ite (fun c => ?_) fun c => Ok.ret ⟨s1, fun i hi => ?_⟩
  ·have c : y.Credential ∈ r := of_decide_eq_true c
   have hb := hy.2.1
   have i0 : inb y.Resource s.length = true := inb_iff.2 ⟨hb.1, by omega⟩
   refine Ok.chk i0 (Ok.chk i0 (Ok.ret ⟨by simpa using s1, fun i hi => ?_⟩))
   simp only [List.length_set] at hi
   rw [mx_snoc, List.getD_eq_getElem?_getD, List.getElem?_set]
   by_cases e : y.Resource.toNat = i
   ·have e2 : y.Resource = (i : Int) := by omega
    rw [if_pos e, if_pos (by omega), Option.getD_some, if_pos ⟨c, e2⟩, e, s2 i hi]
   ·have e2 : ¬ y.Resource = (i : Int) := by omega
    rw [if_neg e, if_neg (fun h => e2 h.2), ← List.getD_eq_getElem?_getD, s2 i hi]
  ·have c : ¬ y.Credential ∈ r := of_decide_eq_false c
   rw [mx_snoc, if_neg (fun h => c h.1)]
   exact s2 i hi
theorem mx_congr {p p' : Int → Prop} (h : ∀ c, p c ↔ p' c) (i : Int) (gs : List GGrant) : mx p i gs = mx p' i gs := by
 have : p = p' := funext fun c => propext (h c)
 rw [this]
theorem power_ok {x : GRights} (g : GoodR x) {c : Int} (hc : 0 ≤ c ∧ c ≤ x.Credentials - 1) : Ok (F_4 x c) fun p => (p.length : Int) = x.Resources ∧ ∀ i : Nat, i < p.length → p.getD i default = mx (Rch x c) i x.Grants := by
 unfold F_4
 refine Ok.bind (reach_ok g hc) fun r hr => ?_
 obtain ⟨h1, h2⟩ := hr
 have h0 : r ≠ [] := fun e => by
  have := (h2 c).2 .refl
  rw [e] at this; cases this
 refine Ok.bind (bound_ok g (closed_ok g h0 h1 (fun k hk => rch_range g hc ((h2 k).1 hk)) fun a ha b hb => (h2 b).2 (.step ((h2 a).1 ha) hb))) fun b hb => Ok.ret ⟨hb.1, fun i hi => ?_⟩
 rw [hb.2 i hi]
 exact mx_congr h2 i x.Grants
end Go.Ab
namespace Go.Ab
open Go.Proofs
theorem rights_ok2 {t : GTape} (h : TOK t) : Ok (F_n t) fun y => GoodR y.1 ∧ 1 ≤ y.1.Credentials ∧ y.1.Credentials ≤ 6 ∧ 1 ≤ y.1.Resources ∧ y.1.Resources ≤ 5 ∧ y.1.Grants.length ≤ 8 ∧ TOK y.2 ∧ y.1.Stores.length ≤ 8 ∧ y.1.Mints.length ≤ 8 := by
 unfold F_n
 refine Ok.bind (between_ok h (by omega) (by omega) (by omega)) fun C hC => Ok.bind (between_ok hC.2.2 (by omega) (by omega) (by omega)) fun R hR => Ok.bind (next_ok hR.2.2 (by omega)) fun k hk => ?_
 obtain ⟨c1, c2, _⟩ := hC
 obtain ⟨r1, r2, _⟩ := hR
 refine Ok.bind (Ok.loop (Q := fun y : Int × Int × List GGrant × GTape => y.1 = C.1 ∧ y.2.1 = R.1 ∧ y.2.2.1.length ≤ 8 ∧ (∀ g ∈ y.2.2.1, (0 ≤ g.Credential ∧ g.Credential ≤ C.1 - 1) ∧ (0 ≤ g.Resource ∧ g.Resource ≤ R.1 - 1) ∧ 1 ≤ g.Right ∧ g.Right ≤ 3) ∧ TOK y.2.2.2)
  (fun x => 0 ≤ x.1 ∧ x.2.1 = C.1 ∧ x.2.2.1 = R.1 ∧ (x.2.2.2.1.length : Int) + x.1 ≤ 8 ∧ (∀ g ∈ x.2.2.2.1, (0 ≤ g.Credential ∧ g.Credential ≤ C.1 - 1) ∧ (0 ≤ g.Resource ∧ g.Resource ≤ R.1 - 1) ∧ 1 ≤ g.Right ∧ g.Right ≤ 3) ∧ TOK x.2.2.2.2) (fun x => x.1.toNat) (fun x hx => ?_) _ ⟨hk.1, rfl, rfl, by show ((0 : Nat) : Int) + k.1 ≤ 8; omega, by simp, hk.2.2⟩) fun y1 h1 => ?_
 ·obtain ⟨n, a, b, out, t⟩ := x
  obtain ⟨x1, rfl, rfl, x4, x5, x6⟩ := hx
  simp only at x1 x4 x5 x6
  unfold F_1t
  dsimp only
  refine Ok.ite (fun c => ?_) fun c => Ok.ret ⟨rfl, rfl, by show out.length ≤ 8; omega, x5, x6⟩
  have c : 0 < n := by simpa using c
  refine Ok.bind (next_ok x6 (by omega)) fun p hp => Ok.bind (next_ok hp.2.2 (by omega)) fun q hq => Ok.bind (between_ok hq.2.2 (by omega) (by omega) (by omega)) fun w hw => ?_
  obtain ⟨p1, p2, _⟩ := hp
  obtain ⟨q1, q2, _⟩ := hq
  obtain ⟨w1, w2, w3⟩ := hw
  refine Ok.chk (room_sm (by simp; omega)) (Ok.chk (in64_sm (by show _ ≤ n - 1; omega) (by show n - 1 ≤ _; omega)) (Ok.ret ?_))
  refine ⟨⟨by show 0 ≤ n - 1; omega, rfl, rfl, by simp; omega, fun g hg => ?_, w3⟩, by show (n - 1).toNat < n.toNat; omega⟩
  simp only [List.mem_append, List.mem_singleton] at hg
  rcases hg with hg | rfl
  ·exact x5 g hg
  ·exact ⟨⟨p1, by show p.1 ≤ C.1 - 1; omega⟩, ⟨q1, by show q.1 ≤ R.1 - 1; omega⟩, w1, w2⟩
 obtain ⟨a1, a2, a3, a4, a5⟩ := h1
 refine Ok.bind (next_ok a5 (by omega)) fun k2 hk2 => ?_
 refine Ok.bind (Ok.loop (Q := fun y : Int × Int × List GStore × GTape => y.1 = C.1 ∧ y.2.1 = R.1 ∧ y.2.2.1.length ≤ 8 ∧ (∀ g ∈ y.2.2.1, (0 ≤ g.Credential ∧ g.Credential ≤ C.1 - 1) ∧ 0 ≤ g.Resource ∧ g.Resource ≤ R.1 - 1) ∧ TOK y.2.2.2)
  (fun x => 0 ≤ x.1 ∧ x.2.1 = C.1 ∧ x.2.2.1 = R.1 ∧ (x.2.2.2.1.length : Int) + x.1 ≤ 8 ∧ (∀ g ∈ x.2.2.2.1, (0 ≤ g.Credential ∧ g.Credential ≤ C.1 - 1) ∧ 0 ≤ g.Resource ∧ g.Resource ≤ R.1 - 1) ∧ TOK x.2.2.2.2) (fun x => x.1.toNat) (fun x hx => ?_) _ ⟨hk2.1, a1, a2, by show ((0 : Nat) : Int) + k2.1 ≤ 8; omega, by simp, hk2.2.2⟩) fun y2 h2 => ?_
 ·obtain ⟨n, a, b, out, t⟩ := x
  obtain ⟨x1, x2, x3, x4, x5, x6⟩ := hx
  simp only at x1 x2 x3 x4 x5 x6
  subst x2 x3
  unfold F_1u
  dsimp only
  refine Ok.ite (fun c => ?_) fun c => Ok.ret ⟨rfl, rfl, by show out.length ≤ 8; omega, x5, x6⟩
  have c : 0 < n := by simpa using c
  refine Ok.bind (next_ok x6 (by omega)) fun p hp => Ok.bind (next_ok hp.2.2 (by omega)) fun q hq => ?_
  obtain ⟨p1, p2, _⟩ := hp
  obtain ⟨q1, q2, q3⟩ := hq
  refine Ok.chk (room_sm (by simp; omega)) (Ok.chk (in64_sm (by show _ ≤ n - 1; omega) (by show n - 1 ≤ _; omega)) (Ok.ret ?_))
  refine ⟨⟨by show 0 ≤ n - 1; omega, rfl, rfl, by simp; omega, fun g hg => ?_, q3⟩, by show (n - 1).toNat < n.toNat; omega⟩
  simp only [List.mem_append, List.mem_singleton] at hg
  rcases hg with hg | rfl
  ·exact x5 g hg
  ·exact ⟨⟨q1, by show q.1 ≤ C.1 - 1; omega⟩, p1, by show p.1 ≤ R.1 - 1; omega⟩
 obtain ⟨b1, b2, b3, b4, b5⟩ := h2
 refine Ok.bind (next_ok b5 (by omega)) fun k3 hk3 => ?_
 refine Ok.bind (Ok.loop (Q := fun y : Int × Int × List GMint × GTape => y.1 = C.1 ∧ y.2.1 = R.1 ∧ y.2.2.1.length ≤ 8 ∧ (∀ g ∈ y.2.2.1, (0 ≤ g.From ∧ g.From ≤ C.1 - 1) ∧ 0 ≤ g.To ∧ g.To ≤ C.1 - 1) ∧ TOK y.2.2.2)
  (fun x => 0 ≤ x.1 ∧ x.2.1 = C.1 ∧ x.2.2.1 = R.1 ∧ (x.2.2.2.1.length : Int) + x.1 ≤ 8 ∧ (∀ g ∈ x.2.2.2.1, (0 ≤ g.From ∧ g.From ≤ C.1 - 1) ∧ 0 ≤ g.To ∧ g.To ≤ C.1 - 1) ∧ TOK x.2.2.2.2) (fun x => x.1.toNat) (fun x hx => ?_) _ ⟨hk3.1, b1, b2, by show ((0 : Nat) : Int) + k3.1 ≤ 8; omega, by simp, hk3.2.2⟩) fun y3 h3 => ?_
 ·obtain ⟨n, a, b, out, t⟩ := x
  obtain ⟨x1, x2, x3, x4, x5, x6⟩ := hx
  simp only at x1 x2 x3 x4 x5 x6
  subst x2 x3
  unfold F_1v
  dsimp only
  refine Ok.ite (fun c => ?_) fun c => Ok.ret ⟨rfl, rfl, by show out.length ≤ 8; omega, x5, x6⟩
  have c : 0 < n := by simpa using c
  refine Ok.bind (next_ok x6 (by omega)) fun p hp => Ok.bind (next_ok hp.2.2 (by omega)) fun q hq => ?_
  obtain ⟨p1, p2, _⟩ := hp
  obtain ⟨q1, q2, q3⟩ := hq
  refine Ok.chk (room_sm (by simp; omega)) (Ok.chk (in64_sm (by show _ ≤ n - 1; omega) (by show n - 1 ≤ _; omega)) (Ok.ret ?_))
  refine ⟨⟨by show 0 ≤ n - 1; omega, rfl, rfl, by simp; omega, fun g hg => ?_, q3⟩, by show (n - 1).toNat < n.toNat; omega⟩
  simp only [List.mem_append, List.mem_singleton] at hg
  rcases hg with hg | rfl
  ·exact x5 g hg
  ·exact ⟨⟨p1, by show p.1 ≤ C.1 - 1; omega⟩, q1, by show q.1 ≤ C.1 - 1; omega⟩
 obtain ⟨d1, d2, d3, d4, d5⟩ := h3
 refine Ok.ret ?_
 refine ⟨⟨?_, ?_, ?_, ?_, ?_, ?_, ?_, fun g hg => ?_, fun s hs => ?_, fun m hm => ?_⟩, ?_, ?_, ?_, ?_, a3, d5, b3, d3⟩ <;> simp only [d1, d2]
 all_goals try omega
 ·unfold gOK; simp only [d1, d2]; exact a4 g hg
 ·unfold sOK; simp only [d1, d2]; exact b4 s hs
 ·unfold mOK; simp only [d1, d2]; exact d4 m hm
theorem rights_ok {t : GTape} (h : TOK t) : Ok (F_n t) fun y => GoodR y.1 ∧ 1 ≤ y.1.Credentials ∧ y.1.Credentials ≤ 6 ∧ 1 ≤ y.1.Resources ∧ y.1.Resources ≤ 5 ∧ y.1.Grants.length ≤ 8 ∧ TOK y.2 :=
 (rights_ok2 h).mono fun _ h => ⟨h.1, h.2.1, h.2.2.1, h.2.2.2.1, h.2.2.2.2.1, h.2.2.2.2.2.1, h.2.2.2.2.2.2.1⟩
end Go.Ab
namespace Go.Ab
open Go.Proofs
theorem has_key (v : Int) : ∀ (l : List Int) (k : Int), ((forL (F_10 v) l k ()).bind fun o => o.elim (fun _ => some false) fun r => some r) = some (decide (v ∈ l))
 | [], k => by simp [forL, Fl.elim]
 | a :: r, k => by
  simp only [forL, F_10]
  by_cases c : a = v
  ·subst c; simp [Fl.elim]
  ·have c' : ¬ v = a := fun e => c e.symm
   have ih := has_key v r (k + 1)
   simp only [decide_eq_false c, cond_false, Option.bind_some, Fl_nx, List.mem_cons, c', false_or]
   exact ih
theorem has_eq (l : List Int) (v : Int) : F_11 l v = some (decide (v ∈ l)) := has_key v l 0
theorem ints_refl (l : List Int) : F_e l l = some true := by
 refine Ok.eq ?_
 unfold F_e
 refine Ok.ite (fun c => by simp at c) fun _ => ?_
 refine Ok.bind (Ok.forI (all := l) (Q := fun o => o = .nx ()) (fun _ _ => True) l [] 0 () rfl rfl trivial (fun pre x r s hw _ => ?_) fun s _ => rfl) fun o ho => by subst ho; exact Ok.ret rfl
 have hlen : pre.length < l.length := by have := congrArg List.length hw; simp at this; omega
 have hx : l.getD pre.length default = x := by rw [hw]; simp
 unfold F_1i
 refine Ok.chk (inb_iff.2 ⟨by omega, by omega⟩) (Ok.ite (fun c => ?_) fun _ => Ok.ret trivial)
 simp only [Int.toNat_natCast, hx] at c
 simp at c
def ex25 : GRights := GRights.mk 2 2 [(GGrant.mk 0 0 1), (GGrant.mk 1 1 3)] [(GStore.mk 0 1)] []
theorem ex25_good : GoodR ex25 := by
 classical
 have e : F_7 ex25 = some 0 := by kernel_rfl
 rw [rcheck_eq] at e
 by_cases h : GoodR ex25
 ·exact h
 ·rw [if_neg h] at e; cases e
theorem ex25_chains : F_6 ex25 0 = some [(0,[]), (1,[GLink.mk 1 0 0 (-1)])] := by
 have a1 : F_8 ex25 0 = some [GLink.mk 1 0 0 (-1)] := by kernel_rfl
 have a2 : F_8 ex25 1 = some [] := by kernel_rfl
 have a3 : F_9 ex25 0 (GLink.mk 1 0 0 (-1)) = some (1, true) := by kernel_rfl
 have a4 : F_k [] = some [] := clone_eq (by simp)
 have b1 : F_o ex25 0 (GLink.mk 1 0 0 (-1)) ([0],[(0,[])]) = some ([0,1],[(0,[]), (1,[GLink.mk 1 0 0 (-1)])]) := by
  have i0 : inb 0 1 = true := by kernel_rfl
  have i1 : room 1 32 = true := by kernel_rfl
  have i2 : room 2 8 = true := by kernel_rfl
  have g1 : aget (1 : Int) [((0 : Int), ([] : List GLink))] = none := rfl
  have g0 : aget (0 : Int) [((0 : Int), ([] : List GLink))] = some [] := rfl
  unfold F_o
  simp only [List.length_cons, List.length_nil, Nat.zero_add, chk_true i0, List.getD_cons_zero, a3, Option.bind_some, g1, g0, Option.isSome_none, Bool.not_false, cond_true, Option.getD_some, a4, List.nil_append, Nat.reduceAdd, chk_true i1, chk_true i2]
  rfl
 have c1 : F_c ex25 ([0], aput 0 [] []) = some (.nx ([1],[(0,[]), (1,[GLink.mk 1 0 0 (-1)])])) := by
  have i0 : inb 0 1 = true := by kernel_rfl
  have i1 : inc 1 ((2 : Nat) : Int) 2 = true := by kernel_rfl
  have h0 : aput (0 : Int) ([] : List GLink) [] = [(0,[])] := rfl
  unfold F_c
  rw [h0]
  simp only [List.length_cons, List.length_nil, Nat.zero_add, chk_true i0, List.getD_cons_zero, a1, Option.bind_some, foldL, b1, Nat.reduceAdd, chk_true i1]
  rfl
 have c2 : F_c ex25 ([1],[(0,[]), (1,[GLink.mk 1 0 0 (-1)])]) = some (.nx ([],[(0,[]), (1,[GLink.mk 1 0 0 (-1)])])) := by
  unfold F_c
  have i0 : inb 0 1 = true := by kernel_rfl
  have i1 : inc 1 ((1 : Nat) : Int) 1 = true := by kernel_rfl
  simp only [List.length_cons, List.length_nil, Nat.zero_add, chk_true i0, List.getD_cons_zero, a2, Option.bind_some, foldL, chk_true i1]
  rfl
 have c3 : F_c ex25 ([],[(0,[]), (1,[GLink.mk 1 0 0 (-1)])]) = some (.ex [(0,[]), (1,[GLink.mk 1 0 0 (-1)])]) := by
  unfold F_c; rfl
 unfold F_6
 rw [loop_eq, c1]; simp only [Option.bind_some, Fl_nx]
 rw [loop_eq, c2]; simp only [Option.bind_some, Fl_nx]
 rw [loop_eq, c3]; rfl
theorem ex25_reach : F_5 ex25 0 = some [0,1] := by
 have e1 : F_7 ex25 = some 0 := by kernel_rfl
 have e2 : F_3 ex25 0 = some true := by kernel_rfl
 simp only [F_5, e1, e2, ex25_chains, Option.bind_some, decide_true, Bool.not_true, cond_false]
 refine permL_of fun l hl => ?_
 have hlen : l.length ≤ 24 := by rw [hl.length_eq]; simp
 rw [foldL_push (body := F_1c) (g := Prod.fst) (b := 8) (n := 24) (by omega) (fun k x s => rfl) l 0 [] (by simpa using hlen)]
 simp only [Option.bind_some, List.nil_append, sortI]
 have : (l.map Prod.fst).length < 4611686018427387904 := by simp; omega
 rw [if_pos this]
 have h1 : (srtI (l.map Prod.fst)).Perm [0,1] := (srtI_perm _).trans (hl.map _)
 have h2 : srtI (l.map Prod.fst) = [0,1] := h1.eq_of_pairwise (fun a b _ _ h1 h2 => by omega) (srtI_sorted _) (by simp)
 exact congrArg some h2
theorem ex25_power : F_4 ex25 0 = some [1,3] := by
 have e1 : roomI ex25.Resources ex25.Resources 8 = true := by kernel_rfl
 have e2 : foldL (F_y [0,1]) ex25.Grants 0 (List.replicate ex25.Resources.toNat 0) = some [1,3] := by kernel_rfl
 have e3 : F_g ex25 [0,1] = some true := closed_ok ex25_good (by simp) (by simp) (fun k hk => by simp at hk; rcases hk with rfl | rfl <;> simp [ex25]) fun a ha b hb => by
  have h1 := leads_range ex25_good hb
  have h2 : b ≤ 1 := h1.2
  simp; omega
 simp only [F_4, ex25_reach, F_m, e3, Option.bind_some, Bool.not_true, cond_false, chk_true e1, e2]
theorem ex25_why : F_h ex25 0 1 = some ([GLink.mk 1 0 0 (-1), GLink.mk 3 1 (-1) (-1)], true) := by
 have i1 : in64 (2 - 1) = true := by kernel_rfl
 have e1 : F_0 1 0 1 = some true := by kernel_rfl
 have i2 : inb 1 2 = true := by kernel_rfl
 have e2 : forL (F_q 1 [1,3] [(0,[]), (1,[GLink.mk 1 0 0 (-1)])]) ex25.Grants 0 () = some (.ex ([GLink.mk 1 0 0 (-1), GLink.mk 3 1 (-1) (-1)], true)) := by kernel_rfl
 unfold F_h
 rw [ex25_power]
 simp only [Option.bind_some]
 refine Eq.trans (b := chk (in64 (2 - 1)) ((F_0 1 0 1).bind fun y6 => bif (!y6) then some ([], false) else chk (inb 1 2) ((F_6 ex25 0).bind fun y8 => (forL (F_q 1 [1,3] y8) ex25.Grants 0 ()).bind fun o => o.elim (fun x21 => some ([], false)) (fun r22 => some r22)))) rfl ?_
 rw [chk_true i1, e1]
 simp only [Option.bind_some, Bool.not_true, cond_false]
 rw [chk_true i2, ex25_chains]
 simp only [Option.bind_some]
 rw [e2]
 rfl
theorem awake25 : F_i = some true := by
 have e1 : F_e [1,3] [1,3] = some true := ints_refl _
 have e2 : F_r ex25 0 1 3 [GLink.mk 1 0 0 (-1), GLink.mk 3 1 (-1) (-1)] = some true := by kernel_rfl
 unfold F_i
 have w : F_h (GRights.mk 2 2 [(GGrant.mk 0 0 1), (GGrant.mk 1 1 3)] [(GStore.mk 0 1)] []) 0 1 = _ := ex25_why
 have p : F_4 (GRights.mk 2 2 [(GGrant.mk 0 0 1), (GGrant.mk 1 1 3)] [(GStore.mk 0 1)] []) 0 = _ := ex25_power
 have v : F_r (GRights.mk 2 2 [(GGrant.mk 0 0 1), (GGrant.mk 1 1 3)] [(GStore.mk 0 1)] []) 0 1 3 [GLink.mk 1 0 0 (-1), GLink.mk 3 1 (-1) (-1)] = _ := e2
 rw [w, p]
 simp only [Option.bind_some, e1, grp, Bool.and_self, cond_true, jn, v]
 rfl
theorem awake25_ok : Ok (F_i.bind fun y => some y) (· = true) := by rw [awake25]; exact ⟨true, rfl, rfl⟩
end Go.Ab
namespace Go.Ab
open Go.Proofs
theorem rch_trans {x : GRights} {a b c : Int} (h1 : Rch x a b) (h2 : Rch x b c) : Rch x a c := by
 induction h2 with
 | refl => exact h1
 | step h hl ih => exact .step ih hl
theorem alone25 (l : List Int) : F_12 l = some true := by
 refine Ok.eq ?_
 unfold F_12
 refine Ok.ite (fun _ => awake25_ok) fun c => ?_
 have hl : l.length ≤ 300 := by have := of_decide_eq_false c; omega
 refine Ok.bind (rights_ok (t := ⟨l, 0⟩) ⟨Int.le_refl 0, hl⟩) fun x hx => ?_
 obtain ⟨g, c1, c2, r1, r2, gl, hT⟩ := hx
 refine Ok.bind (Ok.loop (Q := fun o => o = .inl ()) (fun c : Int => 0 ≤ c ∧ c ≤ x.1.Credentials) (fun c => (x.1.Credentials - c).toNat) (fun c hc => ?_) _ ⟨Int.le_refl 0, by omega⟩) fun o ho => ?_
 ·unfold F_1w
  refine Ok.ite (fun cc => ?_) fun _ => Ok.ret rfl
  have cc : c < x.1.Credentials := by simpa using cc
  have hcr : 0 ≤ c ∧ c ≤ x.1.Credentials - 1 := by omega
  refine Ok.bind (reach_ok g hcr) fun r hr => ?_
  refine Ok.bind (Ok.for (Q := fun o => o = .nx ()) (fun _ => True) r 0 () trivial (fun k a s ha _ => ?_) fun s _ => rfl) fun o ho => by subst ho; exact Ok.chk (in64_sm (by omega) (by omega)) (Ok.ret ⟨⟨by show 0 ≤ c + 1; omega, by show c + 1 ≤ x.1.Credentials; omega⟩, by show (x.1.Credentials - (c + 1)).toNat < (x.1.Credentials - c).toNat; omega⟩)
  have hca := (hr.2 a).1 ha
  unfold F_1l
  refine Ok.bind (reach_ok g (rch_range g hcr hca)) fun q hq => ?_
  refine Ok.bind (Ok.for (Q := fun o => o = .nx ()) (fun _ => True) q 0 () trivial (fun k b s hb _ => ?_) fun s _ => rfl) fun o ho => by subst ho; exact Ok.ret trivial
  unfold F_1k
  rw [has_eq]
  have := (hr.2 b).2 (rch_trans hca ((hq.2 b).1 hb))
  simp only [decide_eq_true this, Option.bind_some, Bool.not_true, cond_false]
  exact Ok.ret trivial
 subst ho
 simp only [Sum.elim_inl]
 refine Ok.bind (next_ok hT (by omega)) fun c hc => ?_
 obtain ⟨hc1, hc2, hc3⟩ := hc
 have hcr : 0 ≤ c.1 ∧ c.1 ≤ x.1.Credentials - 1 := by omega
 generalize hy : GRights.mk x.1.Credentials x.1.Resources x.1.Grants [] [] = y
 have hyG : y.Grants = x.1.Grants := by rw [← hy]
 have hyC : y.Credentials = x.1.Credentials := by rw [← hy]
 have hyR : y.Resources = x.1.Resources := by rw [← hy]
 have gy : GoodR y := by
  rw [← hy]
  exact ⟨g.c0, g.c1, g.r0, g.r1, g.gl, by simp, by simp, g.gr, by simp, by simp⟩
 have hno : ∀ a b, ¬ leads y a b := fun a b h => by
  rw [← hy] at h
  rcases h with ⟨m, hm, _⟩ | ⟨_, _, s, hs, _⟩
  ·cases hm
  ·cases hs
 have hrch : ∀ k, Rch y c.1 k ↔ k = c.1 := fun k => ⟨fun h => by
  cases h with
  | refl => rfl
  | step _ hl => exact absurd hl (hno _ _), fun e => by rw [e]; exact .refl⟩
 have hcy : 0 ≤ c.1 ∧ c.1 ≤ y.Credentials - 1 := by rw [hyC]; exact hcr
 refine Ok.bind (power_ok gy hcy) fun p hp => ?_
 obtain ⟨hp1, hp2⟩ := hp
 refine Ok.bind (reach_ok gy hcy) fun r hr => ?_
 obtain ⟨hr1, hr2⟩ := hr
 have hrc : r = [c.1] := by
  have hm : ∀ k, k ∈ r ↔ k = c.1 := fun k => (hr2 k).trans (hrch k)
  match r, hm, hr1 with
  | [], hm, _ => exact absurd ((hm c.1).2 rfl) (by simp)
  | [a], hm, _ => rw [(hm a).1 (by simp)]
  | a :: b :: q, hm, hr1 =>
   have h1 := (hm a).1 (by simp)
   have h2 := (hm b).1 (by simp)
   rw [List.pairwise_cons] at hr1
   have := hr1.1 b (by simp)
   omega
 rw [hrc, ints_refl]
 simp only [Option.bind_some, Bool.not_true, Bool.false_or, hp1, hyR, decide_true, grp, cond_false]
 refine Ok.bind (Ok.forI (all := p) (Q := fun o => o = .nx ()) (fun _ _ => True) p [] 0 () rfl rfl trivial (fun pre v q s hw _ => ?_) fun s _ => rfl) fun o ho => by subst ho; exact awake25_ok
 have hlen : pre.length < p.length := by have := congrArg List.length hw; simp at this; omega
 have hv : p.getD pre.length default = v := by rw [hw]; simp
 unfold F_1n
 refine Ok.bind (Ok.foldI (all := x.1.Grants) (Q := fun m => m = mx (Rch y c.1) pre.length x.1.Grants) (fun pr m => m = mx (Rch y c.1) pre.length pr) x.1.Grants [] 0 0 rfl rfl rfl (fun pr z q s hw2 hs => ?_) fun s hs => hs) fun m hm => ?_
 ·unfold F_1m
  refine Ok.grp (Ok.ite (fun cz => Ok.ret ?_) fun cz => Ok.ret ?_)
  ·simp only [Bool.and_eq_true, decide_eq_true_eq] at cz
   rw [mx_snoc, if_pos ⟨(hrch _).2 cz.1, cz.2⟩, hs]
  ·simp only [Bool.and_eq_false_iff, decide_eq_false_iff_not] at cz
   rw [mx_snoc, if_neg (fun h => ?_), hs]
   have h1 := (hrch _).1 h.1
   rcases cz with cz | cz
   ·exact cz h1
   ·exact cz h.2
 ·refine Ok.ite (fun cm => ?_) fun _ => Ok.ret trivial
  have := hp2 _ hlen
  rw [hv, hyG] at this
  simp [hm, this] at cm
end Go.Ab
