/- More rights, worths and readers never make a severity less. -/
import Derived.Test.YtopbblhkapgdkaaDoorPL31c
set_option linter.all false
set_option linter.all false
namespace Go.Ab
open Go.Proofs

theorem rights_ok {t : GTape} (h : TOK t) : Ok (F_made_Rights t) fun y => GoodR y.1 ∧ 1 ≤ y.1.Credentials ∧ y.1.Credentials ≤ 6 ∧ 1 ≤ y.1.Resources ∧ y.1.Resources ≤ 5 ∧ y.1.Grants.length ≤ 8 ∧ TOK y.2 := by
  unfold F_made_Rights
  refine Ok.bind (between_ok h (by omega) (by omega) (by omega)) fun C hC => Ok.bind (between_ok hC.2.2 (by omega) (by omega) (by omega)) fun R hR => Ok.bind (next_ok hR.2.2 (by omega)) fun k hk => ?_
  obtain ⟨c1, c2, _⟩ := hC
  obtain ⟨r1, r2, _⟩ := hR
  refine Ok.bind (Ok.loop (Q := fun y : Int × Int × List GGrant × GTape => y.1 = C.1 ∧ y.2.1 = R.1 ∧ y.2.2.1.length ≤ 8 ∧ (∀ g ∈ y.2.2.1, (0 ≤ g.Credential ∧ g.Credential ≤ C.1 - 1) ∧ (0 ≤ g.Resource ∧ g.Resource ≤ R.1 - 1) ∧ 1 ≤ g.Right ∧ g.Right ≤ 3) ∧ TOK y.2.2.2)
    (fun x => 0 ≤ x.1 ∧ x.2.1 = C.1 ∧ x.2.2.1 = R.1 ∧ (x.2.2.2.1.length : Int) + x.1 ≤ 8 ∧ (∀ g ∈ x.2.2.2.1, (0 ≤ g.Credential ∧ g.Credential ≤ C.1 - 1) ∧ (0 ≤ g.Resource ∧ g.Resource ≤ R.1 - 1) ∧ 1 ≤ g.Right ∧ g.Right ≤ 3) ∧ TOK x.2.2.2.2) (fun x => x.1.toNat) (fun x hx => ?_) _ ⟨hk.1, rfl, rfl, by show ((0 : Nat) : Int) + k.1 ≤ 8; omega, by simp, hk.2.2⟩) fun y1 h1 => ?_
  · obtain ⟨n, a, b, out, t⟩ := x
    obtain ⟨x1, rfl, rfl, x4, x5, x6⟩ := hx
    simp only at x1 x4 x5 x6
    unfold F_made_Rights_L1
    dsimp only
    refine Ok.ite (fun c => ?_) fun c => Ok.ret ⟨rfl, rfl, by show out.length ≤ 8; omega, x5, x6⟩
    have c : 0 < n := by simpa using c
    refine Ok.bind (next_ok x6 (by omega)) fun p hp => Ok.bind (next_ok hp.2.2 (by omega)) fun q hq => Ok.bind (between_ok hq.2.2 (by omega) (by omega) (by omega)) fun w hw => ?_
    obtain ⟨p1, p2, _⟩ := hp
    obtain ⟨q1, q2, _⟩ := hq
    obtain ⟨w1, w2, w3⟩ := hw
    refine Ok.chk (room_sm (by simp; omega)) (Ok.chk (in64_sm (by show _ ≤ n - 1; omega) (by show n - 1 ≤ _; omega)) (Ok.ret ?_))
    refine ⟨⟨by show 0 ≤ n - 1; omega, rfl, rfl, by simp; omega, fun g hg => ?_, w3⟩, by show (n - 1).toNat < n.toNat; omega⟩
    simp only [List.mem_append, List.mem_singleton] at hg
    rcases hg with hg | rfl
    · exact x5 g hg
    · exact ⟨⟨p1, by show p.1 ≤ C.1 - 1; omega⟩, ⟨q1, by show q.1 ≤ R.1 - 1; omega⟩, w1, w2⟩
  obtain ⟨a1, a2, a3, a4, a5⟩ := h1
  refine Ok.bind (next_ok a5 (by omega)) fun k2 hk2 => ?_
  refine Ok.bind (Ok.loop (Q := fun y : Int × Int × List GStore × GTape => y.1 = C.1 ∧ y.2.1 = R.1 ∧ y.2.2.1.length ≤ 8 ∧ (∀ g ∈ y.2.2.1, (0 ≤ g.Credential ∧ g.Credential ≤ C.1 - 1) ∧ 0 ≤ g.Resource ∧ g.Resource ≤ R.1 - 1) ∧ TOK y.2.2.2)
    (fun x => 0 ≤ x.1 ∧ x.2.1 = C.1 ∧ x.2.2.1 = R.1 ∧ (x.2.2.2.1.length : Int) + x.1 ≤ 8 ∧ (∀ g ∈ x.2.2.2.1, (0 ≤ g.Credential ∧ g.Credential ≤ C.1 - 1) ∧ 0 ≤ g.Resource ∧ g.Resource ≤ R.1 - 1) ∧ TOK x.2.2.2.2) (fun x => x.1.toNat) (fun x hx => ?_) _ ⟨hk2.1, a1, a2, by show ((0 : Nat) : Int) + k2.1 ≤ 8; omega, by simp, hk2.2.2⟩) fun y2 h2 => ?_
  · obtain ⟨n, a, b, out, t⟩ := x
    obtain ⟨x1, x2, x3, x4, x5, x6⟩ := hx
    simp only at x1 x2 x3 x4 x5 x6
    subst x2 x3
    unfold F_made_Rights_L2
    dsimp only
    refine Ok.ite (fun c => ?_) fun c => Ok.ret ⟨rfl, rfl, by show out.length ≤ 8; omega, x5, x6⟩
    have c : 0 < n := by simpa using c
    refine Ok.bind (next_ok x6 (by omega)) fun p hp => Ok.bind (next_ok hp.2.2 (by omega)) fun q hq => ?_
    obtain ⟨p1, p2, _⟩ := hp
    obtain ⟨q1, q2, q3⟩ := hq
    refine Ok.chk (room_sm (by simp; omega)) (Ok.chk (in64_sm (by show _ ≤ n - 1; omega) (by show n - 1 ≤ _; omega)) (Ok.ret ?_))
    refine ⟨⟨by show 0 ≤ n - 1; omega, rfl, rfl, by simp; omega, fun g hg => ?_, q3⟩, by show (n - 1).toNat < n.toNat; omega⟩
    simp only [List.mem_append, List.mem_singleton] at hg
    rcases hg with hg | rfl
    · exact x5 g hg
    · exact ⟨⟨q1, by show q.1 ≤ C.1 - 1; omega⟩, p1, by show p.1 ≤ R.1 - 1; omega⟩
  obtain ⟨b1, b2, b3, b4, b5⟩ := h2
  refine Ok.bind (next_ok b5 (by omega)) fun k3 hk3 => ?_
  refine Ok.bind (Ok.loop (Q := fun y : Int × Int × List GMint × GTape => y.1 = C.1 ∧ y.2.1 = R.1 ∧ y.2.2.1.length ≤ 8 ∧ (∀ g ∈ y.2.2.1, (0 ≤ g.From ∧ g.From ≤ C.1 - 1) ∧ 0 ≤ g.To ∧ g.To ≤ C.1 - 1) ∧ TOK y.2.2.2)
    (fun x => 0 ≤ x.1 ∧ x.2.1 = C.1 ∧ x.2.2.1 = R.1 ∧ (x.2.2.2.1.length : Int) + x.1 ≤ 8 ∧ (∀ g ∈ x.2.2.2.1, (0 ≤ g.From ∧ g.From ≤ C.1 - 1) ∧ 0 ≤ g.To ∧ g.To ≤ C.1 - 1) ∧ TOK x.2.2.2.2) (fun x => x.1.toNat) (fun x hx => ?_) _ ⟨hk3.1, b1, b2, by show ((0 : Nat) : Int) + k3.1 ≤ 8; omega, by simp, hk3.2.2⟩) fun y3 h3 => ?_
  · obtain ⟨n, a, b, out, t⟩ := x
    obtain ⟨x1, x2, x3, x4, x5, x6⟩ := hx
    simp only at x1 x2 x3 x4 x5 x6
    subst x2 x3
    unfold F_made_Rights_L3
    dsimp only
    refine Ok.ite (fun c => ?_) fun c => Ok.ret ⟨rfl, rfl, by show out.length ≤ 8; omega, x5, x6⟩
    have c : 0 < n := by simpa using c
    refine Ok.bind (next_ok x6 (by omega)) fun p hp => Ok.bind (next_ok hp.2.2 (by omega)) fun q hq => ?_
    obtain ⟨p1, p2, _⟩ := hp
    obtain ⟨q1, q2, q3⟩ := hq
    refine Ok.chk (room_sm (by simp; omega)) (Ok.chk (in64_sm (by show _ ≤ n - 1; omega) (by show n - 1 ≤ _; omega)) (Ok.ret ?_))
    refine ⟨⟨by show 0 ≤ n - 1; omega, rfl, rfl, by simp; omega, fun g hg => ?_, q3⟩, by show (n - 1).toNat < n.toNat; omega⟩
    simp only [List.mem_append, List.mem_singleton] at hg
    rcases hg with hg | rfl
    · exact x5 g hg
    · exact ⟨⟨p1, by show p.1 ≤ C.1 - 1; omega⟩, q1, by show q.1 ≤ C.1 - 1; omega⟩
  obtain ⟨d1, d2, d3, d4, d5⟩ := h3
  refine Ok.ret ?_
  refine ⟨⟨?_, ?_, ?_, ?_, ?_, ?_, ?_, fun g hg => ?_, fun s hs => ?_, fun m hm => ?_⟩, ?_, ?_, ?_, ?_, a3, d5⟩ <;> simp only [d1, d2]
  all_goals try omega
  · unfold gOK; simp only [d1, d2]; exact a4 g hg
  · unfold sOK; simp only [d1, d2]; exact b4 s hs
  · unfold mOK; simp only [d1, d2]; exact d4 m hm
theorem worths_ok {t : GTape} (h : TOK t) {n : Int} (h0 : 0 ≤ n) (hn : n ≤ 30) : Ok (F_made_Worths t n) fun y => (y.1.length : Int) = n ∧ wOK y.1 ∧ TOK y.2 := by
  unfold F_made_Worths
  refine Ok.bind (Ok.loop (Q := fun y : List Int × GTape => (y.1.length : Int) = n ∧ wOK y.1 ∧ TOK y.2) (fun x => x.1 = x.2.1.length ∧ x.1 ≤ n ∧ wOK x.2.1 ∧ TOK x.2.2) (fun x => (n - x.1).toNat) (fun x hx => ?_) _ ⟨rfl, h0, by intro a ha; simp at ha, h⟩) fun r hr => Ok.ret hr
  obtain ⟨i, out, t⟩ := x
  obtain ⟨x1, x2, x3, x4⟩ := hx
  simp only at x1 x2 x3 x4
  unfold F_made_Worths_L1
  refine Ok.ite (fun c => ?_) fun c => Ok.ret ?_
  · have c : i < n := by simpa using c
    refine Ok.bind (pick_ok x4 (by simp)) fun p hp => Ok.chk (room_sm (by simp; omega)) (Ok.chk (in64_sm (by show _ ≤ i + 1; omega) (by show i + 1 ≤ _; omega)) (Ok.ret ?_))
    refine ⟨⟨by simp; omega, by show i + 1 ≤ n; omega, fun a ha => ?_, hp.2⟩, by show (n - (i + 1)).toNat < (n - i).toNat; omega⟩
    simp only [List.mem_append, List.mem_singleton] at ha
    rcases ha with ha | rfl
    · exact x3 a ha
    · have := hp.1; simp at this; omega
  · have c : ¬ i < n := by simpa using c
    exact ⟨by show (out.length : Int) = n; omega, x3, x4⟩
/-! ### growing -/
theorem leads_more {x : GRights} {g : GGrant} {a b : Int} (h : leads x a b) : leads { x with Grants := x.Grants ++ [g] } a b := by
  rcases h with h | ⟨y, hy, z, h⟩
  · exact .inl h
  · exact .inr ⟨y, by simp [hy], z, h⟩
theorem rch_more {x : GRights} {g : GGrant} {c k : Int} (h : Rch x c k) : Rch { x with Grants := x.Grants ++ [g] } c k := by
  induction h with
  | refl => exact .refl
  | step h hl ih => exact .step ih (leads_more hl)
theorem sumW_le {w w' : List Int} {x y : GRights} (g : GoodR x) (gy : GoodR y) (c : Int) (hw : wOK w) (hw' : wOK w') (h1 : ∀ i, w.getD i default ≤ w'.getD i default) (h2 : ∀ i, mx (Rch x c) i x.Grants ≤ mx (Rch y c) i y.Grants) :
    ∀ n, n ≤ w.length → n ≤ w'.length → sumW w x c n ≤ sumW w' y c n
  | 0, _, _ => Int.le_refl 0
  | n + 1, h, h' => by
    have ih := sumW_le g gy c hw hw' h1 h2 n (by omega) (by omega)
    have a1 := wget hw (n := n) (by omega)
    have a2 := mx_range (Rch x c) n x.Grants fun y hy => (g.gr y hy).2.2
    have a3 := Int.mul_le_mul (h1 n) (h2 n) a2.1 (Int.le_trans a1.1 (h1 n))
    simp only [sumW]
    omega
theorem grows_law (l : List Int) : F_law31_SeverityGrows l = some true := by
  refine Ok.eq ?_
  unfold F_law31_SeverityGrows
  refine Ok.ite (fun _ => awake_ok) fun c => ?_
  have hl : l.length ≤ 300 := by have := of_decide_eq_false c; omega
  refine Ok.bind (rights_ok (t := ⟨l, 0⟩) ⟨Int.le_refl 0, hl⟩) fun x hx => ?_
  obtain ⟨g, c1, c2, r1, r2, gl, hT⟩ := hx
  refine Ok.bind (worths_ok hT (by omega) (by omega)) fun w hw => ?_
  obtain ⟨w1, w2, w3⟩ := hw
  refine Ok.bind (next_ok w3 (by omega)) fun c hc => Ok.bind (next_ok hc.2.2 (by omega)) fun n hn => Ok.chk (room_sm (by omega)) ?_
  obtain ⟨hc1, hc2, _⟩ := hc
  obtain ⟨hn1, hn2, hn3⟩ := hn
  have hcr : 0 ≤ c.1 ∧ c.1 ≤ x.1.Credentials - 1 := by omega
  refine Ok.bind (next_ok hn3 (by omega)) fun p hp => Ok.bind (next_ok hp.2.2 (by omega)) fun q hq => Ok.bind (between_ok hq.2.2 (by omega) (by omega) (by omega)) fun z hz => ?_
  obtain ⟨p1, p2, _⟩ := hp
  obtain ⟨q1, q2, _⟩ := hq
  obtain ⟨z1, z2, z3⟩ := hz
  refine Ok.chk (room_sm (by simp only [List.length_singleton]; omega)) (Ok.chk (room_sm (by omega)) (Ok.bind (next_ok z3 (by omega)) fun k hk => ?_))
  obtain ⟨k1, k2, k3⟩ := hk
  have i0 : inb k.1 w.1.length = true := inb_iff.2 ⟨k1, k2⟩
  have hkl : k.1.toNat < w.1.length := by omega
  have hwk := wget w2 hkl
  refine Ok.chk i0 (Ok.bind (next_ok k3 (by omega)) fun d hd => ?_)
  obtain ⟨d1, d2, d3⟩ := hd
  refine Ok.chk (in64_sm (by omega) (by omega)) (Ok.chk i0 ?_)
  have hrate := rate_ok g w2 w1 hcr (n := n.1) (by omega) false
  rw [hrate]
  simp only [Option.bind_some]
  generalize hw' : w.1.set k.1.toNat (min 100 (w.1.getD k.1.toNat default + d.1)) = w'
  generalize hm : GRights.mk x.1.Credentials x.1.Resources (x.1.Grants ++ [GGrant.mk p.1 q.1 z.1]) x.1.Stores x.1.Mints = more
  have hm2 : more = { x.1 with Grants := x.1.Grants ++ [GGrant.mk p.1 q.1 z.1] } := hm.symm
  have gm : GoodR more := by
    rw [← hm]
    refine ⟨g.c0, g.c1, g.r0, g.r1, by simp; omega, g.sl, g.ml, fun y hy => ?_, g.st, g.mi⟩
    simp only [List.mem_append, List.mem_singleton] at hy
    rcases hy with hy | rfl
    · exact g.gr y hy
    · exact ⟨⟨p1, by show p.1 ≤ x.1.Credentials - 1; omega⟩, ⟨q1, by show q.1 ≤ x.1.Resources - 1; omega⟩, z1, z2⟩
  have hmr : more.Resources = x.1.Resources := by rw [← hm]
  have hmc : more.Credentials = x.1.Credentials := by rw [← hm]
  have hwl : w'.length = w.1.length := by rw [← hw']; simp
  have hwo : wOK w' := by
    intro a ha
    rw [← hw'] at ha
    rcases List.mem_or_eq_of_mem_set ha with ha | rfl
    · exact w2 a ha
    · omega
  have hwle : ∀ i, w.1.getD i default ≤ w'.getD i default := by
    intro i
    rw [← hw', List.getD_eq_getElem?_getD, List.getD_eq_getElem?_getD, List.getElem?_set]
    by_cases e : k.1.toNat = i
    · subst e
      rw [if_pos rfl, if_pos hkl, ← List.getD_eq_getElem?_getD, Option.getD_some]
      omega
    · rw [if_neg e]; exact Int.le_refl _
  have hmx : ∀ i, mx (Rch x.1 c.1) i x.1.Grants ≤ mx (Rch more c.1) i more.Grants := fun i => by
    rw [hm2]
    exact Int.le_trans (mx_mono (fun k hk => rch_more hk) i x.1.Grants) (mx_more _ i _ _)
  have r0 := sumW_range g w2 c.1 w.1.length (Nat.le_refl _)
  -- what is worth no less and is read by no fewer is scored no less
  have key : ∀ (y : GRights) (v : List Int) (m : Int) (pub : Bool), F_severity_Rate y v c.1 m pub = some (GSeverity.mk (lvl (sumW v y c.1 v.length * aud m pub)) (sumW v y c.1 v.length) (aud m pub) (sumW v y c.1 v.length * aud m pub), 0) →
      sumW w.1 x.1 c.1 w.1.length ≤ sumW v y c.1 v.length → aud n.1 false ≤ aud m pub → ∃ s : GSeverity, F_severity_Rate y v c.1 m pub = some (s, 0) ∧ sumW w.1 x.1 c.1 w.1.length * aud n.1 false ≤ s.Score ∧ lvl (sumW w.1 x.1 c.1 w.1.length * aud n.1 false) ≤ s.Level ∧ sumW w.1 x.1 c.1 w.1.length ≤ s.Worth ∧ aud n.1 false ≤ s.Audience := by
    intro y v m pub hr h1 h2
    have ha : 1 ≤ aud n.1 false := by simp [aud]; omega
    have hs := Int.mul_le_mul h1 h2 (by omega) (by omega)
    exact ⟨_, hr, hs, lvl_mono hs, h1, h2⟩
  refine Ok.bind (Ok.loop (Q := fun r => r = .inl ()) (fun s => s.1 = w' ∧ 0 ≤ s.2.1 ∧ s.2.1 ≤ 4 ∧ s.2.2.1 = more ∧ TOK s.2.2.2) (fun s => (4 - s.2.1).toNat) (fun s hs => ?_) _ ⟨rfl, by show (0 : Int) ≤ 0; omega, by show (0 : Int) ≤ 4; omega, rfl, d3⟩) fun r hr => by subst hr; exact awake_ok
  obtain ⟨s1, i, s3, t⟩ := s
  obtain ⟨e1, i1, i2, e4, ht⟩ := hs
  simp only at e1 i1 i2 e4 ht
  subst e1 e4
  unfold F_law31_SeverityGrows_L1
  refine Ok.ite (fun ci => ?_) fun ci => Ok.ret rfl
  have ci : i < 4 := by simpa using ci
  refine Ok.jn (P := fun j : List Int × Int × Bool × GRights × GTape => (∃ s : GSeverity, F_severity_Rate j.2.2.2.1 j.1 c.1 j.2.1 j.2.2.1 = some (s, 0) ∧ sumW w.1 x.1 c.1 w.1.length * aud n.1 false ≤ s.Score ∧ lvl (sumW w.1 x.1 c.1 w.1.length * aud n.1 false) ≤ s.Level ∧ sumW w.1 x.1 c.1 w.1.length ≤ s.Worth ∧ aud n.1 false ≤ s.Audience) ∧ TOK j.2.2.2.2) ?_ fun j hj => ?_
  · refine Ok.ite (fun _ => Ok.ret ⟨?_, ht⟩) fun _ => Ok.ite (fun _ => Ok.ret ⟨?_, ht⟩) fun _ => Ok.ite (fun _ => Ok.bind (next_ok ht (by omega)) fun e he => Ok.chk (in64_sm (by omega) (by omega)) (Ok.ret ⟨?_, he.2.2⟩)) fun _ => Ok.ret ⟨?_, ht⟩
    · exact key s3 w.1 n.1 false (rate_ok gm w2 (by rw [hmr]; exact w1) (by rw [hmc]; exact hcr) (by omega) false) (sumW_le g gm c.1 w2 w2 (fun i => Int.le_refl _) hmx _ (Nat.le_refl _) (Nat.le_refl _)) (Int.le_refl _)
    · refine key x.1 s1 n.1 false (rate_ok g hwo (by rw [hwl]; exact w1) hcr (by omega) false) ?_ (Int.le_refl _)
      rw [hwl]
      exact sumW_le g g c.1 w2 hwo hwle (fun i => Int.le_refl _) _ (Nat.le_refl _) (by omega)
    · exact key x.1 w.1 (n.1 + e.1) false (rate_ok g w2 w1 hcr (by omega) false) (Int.le_refl _) (by simp [aud]; omega)
    · exact key x.1 w.1 n.1 true (rate_ok g w2 w1 hcr (by omega) true) (Int.le_refl _) (by simp [aud]; omega)
  · obtain ⟨⟨s, hs, b1, b2, b3, b4⟩, hjt⟩ := hj
    rw [hs]
    simp only [Option.bind_some, decide_true, Bool.not_true, Bool.false_or, grp, Bool.or_false]
    have f1 : decide (s.Score < sumW w.1 x.1 c.1 w.1.length * aud n.1 false) = false := decide_eq_false (by omega)
    have f2 : decide (s.Level < lvl (sumW w.1 x.1 c.1 w.1.length * aud n.1 false)) = false := decide_eq_false (by omega)
    have f3 : decide (s.Worth < sumW w.1 x.1 c.1 w.1.length) = false := decide_eq_false (by omega)
    have f4 : decide (s.Audience < aud n.1 false) = false := decide_eq_false (by omega)
    rw [f1, f2, f3, f4]
    refine Ok.chk (in64_sm (by omega) (by omega)) (Ok.ret ?_)
    exact ⟨⟨rfl, by show 0 ≤ i + 1; omega, by show i + 1 ≤ 4; omega, rfl, hjt⟩, by show (4 - (i + 1)).toNat < (4 - i).toNat; omega⟩
end Go.Ab
