/- ReadersGroups. -/
import Derived.Test.YtmodfifkcbpibaaPY
import Derived.Test.YtmodfifkcbpibaaLR
set_option linter.all false
set_option linter.all false
namespace Go.Ab
open Go.Proofs Classical
theorem same_eq (a b : GAudience) : F_ref28_Same a b = some (decide (a.Public = b.Public ∧ a.Principals = b.Principals)) := by
 simp only [F_ref28_Same, ints_eq, jn]
 by_cases c : a.Public = b.Public
 · simp [c]
 · have : (a.Public == b.Public) = false := by simpa using c
   simp [this, c]
theorem groups_eq {d : GDirectory} (g : GoodD d) : F_made_Groups d = some (((List.range d.Kinds.length).filter fun i : Nat => decide (grpP d i)).map fun i : Nat => (i : Int)) := by
 have hk := g.kl
 simp only [F_made_Groups]
 rw [fold_filter (fun i : Nat => decide (grpP d i)) d.Kinds hk fun i x s hi hs => by
   simp only [F_made_Groups_L1, rgroup_eq hk, Option.bind_some]
   by_cases c : grpP d i
   · simp only [decide_eq_true c, cond_true, if_true]
     exact chk_true (room_smD (by simp; omega))
   · simp [c]]
 rfl
noncomputable def mbrs (d : GDirectory) (q t : Int) : List Int :=
 open Classical in ((List.range d.Kinds.length).filter fun i : Nat => decide (rdr d i ∧ q ∈ upl d i t)).map fun i : Nat => (i : Int)
theorem mem_mbrs {d : GDirectory} {q t x : Int} : x ∈ mbrs d q t ↔ rdr d x ∧ q ∈ upl d x t := by
 classical
 simp only [mbrs, List.mem_map, List.mem_filter, List.mem_range, decide_eq_true_eq]
 constructor
 · rintro ⟨i, ⟨_, h⟩, rfl⟩; exact h
 · rintro ⟨h, h2⟩
   have hh := h
   obtain ⟨h0, h1, _⟩ := hh
   exact ⟨x.toNat, ⟨by omega, by rw [Int.toNat_of_nonneg h0]; exact ⟨h, h2⟩⟩, Int.toNat_of_nonneg h0⟩
theorem members_eq {d : GDirectory} (g : GoodD d) {q : Int} (t : Int) (hq : grpP d q) : F_ref23_Members d q t = some (mbrs d q t) := by
 classical
 have hk := g.kl
 simp only [F_ref23_Members, dvalid_of g, rgroup_eq hk, Option.bind_some, Bool.not_true, cond_false, decide_eq_true hq]
 rw [fold_filter (fun i : Nat => decide (rdr d i ∧ q ∈ upl d i t)) d.Kinds hk fun i x s hi hs => by
   have h0 : (0 : Int) ≤ i := by omega
   have h1 : (i : Int) < d.Kinds.length := by omega
   simp only [F_ref23_Members_L1, rreader_eq g, Option.bind_some, jn, rgroups_eq g t h0 h1, rhas_eq]
   by_cases c : rdr d i
   · have hne : ¬ q = i := fun e => c.2.2 (e ▸ hq.2.2)
     simp only [decide_eq_true c, cond_true, Option.bind_some, List.mem_filter, decide_eq_false hne, Bool.not_false, and_true]
     by_cases e : q ∈ upl d i t
     · simp only [decide_eq_true e, cond_true, decide_eq_true (show rdr d i ∧ q ∈ upl d i t from ⟨c, e⟩), if_true]
       exact chk_true (room_smD (by simp; omega))
     · simp [e]
   · simp [c]]
 rfl
theorem keys_each {t : Int} : ∀ (l : List Int) (ks : List Int), (l.map fun p => (⟨t, 1, 0, p, 0, 0, 0⟩ : GAccess)).foldl (fun ks x => kst 0 t x ks) ks = l.foldl (fun ks p => if p ∈ ks then ks else ks ++ [p]) ks
 | [], ks => rfl
 | p :: r, ks => by
   simp only [List.map_cons, List.foldl_cons, keys_each r]
   congr 1
   simp [kst]
theorem mem_dedup {x : Int} : ∀ (l : List Int) (ks : List Int), x ∈ l.foldl (fun ks p => if p ∈ ks then ks else ks ++ [p]) ks ↔ x ∈ ks ∨ x ∈ l
 | [], ks => by simp
 | p :: r, ks => by
   simp only [List.foldl_cons, mem_dedup r, List.mem_cons]
   split
   · rename_i h
     constructor
     · rintro (h | h)
       · exact .inl h
       · exact .inr (.inr h)
     · rintro (h2 | rfl | h2)
       · exact .inl h2
       · exact .inl h
       · exact .inr h2
   · simp [or_assoc]
theorem lk_each {t : Int} : ∀ (l : List Int) (i : Int) (s : Int × Bool), lkf 0 t (l.map fun p => (⟨t, 1, 0, p, 0, 0, 0⟩ : GAccess)) i s = s
 | [], i, s => rfl
 | p :: r, i, s => by
   simp only [List.map_cons, lkf, lk_each r]
   simp [lst]
theorem good_each {l : List Int} {t : Int} (hl : l.length ≤ 24) (h : ∀ p ∈ l, 0 ≤ p ∧ p ≤ 23) (h0 : 0 ≤ t) (h1 : t ≤ 24) : Good ⟨1, l.map fun p => (⟨t, 1, 0, p, 0, 0, 0⟩ : GAccess)⟩ := by
 refine ⟨Int.le_refl 1, by simp, by simp; omega, fun e he => ?_, ?_⟩
 · simp only [List.mem_map] at he
   obtain ⟨p, hp, rfl⟩ := he
   exact ⟨h0, by show t ≤ 1099511627776; omega, by show (0 : Int) ≤ 0; omega, by show (0 : Int) ≤ 1 - 1; omega, .inl ⟨.inl rfl, (h p hp).1, (h p hp).2, rfl, rfl, rfl⟩⟩
 · rw [List.pairwise_map]
   exact List.pairwise_of_forall fun _ _ => Int.le_refl _
theorem each_eq {t : Int} (y16 : Int × GTape) (hy : y16.1 = t) : ∀ (l : List Int) (k : Int) (s : List GAccess), s.length + l.length ≤ 100 → foldL (F_law28_ReadersGroups_L1 y16) l k s = some (s ++ l.map fun p => (⟨t, 1, 0, p, 0, 0, 0⟩ : GAccess))
 | [], k, s, _ => by simp [foldL]
 | p :: r, k, s, h => by
   simp only [List.length_cons] at h
   simp only [foldL, F_law28_ReadersGroups_L1]
   rw [chk_true (room_smD (by simp; omega)), Option.bind_some, each_eq y16 hy r (k + 1) _ (by simp; omega), hy]
   simp
theorem groups28 (l : List Int) : F_law28_ReadersGroups l = some true := by
 refine Ok.eq ?_
 unfold F_law28_ReadersGroups
 refine Ok.ite (fun _ => awake28_ok) fun c => ?_
 have c : ¬ 400 < (l.length : Int) := by simpa using c
 refine Ok.bind (dir_ok (t := ⟨l, 0⟩) ⟨Int.le_refl 0, by show l.length ≤ 400; omega⟩) fun y6 hd => ?_
 obtain ⟨gd, d1, d2, d3, d4, d5⟩ := hd
 refine Ok.bind (Ok.of (groups_eq gd) rfl) fun gs hgs => Ok.ite (fun _ => awake28_ok) fun cl => ?_
 have cl : ¬ (gs.length : Int) = 0 := by simpa using cl
 have hgl : gs.length ≤ 24 := by
   have := gd.kl
   rw [← hgs, List.length_map]; exact Nat.le_trans (List.length_filter_le _ _) (by simp; omega)
 have hgm : ∀ x ∈ gs, grpP y6.1 x := fun x hx => by
   rw [← hgs] at hx
   simp only [List.mem_map, List.mem_filter, decide_eq_true_eq] at hx
   obtain ⟨i, ⟨_, h⟩, rfl⟩ := hx
   exact h
 refine Ok.bind (next_ok d5 (by omega)) fun y15 h15 => Ok.chk (inb_iff.2 ⟨h15.1, h15.2.1⟩) (Ok.bind (next_ok h15.2.2 (by omega)) fun y16 h16 => ?_)
 have hq : grpP y6.1 (gs.getD y15.1.toNat default) := by
   have h1 : y15.1.toNat < gs.length := by have := h15.1; have := h15.2.1; omega
   have : gs.getD y15.1.toNat default = gs[y15.1.toNat] := by simp [List.getD_eq_getElem?_getD, h1]
   rw [this]; exact hgm _ (List.getElem_mem h1)
 generalize gs.getD y15.1.toNat default = q at hq
 refine Ok.bind (Ok.of (members_eq gd y16.1 hq) rfl) fun mb hmb => ?_
 have hml : mb.length ≤ 24 := by
   have := gd.kl
   rw [← hmb, mbrs, List.length_map]; exact Nat.le_trans (List.length_filter_le _ _) (by simp; omega)
 have hmm : ∀ x, x ∈ mb ↔ rdr y6.1 x ∧ q ∈ upl y6.1 x y16.1 := fun x => by rw [← hmb]; exact mem_mbrs
 have ge : Good ⟨1, mb.map fun p => (⟨y16.1, 1, 0, p, 0, 0, 0⟩ : GAccess)⟩ := good_each hml (fun p hp => by
   have h := ((hmm p).1 hp).1
   have := gd.kl
   exact ⟨h.1, by have := h.2.1; omega⟩) h16.1 (by omega)
 have go : Good ⟨1, [⟨y16.1, 1, 0, q, 0, 0, 0⟩]⟩ := good_each (l := [q]) (by simp) (fun p hp => by
   simp only [List.mem_singleton] at hp
   subst hp
   have := gd.kl
   exact ⟨hq.1, by have := hq.2.1; omega⟩) h16.1 (by omega)
 have e1 : ∀ x, mayP y6.1 ⟨1, [⟨y16.1, 1, 0, q, 0, 0, 0⟩]⟩ x 0 y16.1 ↔ x ∈ mb := fun x => by
   have hl := lk_each (t := y16.1) [q] 0 (0, false)
   have hks := keys_each (t := y16.1) [q] []
   simp only [List.map_cons, List.map_nil] at hl hks
   rw [hmm]
   simp only [mayP, hl, keysf, hks, mem_dedup]
   constructor
   · rintro ⟨⟨h, _⟩, h2 | ⟨y, h2, h3⟩⟩
     · cases h2
     · simp only [List.not_mem_nil, false_or, List.mem_singleton] at h2
       subst h2; exact ⟨h, h3⟩
   · rintro ⟨h, h2⟩
     exact ⟨⟨h, by omega, by omega⟩, .inr ⟨q, by simp, h2⟩⟩
 have e2 : ∀ x, mayP y6.1 ⟨1, mb.map fun p => (⟨y16.1, 1, 0, p, 0, 0, 0⟩ : GAccess)⟩ x 0 y16.1 ↔ x ∈ mb := fun x => by
   simp only [mayP, lk_each, keysf, keys_each, mem_dedup]
   constructor
   · rintro ⟨⟨h, _⟩, h2 | ⟨y, h2, h3⟩⟩
     · cases h2
     · simp only [List.not_mem_nil, false_or] at h2
       rcases upl_group gd h.1 h3 with e | e
       · rw [← e]; exact h2
       · exact absurd e.2.2 ((hmm y).1 h2).1.2.2
   · intro h
     have hr := ((hmm x).1 h).1
     exact ⟨⟨hr, by omega, by omega⟩, .inr ⟨x, by simp [h], upl_self hr.1 hr.2.1⟩⟩
 refine Ok.bind (Ok.of (each_eq y16 rfl mb 0 [] (by simp; omega)) rfl) fun ev hev => ?_
 simp only [List.nil_append] at hev
 subst hev
 refine Ok.bind (Ok.of (who_eq gd go y16.1 (Int.le_refl 0) (by simp)) rfl) fun y40 h40 => Ok.bind (Ok.of (who_eq gd ge y16.1 (Int.le_refl 0) (by simp)) rfl) fun y42 h42 => ?_
 have m1 : mays y6.1 ⟨1, [⟨y16.1, 1, 0, q, 0, 0, 0⟩]⟩ 0 y16.1 = mb := by
   rw [← hmb, mays, mbrs]
   congr 1
   refine List.filter_congr fun i _ => decide_eq_decide.2 ?_
   rw [e1, hmm]
 have m2 : mays y6.1 ⟨1, mb.map fun p => (⟨y16.1, 1, 0, p, 0, 0, 0⟩ : GAccess)⟩ 0 y16.1 = mb := by
   rw [← hmb, mays, mbrs]
   congr 1
   refine List.filter_congr fun i _ => decide_eq_decide.2 ?_
   have := e2 i
   rw [← hmb] at this
   simp only [mbrs] at this
   rw [this, ← mbrs, mem_mbrs]
 have hl := lk_each (t := y16.1) [q] 0 (0, false)
 simp only [List.map_cons, List.map_nil] at hl
 rw [m1, hl] at h40
 rw [m2, lk_each] at h42
 subst h40 h42
 simp only [decide_true, cond_true, same_eq, members_eq gd y16.1 hq, hmb, ints_eq, Option.bind_some, and_self]
 exact awake28_ok
end Go.Ab
