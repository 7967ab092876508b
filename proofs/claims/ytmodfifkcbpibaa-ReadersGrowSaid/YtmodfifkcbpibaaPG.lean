/- ReadersGrow. -/
import Derived.Test.YtmodfifkcbpibaaPY
import Derived.Test.YtmodfifkcbpibaaLG
set_option linter.all false
set_option linter.all false
namespace Go.Ab
open Go.Proofs Classical
theorem may_grant {d : GDirectory} {P : Int} {E : List GAccess} {u pl q p t : Int} (h0 : 0 ≤ pl) (h1 : pl ≤ P - 1) (hu : u ≤ t) : mayP d ⟨P, E ++ [⟨u, 1, pl, q, 0, 0, 0⟩]⟩ p pl t ↔ mayP d ⟨P, E⟩ p pl t ∨ (rdr d p ∧ q ∈ upl d p t) := by
 have hl : (lkf pl t (E ++ [⟨u, 1, pl, q, 0, 0, 0⟩]) 0 (0, false)) = lkf pl t E 0 (0, false) := by
   rw [lkf_append]
   simp [lkf, lst]
 have hk : ∀ x, x ∈ keysf pl t (E ++ [⟨u, 1, pl, q, 0, 0, 0⟩]) ↔ x ∈ keysf pl t E ∨ x = q := by
   intro x
   rw [keysf_snoc]
   have c : ¬ (t < u ∨ pl ≠ pl) := by simp; omega
   simp only [kst]
   rw [if_neg c, if_pos trivial]
   split
   · rename_i hm
     constructor
     · exact .inl
     · rintro (h | rfl)
       · exact h
       · exact hm
   · simp
 simp only [mayP, hl, hk]
 constructor
 · rintro ⟨h, h2 | ⟨x, h2 | rfl, h3⟩⟩
   · exact .inl ⟨h, .inl h2⟩
   · exact .inl ⟨h, .inr ⟨x, h2, h3⟩⟩
   · exact .inr ⟨h.1, h3⟩
 · rintro (⟨h, h2 | ⟨x, h2, h3⟩⟩ | ⟨h, h2⟩)
   · exact ⟨h, .inl h2⟩
   · exact ⟨h, .inr ⟨x, .inl h2, h3⟩⟩
   · exact ⟨⟨h, h0, h1⟩, .inr ⟨q, .inr rfl, h2⟩⟩
theorem grow28 (l : List Int) : F_law28_ReadersGrow l = some true := by
 refine Ok.eq ?_
 unfold F_law28_ReadersGrow
 refine Ok.ite (fun _ => awake28_ok) fun c => ?_
 have c : ¬ 400 < (l.length : Int) := by simpa using c
 refine Ok.bind (dir_ok (t := ⟨l, 0⟩) ⟨Int.le_refl 0, by show l.length ≤ 400; omega⟩) fun y6 hd => ?_
 obtain ⟨gd, d1, d2, d3, d4, d5⟩ := hd
 refine Ok.bind (estate_ok d5 d2) fun y8 he => ?_
 obtain ⟨ga, a1, a2, a3, a4⟩ := he
 have alo := ga.lo
 refine Ok.bind (next_ok a4 (by omega)) fun y11 hp => Ok.bind (next_ok hp.2.2 (by omega)) fun y12 hq => ?_
 have hpl : y11.1 ≤ y8.1.Places - 1 := by omega
 refine Ok.jn (P := fun j => 0 ≤ j ∧ j ≤ 33 ∧ ∀ x ∈ y8.1.Events, x.Time ≤ j) ?_ fun j hj => ?_
 · refine Ok.ite (fun c => ?_) fun c => Ok.ret ⟨by omega, by omega, fun x hx => ?_⟩
   · have c : 0 < (y8.1.Events.length : Int) := by simpa using c
     refine Ok.chk (in64_sm (by omega) (by omega)) (Ok.chk (inb_iff.2 ⟨by omega, by omega⟩) (Ok.ret ?_))
     have hl : y8.1.Events.length - 1 < y8.1.Events.length := by omega
     have e : y8.1.Events.getD ((y8.1.Events.length : Int) - 1).toNat default = y8.1.Events[y8.1.Events.length - 1] := by
       rw [show ((y8.1.Events.length : Int) - 1).toNat = y8.1.Events.length - 1 by omega]
       simp [List.getD_eq_getElem?_getD, hl]
     rw [e]
     have hm : y8.1.Events[y8.1.Events.length - 1] ∈ y8.1.Events := List.getElem_mem hl
     refine ⟨(ga.ev _ hm).1, a3 _ hm, fun x hx => ?_⟩
     obtain ⟨i, hi, rfl⟩ := List.mem_iff_getElem.1 hx
     by_cases q : i = y8.1.Events.length - 1
     · subst q; exact Int.le_refl _
     · exact (List.pairwise_iff_getElem.1 ga.srt) i (y8.1.Events.length - 1) hi hl (by omega)
   · have c : ¬ 0 < (y8.1.Events.length : Int) := by simpa using c
     have : y8.1.Events = [] := List.length_eq_zero_iff.1 (by omega)
     rw [this] at hx; cases hx
 obtain ⟨j1, j2, j3⟩ := hj
 have gx : xok y8.1.Places ⟨j, 1, y11.1, y12.1, 0, 0, 0⟩ := ⟨j1, by show j ≤ 1099511627776; omega, hp.1, hpl, .inl ⟨.inl rfl, hq.1, by show y12.1 ≤ 23; omega, rfl, rfl, rfl⟩⟩
 have ga' : Good ⟨y8.1.Places, y8.1.Events ++ [⟨j, 1, y11.1, y12.1, 0, 0, 0⟩]⟩ := ⟨ga.lo, ga.hi, by simp; omega, fun e he => by
     simp only [List.mem_append, List.mem_singleton] at he
     rcases he with he | rfl
     · exact ga.ev e he
     · exact gx, by
     simp only [List.pairwise_append]
     exact ⟨ga.srt, by simp, fun e he w hw => by
       simp only [List.mem_singleton] at hw
       subst hw
       exact j3 e he⟩⟩
 refine Ok.chk (room_sm (by omega)) (Ok.chk (room_sm (by simp; omega)) (Ok.bind (P := fun r => r = .inl ()) (Ok.loop (fun s : Int × GEstate => j ≤ s.1 ∧ s.1 ≤ j + 6 ∧ s.2 = ⟨y8.1.Places, y8.1.Events ++ [⟨j, 1, y11.1, y12.1, 0, 0, 0⟩]⟩) (fun s : Int × GEstate => (j + 6 - s.1).toNat) (fun s hs => ?_) _ ⟨by simp, by simp; omega, rfl⟩) fun r hr => ?_))
 · obtain ⟨t, a'⟩ := s
   obtain ⟨s1, s2, s3⟩ := hs
   simp only at s1 s2 s3
   subst s3
   unfold F_law28_ReadersGrow_L2
   refine Ok.chk (in64_sm (by omega) (by omega)) (Ok.ite (fun c => ?_) fun _ => Ok.ret rfl)
   have c : t < j + 6 := by simpa using c
   refine Ok.bind (P := fun o => o = .nx ()) (Ok.forI (all := y6.1.Kinds) (fun _ _ => True) y6.1.Kinds [] 0 () rfl rfl trivial (fun pre x r s hw _ => ?_) fun s _ => rfl) fun o ho => ?_
   · have hp1 : (pre.length : Int) < y6.1.Kinds.length := by rw [hw]; simp; omega
     have hp0 : (0 : Int) ≤ pre.length := by omega
     unfold F_law28_ReadersGrow_L1
     simp only [may_eq gd ga, may_eq gd ga', rreader_eq gd, Option.bind_some, in_eq gd y12.1 t hp0 hp1]
     refine Ok.jn (P := fun j => j = decide (rdr y6.1 pre.length ∧ y12.1 ∈ upl y6.1 pre.length t)) ?_ fun b hb => Ok.grp ?_
     · by_cases c : rdr y6.1 pre.length
       · by_cases e : (pre.length : Int) = y12.1
         · rw [decide_eq_true c, cond_true, decide_eq_true e, cond_true]
           refine Ok.ret ?_
           have := upl_self (d := y6.1) (t := t) hp0 hp1
           rw [e] at this c
           simp [e, c, this]
         · have e' : ¬ y12.1 = (pre.length : Int) := fun h => e h.symm
           rw [decide_eq_true c, cond_true, decide_eq_false e, cond_false]
           refine Ok.ret ?_
           simp [c, e']
       · rw [decide_eq_false c, cond_false]
         refine Ok.ret ?_
         simp [c]
     · subst hb
       have hm := may_grant (d := y6.1) (P := y8.1.Places) (E := y8.1.Events) (q := y12.1) (p := pre.length) hp.1 hpl s1
       have : (decide (mayP y6.1 ⟨y8.1.Places, y8.1.Events ++ [⟨j, 1, y11.1, y12.1, 0, 0, 0⟩]⟩ pre.length y11.1 t) == (decide (mayP y6.1 y8.1 pre.length y11.1 t) || decide (rdr y6.1 pre.length ∧ y12.1 ∈ upl y6.1 pre.length t))) = true := by
         rw [beq_iff_eq, Bool.eq_iff_iff]
         simp only [decide_eq_true_eq, Bool.or_eq_true]
         exact hm
       rw [this]
       exact Ok.ret trivial
   · subst ho
     exact Ok.chk (in64_sm (by omega) (by omega)) (Ok.ret ⟨⟨by show j ≤ t + 1; omega, by show t + 1 ≤ j + 6; omega, rfl⟩, by show (j + 6 - (t + 1)).toNat < (j + 6 - t).toNat; omega⟩)
 · subst hr
   exact awake28_ok
end Go.Ab
