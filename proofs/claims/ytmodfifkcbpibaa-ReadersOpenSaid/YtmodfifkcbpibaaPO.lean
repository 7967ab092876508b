/- ReadersOpen. -/
import Derived.Test.YtmodfifkcbpibaaPY
import Derived.Test.YtmodfifkcbpibaaLO
set_option linter.all false
set_option linter.all false
namespace Go.Ab
open Go.Proofs Classical
theorem anyL {d : GDirectory} (g : GoodD d) {t p : Int} (h0 : 0 ≤ p) (h1 : p < d.Kinds.length) (y6 : GDirectory × GTape) (hy : y6.1 = d) (y12 : Int × GTape) (ht : y12.1 = t) : ∀ (l : List Int) (k : Int) (b : Bool),
   foldL (F_law28_ReadersOpen_L1 y6 y12 p) l k b = some (b || decide (rdr d p ∧ ∃ q ∈ l, q ∈ upl d p t))
 | [], k, b => by simp [foldL]
 | q :: r, k, b => by
   subst hy ht
   have ih := anyL g h0 h1 y6 rfl y12 rfl r
   have hb : F_law28_ReadersOpen_L1 y6 y12 p k q b = some (b || decide (rdr y6.1 p ∧ q ∈ upl y6.1 p y12.1)) := by
     simp only [F_law28_ReadersOpen_L1, rreader_eq g, Option.bind_some, jn, in_eq g q y12.1 h0 h1]
     cases b with
     | true => simp
     | false =>
       by_cases c : rdr y6.1 p
       · by_cases e : p = q
         · subst e; simp [c, upl_self (t := y12.1) h0 h1]
         · have e' : ¬ q = p := fun h => e h.symm
           simp [c, e, e']
       · simp [c]
   simp only [foldL, hb, Option.bind_some, ih]
   congr 1
   by_cases c : rdr y6.1 p
   · by_cases e : q ∈ upl y6.1 p y12.1 <;> simp [c, e]
   · simp [c]
theorem open28 (l : List Int) : F_law28_ReadersOpen l = some true := by
 refine Ok.eq ?_
 unfold F_law28_ReadersOpen
 refine Ok.ite (fun _ => awake28_ok) fun c => ?_
 have c : ¬ 400 < (l.length : Int) := by simpa using c
 refine Ok.bind (dir_ok (t := ⟨l, 0⟩) ⟨Int.le_refl 0, by show l.length ≤ 400; omega⟩) fun y6 hd => ?_
 obtain ⟨gd, d1, d2, d3, d4, d5⟩ := hd
 refine Ok.bind (estate_ok d5 d2) fun y8 he => ?_
 obtain ⟨ga, a1, a2, a3, a4⟩ := he
 have alo := ga.lo
 refine Ok.bind (next_ok a4 (by omega)) fun y11 hp => Ok.bind (next_ok hp.2.2 (by omega)) fun y12 ht => ?_
 have hpl : y11.1 ≤ y8.1.Places - 1 := by omega
 have hk := known_of ga hp.1 hpl
 refine Ok.bind (Ok.of (who_eq gd ga y12.1 hp.1 hpl) rfl) fun y14 h14 => Ok.bind (Ok.of ((rLinked_eq y8.1 y11.1 y12.1 ga.len).trans (linked_eq y12.1 hk)) rfl) fun y16 h16 => Ok.grp ?_
 subst h14 h16
 simp only [decide_true, Bool.not_true, Bool.false_or, beq_self_eq_true, cond_false]
 refine Ok.bind (P := fun o => o = .nx ()) (Ok.forI (all := y6.1.Kinds) (fun _ _ => True) y6.1.Kinds [] 0 () rfl rfl trivial (fun pre x r s hw _ => ?_) fun s _ => rfl) fun o ho => ?_
 · have hp1 : (pre.length : Int) < y6.1.Kinds.length := by rw [hw]; simp; omega
   have hp0 : (0 : Int) ≤ pre.length := by omega
   unfold F_law28_ReadersOpen_L2
   simp only [rreader_eq gd, rGranted_eq, granted_eq y12.1 ga.len hk, Option.bind_some, rhas_eq]
   refine Ok.jn (P := fun j => j = ((lkf y11.1 y12.1 y8.1.Events 0 (0, false)).2 && decide (rdr y6.1 pre.length))) ?_ fun j hj => ?_
   · cases (lkf y11.1 y12.1 y8.1.Events 0 (0, false)).2 <;> exact Ok.ret (by simp)
   · rw [anyL gd hp0 hp1 y6 rfl y12 rfl]
     simp only [Option.bind_some]
     subst hj
     have : decide ((pre.length : Int) ∈ mays y6.1 y8.1 y11.1 y12.1) = ((lkf y11.1 y12.1 y8.1.Events 0 (0, false)).2 && decide (rdr y6.1 pre.length) || decide (rdr y6.1 pre.length ∧ ∃ q ∈ srtI (keysf y11.1 y12.1 y8.1.Events), q ∈ upl y6.1 pre.length y12.1)) := by
       rw [Bool.eq_iff_iff]
       simp only [decide_eq_true_eq, mem_mays, mayP, Bool.or_eq_true, Bool.and_eq_true, srtI_mem]
       constructor
       · rintro ⟨⟨h1, _⟩, h2 | h2⟩
         · exact .inl ⟨h2, h1⟩
         · exact .inr ⟨h1, h2⟩
       · rintro (⟨h1, h2⟩ | ⟨h1, h2⟩)
         · exact ⟨⟨h2, hp.1, hpl⟩, .inl h1⟩
         · exact ⟨⟨h1, hp.1, hpl⟩, .inr h2⟩
     rw [this]
     simp only [beq_self_eq_true, Bool.not_true, cond_false]
     exact Ok.ret trivial
 · subst ho
   exact awake28_ok
end Go.Ab
