/- ReadersProofs. -/
import Derived.Test.YtmodfifkcbpibaaGreatPY
import Derived.Test.YtmodfifkcbpibaaGreatPX
import Derived.Test.YtmodfifkcbpibaaGreatLP
set_option linter.all false
set_option linter.all false
namespace Go.Ab
open Go.Proofs Classical
theorem proofs28 (l : List Int) : F_law28_ReadersProofs l = some true := by
 refine Ok.eq ?_
 unfold F_law28_ReadersProofs
 refine Ok.ite (fun _ => awake28_ok) fun c => ?_
 have c : ¬ 400 < (l.length : Int) := by simpa using c
 refine Ok.bind (dir_ok (t := ⟨l, 0⟩) ⟨Int.le_refl 0, by show l.length ≤ 400; omega⟩) fun y6 hd => ?_
 obtain ⟨gd, d1, d2, d3, d4, d5⟩ := hd
 refine Ok.bind (estate_ok d5 d2) fun y8 he => ?_
 obtain ⟨ga, a1, a2, a3, a4⟩ := he
 have alo := ga.lo
 refine Ok.bind (next_ok a4 (by omega)) fun y11 hp => Ok.bind (next_ok hp.2.2 (by omega)) fun y12 ht => ?_
 have hpl : y11.1 ≤ y8.1.Places - 1 := by omega
 refine Ok.bind (P := fun o => o = .nx ()) (Ok.forI (all := y6.1.Kinds) (fun _ _ => True) y6.1.Kinds [] 0 () rfl rfl trivial (fun pre x r s hw _ => ?_) fun s _ => rfl) fun o ho => ?_
 · have hp1 : (pre.length : Int) < y6.1.Kinds.length := by rw [hw]; simp; omega
   have hp0 : (0 : Int) ≤ pre.length := by omega
   unfold F_law28_ReadersProofs_L1
   refine Ok.bind (why_ok gd ga (pre.length : Int) y11.1 y12.1) fun w hw => ?_
   obtain ⟨w1, w2, w3⟩ := hw
   rw [rreader_eq gd]
   simp only [Option.bind_some, may_eq gd ga, w1]
   refine Ok.ite (fun c1 => ?_) fun c1 => ?_
   · have c1 : ¬ rdr y6.1 (pre.length : Int) := by simpa using c1
     have hm : ¬ mayP y6.1 y8.1 (pre.length : Int) y11.1 y12.1 := fun h => c1 h.1.1
     simp only [decide_eq_false hm, cond_false]
     exact Ok.ret trivial
   · have c1 : rdr y6.1 (pre.length : Int) := by simpa using c1
     have hul := upl_len y6.1 (pre.length : Int) y12.1
     rw [rupward_eq gd y12.1 hp0 hp1]
     simp only [Option.bind_some, refutes_eq gd ga _ _ _ (upl y6.1 (pre.length : Int) y12.1) (by omega), ref_upl c1 hp.1 hpl, beq_self_eq_true, Bool.not_true, cond_false]
     by_cases hm : mayP y6.1 y8.1 (pre.length : Int) y11.1 y12.1
     · obtain ⟨v1, v2, v3, v4⟩ := w2 hm
       simp only [hm, decide_true, not_true_eq_false, decide_false, cond_true, proves_eq gd ga _ w.1 (by omega), v4, Option.bind_some, Bool.not_true, cond_false]
       exact Ok.ret trivial
     · simp only [hm, decide_false, not_false_eq_true, decide_true, cond_false]
       exact Ok.ret trivial
 · subst ho
   exact awake28_ok
end Go.Ab
