/- The closing of the card of leakresponse/leakresponselaw31.SeverityExact: from the walk's contract to the given statement. By AI agents. -/
import Derived.Test.YtopbblhkapgdkaaDoorCards
import Derived.Test.YtopbblhkapgdkaaDoorTie
import Derived.WalkKit
import Derived.ProofKit
import Derived.OpenShut
import Derived.Deep.DeepHandedRow
import Derived.Lib.LaidTab
import Derived.Test.YtopbblhkapgdkaaDoorAbTop
import Derived.Test.YtopbblhkapgdkaaDoorPL31g
import Derived.Test.YtopbblhkapgdkaaDoorARC31Exa
set_option linter.all false
set_option linter.unusedVariables false
set_option maxRecDepth 100000
namespace Go.Proofs.YtopbblhkapgdkaaDoor
open Go.Ab
open Go.ChangeShapes Go.WideShapes Go.ChangeAt Go.RowKit

theorem own : ownKnob Tryd.prog.godebug = none := by kernel_rfl

theorem tabs {W : World} (h0 : laidMetH Tryd.prog Rows.severityExactRow.laid W) : Tabs Tryd.prog W := by
  have h : laidMet Tryd.prog Rows.severityExactRow.laid W := h0
  intro d hd hg
  simp only [tabs0, List.mem_cons, List.not_mem_nil, or_false] at hd
  rcases hd with rfl | rfl | rfl
  · rw [show Tryd.prog.globalNamed "internal/strconv.uint64pow10" = none by kernel_rfl] at hg; cases hg
  · exact tab_of_mem (W := W) (name := "leakresponse/severity.levels") (g := 0) (t := 47) (e := 3) (n := 4) (by simp [Rows.severityExactRow]; rfl) (by kernel_rfl) (by kernel_rfl) (by kernel_rfl) (by kernel_rfl) (by kernel_rfl) (by kernel_rfl) h
  · rw [show Tryd.prog.globalNamed "leakresponse/notice.deadlines" = none by kernel_rfl] at hg; cases hg

theorem hcall (ys : List V) (h : argsOK [(false, [.sl false [.int .i64]]), (true, [.int .i64, .int .i64, .sl true [.int .i64, .int .i64, .int .i64], .sl true [.int .i64, .int .i64], .sl true [.int .i64, .int .i64]]), (false, [.sl false [.int .i64]]), (false, [.int .i64]), (false, [.int .i64]), (false, [.int .i64]), (false, [.sl true [.int .i64, .int .i64, .int .i64, .int .i64]])] ys) : ACall Tryd.prog 6 ys [] (fun r H => r = .bool true ∧ H = []) := by
  obtain ⟨x0, ys, rfl, h0, h⟩ := argsOK_cons h
  obtain ⟨x1, ys, rfl, h1, h⟩ := argsOK_cons h
  obtain ⟨x2, ys, rfl, h2, h⟩ := argsOK_cons h
  obtain ⟨x3, ys, rfl, h3, h⟩ := argsOK_cons h
  obtain ⟨x4, ys, rfl, h4, h⟩ := argsOK_cons h
  obtain ⟨x5, ys, rfl, h5, h⟩ := argsOK_cons h
  obtain ⟨x6, ys, rfl, h6, h⟩ := argsOK_cons h
  obtain rfl := argsOK_nil h
  obtain ⟨a, rfl⟩ := slOK_i64 h0.1
  obtain ⟨_, rfl, h1⟩ := h1
  obtain ⟨b, e1⟩ := elOK_GRights h1
  rw [e1]
  obtain ⟨c, rfl⟩ := slOK_i64 h2.1
  obtain ⟨d, rfl⟩ := clOK_i64 h3.1
  obtain ⟨e, rfl⟩ := clOK_i64 h4.1
  obtain ⟨f, rfl⟩ := clOK_i64 h5.1
  obtain ⟨g, rfl⟩ := slOK_GSeverity h6.1
  exact W_law31_SeverityExact (exact_law a b c d e f g)

theorem contract (H : Type) (enc : TypeId × Value → H) (W : World) (base : Nat) (args : Array Value) (ds gs : List (DataW H)) (before : List MemPlace)
    (hval : ∀ (j : Nat) t v, Tryd.f6.params[j]? = some t → args[j]? = some v → Value.okWide Tryd.prog W .any base t v)
    (hW : DataW.Whole enc Tryd.prog Tryd.f6.params.toList Rows.severityExactSpec.vars false W args.toList ds gs before) (hL : laidMetH Tryd.prog Rows.severityExactRow.laid W) :
    Calls Tryd.prog 6 args W fun e W' => ∃ v, e = .returned v ∧ Rows.severityExactSpec.post enc Tryd.prog Tryd.f6 false true false false W args v W' :=
  law_calls (n := 30) (shs := [(false, [.sl false [.int .i64]]), (true, [.int .i64, .int .i64, .sl true [.int .i64, .int .i64, .int .i64], .sl true [.int .i64, .int .i64], .sl true [.int .i64, .int .i64]]), (false, [.sl false [.int .i64]]), (false, [.int .i64]), (false, [.int .i64]), (false, [.int .i64]), (false, [.sl true [.int .i64, .int .i64, .int .i64, .int .i64]])]) (tb := 4) (by kernel_rfl)
    (fun t ht => by
      have h : (Tryd.f6.params.toList.all fun t => Tryd.prog.readableRec t && decide (t < Tryd.prog.types.size)) = true := by kernel_rfl
      have := List.all_eq_true.1 h t ht
      simpa using this)
    (by kernel_rfl) (by kernel_rfl) Tryd.underlying4 rfl
    (fun ds h => by
      have hs : Tryd.f6.params.size = 7 := by kernel_rfl
      rw [hs] at h
      match ds, h with
      | [_, _, _, _, _, _, _], _ => rfl) hcall hval hW (tabs hL)

noncomputable def laidWorld (os : Os) : World :=
  { World.holding Tryd.prog os ⟨#[], #[], []⟩ with heap := ((World.holding Tryd.prog os ⟨#[], #[], []⟩).heap.modify 0 fun | .cells _ t frozen => .cells #[.int .i64 1, .int .i64 100, .int .i64 1000, .int .i64 10000] t frozen | o => o) }
theorem laid_met (os : Os) : laidMet Tryd.prog Rows.severityExactRow.laid ((laidWorld os).forCall (fun _ _ => 0) ⟨#[], #[.slice none 0 0, .agg #[.int .i64 0, .int .i64 0, .slice none 0 0, .slice none 0 0, .slice none 0 0], .slice none 0 0, .int .i64 0, .int .i64 0, .int .i64 0, .slice none 0 0], []⟩).memory :=
  laidMet_of_run' 8 (by kernel_rfl) (by kernel_rfl)
theorem reads (os : Os) {H : Type} (enc : TypeId × Value → H) : ∃ places, DataW.whole enc Tryd.prog ((laidWorld os).forCall (fun _ _ => 0) ⟨#[], #[.slice none 0 0, .agg #[.int .i64 0, .int .i64 0, .slice none 0 0, .slice none 0 0, .slice none 0 0], .slice none 0 0, .int .i64 0, .int .i64 0, .int .i64 0, .slice none 0 0], []⟩).memory Tryd.f6.params.toList Rows.severityExactSpec.vars false #[.slice none 0 0, .agg #[.int .i64 0, .int .i64 0, .slice none 0 0, .slice none 0 0, .slice none 0 0], .slice none 0 0, .int .i64 0, .int .i64 0, .int .i64 0, .slice none 0 0].toList 8 = some ([.nil, .agg [.lit (.int .i64 0), .lit (.int .i64 0), .nil, .nil, .nil], .nil, .lit (.int .i64 0), .lit (.int .i64 0), .lit (.int .i64 0), .nil], [], places) :=
  ⟨[], by kernel_rfl⟩

theorem lifted (os : Os) (started : os.Started) (H : Type) (enc : TypeId × Value → H) (F : Stop.Interp) :
    ReturnsInHanded {} Tryd.checked os 6 .any ((OpenSpec.ofChange Rows.severityExactSpec).preRow enc Tryd.prog Tryd.f6 Rows.severityExactRow.domain false Rows.severityExactRow.laid) (((OpenSpec.ofChange Rows.severityExactSpec).at F).post enc Tryd.prog Tryd.f6 false true false false) := by
  obtain ⟨places, hx⟩ := reads os enc
  refine returnsInHanded_of_row (C := Tryd.checked) (s := OpenSpec.ofChange Rows.severityExactSpec) own started (by kernel_rfl) Tryd.func6
    (witness_row_at (enc := enc) (C := Tryd.checked) false (laidWorld os) #[.slice none 0 0, .agg #[.int .i64 0, .int .i64 0, .slice none 0 0, .slice none 0 0, .slice none 0 0], .slice none 0 0, .int .i64 0, .int .i64 0, .int .i64 0, .slice none 0 0] rfl (by kernel_rfl) (by kernel_rfl) (by kernel_rfl)
      (OpenSpec.preRow_of_cond 8 hx (by kernel_rfl) (fun k hk => by cases hk) (by kernel_rfl) (laid_met os))) ?_
  intro W base args ds gs before hval hW _ _ _ hL _ _
  exact contract H enc W base args ds gs before hval hW hL

theorem said : Rows.SeverityExactSaid :=
  OpenClaim.holds_of_cond 6 Tryd.f6 rfl rfl rfl rfl rfl rfl rfl ⟨rfl, rfl, rfl, rfl, rfl⟩ rfl rfl rfl rfl rfl (by kernel_rfl) Tryd.func6 (by kernel_rfl)
    (of_decide_eq_true (by kernel_rfl)) (by unfold Func.isWrapper; first | (rw [if_pos (by decide +kernel)]; kernel_rfl) | (rw [if_neg (by decide +kernel)]; exact ⟨rfl, rfl⟩))
    (fun os started H enc _ F => by rw [OpenClaim.pre_eq_preRow]; exact lifted os started H enc F)

theorem plain (f : FuncId) (fn : Func) (hf : Tryd.pinned.checked.prog.funcNamed "leakresponse/leakresponselaw31.SeverityExact" = some f) (hfn : Tryd.pinned.checked.prog.funcs[f]? = some fn) :
    false = Tryd.pinned.checked.prog.looks [] ∧ ∀ (j : Nat) t, fn.params[j]? = some t → Tryd.pinned.checked.prog.wantsStandIn t = false := by
  obtain rfl : f = 6 := Option.some.inj ((show Tryd.prog.funcNamed "leakresponse/leakresponselaw31.SeverityExact" = some 6 by kernel_rfl).symm.trans hf) |>.symm
  obtain rfl : fn = Tryd.f6 := (Option.some.inj (Tryd.func6.symm.trans hfn)).symm
  refine ⟨by kernel_rfl, fun j t ht => ?_⟩
  have h : (Tryd.f6.params.toList.all fun t => !Tryd.prog.wantsStandIn t) = true := by kernel_rfl
  have hm : t ∈ Tryd.f6.params.toList := by simpa using Array.mem_of_getElem? ht
  have := List.all_eq_true.1 h t hm
  have e : Tryd.prog.wantsStandIn t = false := by simpa using this
  exact e

/-- the card -/
theorem card : Rows.SeverityExactCardSaid :=
  Claim7.holds_tied_plain_at .later [] _ _ _ _ said (fun _ h => by cases h) (by kernel_rfl) (fun _ h => by cases h) severityExact_row_tie rfl ⟨rfl, rfl⟩ (by kernel_rfl) rfl plain (by kernel_rfl)

end Go.Proofs.YtopbblhkapgdkaaDoor

