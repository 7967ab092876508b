/- The closing of the card of leakresponse/leakresponselaw25.RightsClosure: from the walk's contract to the given statement. By AI agents. -/
import Derived.Test.YtlcclnfjeinggaaRows
import Derived.WalkKit
import Derived.ProofKit
import Derived.OpenShut
import Derived.Deep.DeepHandedRow
import Derived.Lib.LaidTab
import Derived.Test.YtlcclnfjeinggaaAbTop
import Derived.Test.YtlcclnfjeinggaaPO
set_option linter.all false
set_option linter.unusedVariables false
set_option maxRecDepth 100000
namespace Go.Proofs.Ytlcclnfjeinggaa
open Go.Ab
open Go.ChangeShapes Go.WideShapes Go.ChangeAt Go.RowKit

theorem own : ownKnob Try.prog.godebug = none := by kernel_rfl

theorem tabs {W : World} (h0 : laidMetH Try.prog Rows.rightsClosureRow.laid W) : Tabs Try.prog W := by
  have h : laidMet Try.prog Rows.rightsClosureRow.laid W := h0
  refine ⟨?_, ?_⟩
  · intro d hd hg
    simp only [tabs0, List.mem_cons, List.not_mem_nil, or_false] at hd
    rcases hd with rfl | rfl | rfl
    · rw [show Try.prog.globalNamed "internal/strconv.uint64pow10" = none by kernel_rfl] at hg; cases hg
    · rw [show Try.prog.globalNamed "leakresponse/severity.levels" = none by kernel_rfl] at hg; cases hg
    · rw [show Try.prog.globalNamed "leakresponse/notice.deadlines" = none by kernel_rfl] at hg; cases hg
  · intro n hn hg
    simp only [errs0, List.mem_cons, List.not_mem_nil, or_false] at hn
    rcases hn with rfl | rfl
    · rw [show Try.prog.globalNamed "strconv.ErrSyntax" = none by kernel_rfl] at hg; cases hg
    · rw [show Try.prog.globalNamed "strconv.ErrRange" = none by kernel_rfl] at hg; cases hg

theorem hcall (ys : List V) (h : argsOK [(false, [.sl false [.int .i64]])] ys) : ACall Try.prog 3 ys [] (fun r H => r = .bool true ∧ H = []) := by
  obtain ⟨x0, ys, rfl, h0, h⟩ := argsOK_cons h
  obtain rfl := argsOK_nil h
  obtain ⟨a, rfl⟩ := argOK_ints h0
  exact Wq_16.w (closure25 a)

theorem contract (H : Type) (enc : TypeId × Value → H) (W : World) (base : Nat) (args : Array Value) (ds gs : List (DataW H)) (before : List MemPlace)
    (hval : ∀ (j : Nat) t v, Try.f3.params[j]? = some t → args[j]? = some v → Value.okWide Try.prog W .any base t v)
    (hW : DataW.Whole enc Try.prog Try.f3.params.toList Rows.rightsClosureSpec.vars false W args.toList ds gs before) (hL : laidMetH Try.prog Rows.rightsClosureRow.laid W) :
    Calls Try.prog 3 args W fun e W' => ∃ v, e = .returned v ∧ Rows.rightsClosureSpec.post enc Try.prog Try.f3 false true false false W args v W' :=
  law_calls (n := 30) (shs := [(false, [.sl false [.int .i64]])]) (tb := 4) (by kernel_rfl)
    (fun t ht => by
      have h : (Try.f3.params.toList.all fun t => Try.prog.readableRec t && decide (t < Try.prog.types.size)) = true := by kernel_rfl
      have := List.all_eq_true.1 h t ht
      simpa using this)
    (by kernel_rfl) (by kernel_rfl) Try.underlying4 rfl
    (fun ds h => by
      have hs : Try.f3.params.size = 1 := by kernel_rfl
      rw [hs] at h
      match ds, h with
      | [_], _ => rfl) hcall hval hW (tabs hL)

noncomputable def laidWorld (os : Os) : World :=
  { World.holding Try.prog os ⟨#[], #[], []⟩ with heap := (World.holding Try.prog os ⟨#[], #[], []⟩).heap }
theorem laid_met (os : Os) : laidMet Try.prog Rows.rightsClosureRow.laid ((laidWorld os).forCall (fun _ _ => 0) ⟨#[], #[.slice none 0 0], []⟩).memory :=
  laidMet_of_run' 8 (by kernel_rfl) (by kernel_rfl)
theorem reads (os : Os) {H : Type} (enc : TypeId × Value → H) : ∃ places, DataW.whole enc Try.prog ((laidWorld os).forCall (fun _ _ => 0) ⟨#[], #[.slice none 0 0], []⟩).memory Try.f3.params.toList Rows.rightsClosureSpec.vars false #[.slice none 0 0].toList 8 = some ([.nil], [], places) :=
  ⟨[], by kernel_rfl⟩

theorem lifted (os : Os) (started : os.Started) (H : Type) (enc : TypeId × Value → H) (F : Stop.Interp) :
    ReturnsInHanded {} Try.checked os 3 .any ((OpenSpec.ofChange Rows.rightsClosureSpec).preRow enc Try.prog Try.f3 Rows.rightsClosureRow.domain false Rows.rightsClosureRow.laid) (((OpenSpec.ofChange Rows.rightsClosureSpec).at F).post enc Try.prog Try.f3 false true false false) := by
  obtain ⟨places, hx⟩ := reads os enc
  refine returnsInHanded_of_row (C := Try.checked) (s := OpenSpec.ofChange Rows.rightsClosureSpec) own started (by kernel_rfl) Try.func3
    (witness_row_at (enc := enc) (C := Try.checked) false (laidWorld os) #[.slice none 0 0] rfl (by kernel_rfl) (by kernel_rfl) (by kernel_rfl)
      (OpenSpec.preRow_of_cond 8 hx (by kernel_rfl) (fun k hk => by cases hk) (by kernel_rfl) (laid_met os))) ?_
  intro W base args ds gs before hval hW _ _ _ hL _ _
  exact contract H enc W base args ds gs before hval hW hL

theorem card : Rows.RightsClosureSaid :=
  OpenClaim.holds_of_cond 3 Try.f3 rfl rfl rfl rfl rfl rfl rfl ⟨rfl, rfl, rfl, rfl, rfl⟩ rfl rfl rfl rfl rfl (by kernel_rfl) Try.func3 (by kernel_rfl)
    (of_decide_eq_true (by kernel_rfl)) (by unfold Func.isWrapper; first | (rw [if_pos (by decide +kernel)]; kernel_rfl) | (rw [if_neg (by decide +kernel)]; exact ⟨rfl, rfl⟩))
    (fun os started H enc _ F => by rw [OpenClaim.pre_eq_preRow]; exact lifted os started H enc F)

end Go.Proofs.Ytlcclnfjeinggaa

