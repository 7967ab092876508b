/- The closing of the card of leakresponse/leakresponselaw21.RuleFirst: from the walk's contract to the given statement. By AI agents. -/
import Derived.Test.YtoojdaakeiadjaaGreatDoorCards
import Derived.Test.YtoojdaakeiadjaaGreatDoorTie
import Derived.WalkKit
import Derived.ProofKit
import Derived.OpenShut
import Derived.Deep.DeepHandedRow
import Derived.Lib.LaidTab
import Derived.Test.YtoojdaakeiadjaaGreatDoorAbFun
import Derived.Test.YtoojdaakeiadjaaGreatDoorPO
import Derived.Test.YtoojdaakeiadjaaGreatDoorARX
set_option linter.all false
set_option linter.unusedVariables false
set_option maxRecDepth 100000
namespace Go.Proofs.YtoojdaakeiadjaaGreatDoor
open Go.Ab
open Go.ChangeShapes Go.WideShapes Go.ChangeAt Go.RowKit
theorem own:ownKnob Tryz.prog.godebug=none:=by kernel_rfl

theorem star : "*" ++ "errors.errorString" = "*errors.errorString":=by decide
theorem tabs {W:World} (h0:laidMetH Tryz.prog Rows.ruleFirstRow.laid W):e9m Tryz.prog W:=by
  have h:laidMet Tryz.prog Rows.ruleFirstRow.laid W:=h0
  refine ⟨?_,?_⟩
  · intro d hd hg
    simp only [c06,List.mem_cons,List.not_mem_nil,or_false] at hd
    rcases hd with rfl|rfl|rfl
    · exact c3j (W:=W) (name := "internal/strconv.uint64pow10") (g:=1) (t:=220) (e:=42) (n:=20) (by simp [Rows.ruleFirstRow];rfl) (by kernel_rfl) (by kernel_rfl) (by kernel_rfl) (by kernel_rfl) (by kernel_rfl) (by kernel_rfl) h
    · rw [show Tryz.prog.globalNamed "leakresponse/severity.levels"=none by kernel_rfl] at hg;cases hg
    · rw [show Tryz.prog.globalNamed "leakresponse/notice.deadlines"=none by kernel_rfl] at hg;cases hg
  · intro n hn hg
    simp only [b9h,List.mem_cons,List.not_mem_nil,or_false] at hn
    rcases hn with rfl|rfl
    · exact b7u (n := "strconv.ErrSyntax") (nm := "*errors.errorString") (text:=[105,110,118,97,108,105,100,32,115,121,110,116,97,120]) (g:=2) (by kernel_rfl) (by kernel_rfl) Tryz.underlying118 (fun u h=>typeName_ptr_named (nm := "errors.errorString") (by rw [star];kernel_rfl) (by kernel_rfl) (by decide) u (by rw [star];exact h)) Tryz.underlying233 Tryz.underlying235 rfl rfl Tryz.underlying9 (by kernel_rfl) (by kernel_rfl) 5 rfl h
    · exact b7u (n := "strconv.ErrRange") (nm := "*errors.errorString") (text:=[118,97,108,117,101,32,111,117,116,32,111,102,32,114,97,110,103,101]) (g:=3) (by kernel_rfl) (by kernel_rfl) Tryz.underlying118 (fun u h=>typeName_ptr_named (nm := "errors.errorString") (by rw [star];kernel_rfl) (by kernel_rfl) (by decide) u (by rw [star];exact h)) Tryz.underlying233 Tryz.underlying235 rfl rfl Tryz.underlying9 (by kernel_rfl) (by kernel_rfl) 4 rfl h

theorem hcall (ys:List V) (h:b5g [(false,[.sl false [.int .i64]]),(false,[.int .i64])] ys):l9 Tryz.prog 4 ys [] (fun r H=>r=.bool true∧H=[]):=by
  obtain ⟨x0,ys,rfl,h0,h⟩:=b5f h
  obtain ⟨x1,ys,rfl,h1,h⟩:=b5f h
  obtain rfl:=c5c h
  obtain ⟨a,rfl⟩:=d0a h0.1
  obtain ⟨b,rfl⟩:=c35 h1.1
  exact e0c

theorem contract (H:Type) (enc:TypeId×Value→H) (W:World) (base:Nat) (args:Array Value) (ds gs:List (DataW H)) (before:List MemPlace)
    (hval:∀(j:Nat) t v,Tryz.f4.params[j]?=some t→args[j]?=some v→Value.okWide Tryz.prog W .any base t v)
    (hW:DataW.Whole enc Tryz.prog Tryz.f4.params.toList Rows.ruleFirstSpec.vars false W args.toList ds gs before) (hL:laidMetH Tryz.prog Rows.ruleFirstRow.laid W) :
    Calls Tryz.prog 4 args W fun e W'=>∃v,e=.returned v∧Rows.ruleFirstSpec.post enc Tryz.prog Tryz.f4 false true false false W args v W' :=
  c78 (ρ:=fun _=>none) (nr:=0) (fun _ _ h=>by cases h) (n:=30) (shs:=[(false,[.sl false [.int .i64]]),(false,[.int .i64])]) (tb:=4) (by kernel_rfl)
    (fun t ht=>by
      have h:(Tryz.f4.params.toList.all fun t=>Tryz.prog.readableRec t&&decide (t<Tryz.prog.types.size))=true:=by kernel_rfl
      have:=List.all_eq_true.1 h t ht
      simpa using this)
    (by kernel_rfl) (by kernel_rfl) Tryz.underlying4 rfl
    (fun ds h=>by
      have hs:Tryz.f4.params.size=2:=by kernel_rfl
      rw [hs] at h
      match ds,h with
      | [_,_],_=>rfl) hcall hval hW (tabs hL)

noncomputable def b50 (os:Os):World :=
  { World.holding Tryz.prog os ⟨#[],#[],[]⟩ with heap:=((((((((World.holding Tryz.prog os ⟨#[.cells #[.string ⟨#[118,97,108,117,101,32,111,117,116,32,111,102,32,114,97,110,103,101]⟩] 235,.cells #[.string ⟨#[105,110,118,97,108,105,100,32,115,121,110,116,97,120]⟩] 235],#[],[]⟩).heap.modify 4 fun|.cells _ t frozen=>.cells #[.int .u8 0,.int .u8 1,.int .u8 28,.int .u8 2,.int .u8 29,.int .u8 14,.int .u8 24,.int .u8 3,.int .u8 30,.int .u8 22,.int .u8 20,.int .u8 15,.int .u8 25,.int .u8 17,.int .u8 4,.int .u8 8,.int .u8 31,.int .u8 27,.int .u8 13,.int .u8 23,.int .u8 21,.int .u8 19,.int .u8 16,.int .u8 7,.int .u8 26,.int .u8 12,.int .u8 18,.int .u8 6,.int .u8 11,.int .u8 5,.int .u8 10,.int .u8 9] t frozen|o=>o).modify 5 fun|.cells _ t frozen=>.cells #[.int .u8 0,.int .u8 1,.int .u8 56,.int .u8 2,.int .u8 57,.int .u8 49,.int .u8 28,.int .u8 3,.int .u8 61,.int .u8 58,.int .u8 42,.int .u8 50,.int .u8 38,.int .u8 29,.int .u8 17,.int .u8 4,.int .u8 62,.int .u8 47,.int .u8 59,.int .u8 36,.int .u8 45,.int .u8 43,.int .u8 51,.int .u8 22,.int .u8 53,.int .u8 39,.int .u8 33,.int .u8 30,.int .u8 24,.int .u8 18,.int .u8 12,.int .u8 5,.int .u8 63,.int .u8 55,.int .u8 48,.int .u8 27,.int .u8 60,.int .u8 41,.int .u8 37,.int .u8 16,.int .u8 46,.int .u8 35,.int .u8 44,.int .u8 21,.int .u8 52,.int .u8 32,.int .u8 23,.int .u8 11,.int .u8 54,.int .u8 26,.int .u8 40,.int .u8 15,.int .u8 34,.int .u8 20,.int .u8 31,.int .u8 10,.int .u8 25,.int .u8 14,.int .u8 19,.int .u8 9,.int .u8 13,.int .u8 8,.int .u8 7,.int .u8 6] t frozen|o=>o).modify 1 fun|.cells _ t frozen=>.cells #[.int .u64 1,.int .u64 10,.int .u64 100,.int .u64 1000,.int .u64 10000,.int .u64 100000,.int .u64 1000000,.int .u64 10000000,.int .u64 100000000,.int .u64 1000000000,.int .u64 10000000000,.int .u64 100000000000,.int .u64 1000000000000,.int .u64 10000000000000,.int .u64 100000000000000,.int .u64 1000000000000000,.int .u64 10000000000000000,.int .u64 100000000000000000,.int .u64 1000000000000000000,.int .u64 10000000000000000000] t frozen|o=>o).modify 7 fun|.cells _ t frozen=>.cells #[.int .u8 128,.int .u8 191,.int .u8 160,.int .u8 191,.int .u8 128,.int .u8 159,.int .u8 144,.int .u8 191,.int .u8 128,.int .u8 143,.int .u8 0,.int .u8 0,.int .u8 0,.int .u8 0,.int .u8 0,.int .u8 0,.int .u8 0,.int .u8 0,.int .u8 0,.int .u8 0,.int .u8 0,.int .u8 0,.int .u8 0,.int .u8 0,.int .u8 0,.int .u8 0,.int .u8 0,.int .u8 0,.int .u8 0,.int .u8 0,.int .u8 0,.int .u8 0] t frozen|o=>o).modify 3 fun|.cells _ t frozen=>.cells #[.iface 233 (.pointer (some ⟨(World.holding Tryz.prog default ⟨#[],#[],[]⟩).heap.size+0,0,none⟩))] t frozen|o=>o).modify 2 fun|.cells _ t frozen=>.cells #[.iface 233 (.pointer (some ⟨(World.holding Tryz.prog default ⟨#[],#[],[]⟩).heap.size+1,0,none⟩))] t frozen|o=>o).modify 6 fun|.cells _ t frozen=>.cells #[.int .u8 240,.int .u8 240,.int .u8 240,.int .u8 240,.int .u8 240,.int .u8 240,.int .u8 240,.int .u8 240,.int .u8 240,.int .u8 240,.int .u8 240,.int .u8 240,.int .u8 240,.int .u8 240,.int .u8 240,.int .u8 240,.int .u8 240,.int .u8 240,.int .u8 240,.int .u8 240,.int .u8 240,.int .u8 240,.int .u8 240,.int .u8 240,.int .u8 240,.int .u8 240,.int .u8 240,.int .u8 240,.int .u8 240,.int .u8 240,.int .u8 240,.int .u8 240,.int .u8 240,.int .u8 240,.int .u8 240,.int .u8 240,.int .u8 240,.int .u8 240,.int .u8 240,.int .u8 240,.int .u8 240,.int .u8 240,.int .u8 240,.int .u8 240,.int .u8 240,.int .u8 240,.int .u8 240,.int .u8 240,.int .u8 240,.int .u8 240,.int .u8 240,.int .u8 240,.int .u8 240,.int .u8 240,.int .u8 240,.int .u8 240,.int .u8 240,.int .u8 240,.int .u8 240,.int .u8 240,.int .u8 240,.int .u8 240,.int .u8 240,.int .u8 240,.int .u8 240,.int .u8 240,.int .u8 240,.int .u8 240,.int .u8 240,.int .u8 240,.int .u8 240,.int .u8 240,.int .u8 240,.int .u8 240,.int .u8 240,.int .u8 240,.int .u8 240,.int .u8 240,.int .u8 240,.int .u8 240,.int .u8 240,.int .u8 240,.int .u8 240,.int .u8 240,.int .u8 240,.int .u8 240,.int .u8 240,.int .u8 240,.int .u8 240,.int .u8 240,.int .u8 240,.int .u8 240,.int .u8 240,.int .u8 240,.int .u8 240,.int .u8 240,.int .u8 240,.int .u8 240,.int .u8 240,.int .u8 240,.int .u8 240,.int .u8 240,.int .u8 240,.int .u8 240,.int .u8 240,.int .u8 240,.int .u8 240,.int .u8 240,.int .u8 240,.int .u8 240,.int .u8 240,.int .u8 240,.int .u8 240,.int .u8 240,.int .u8 240,.int .u8 240,.int .u8 240,.int .u8 240,.int .u8 240,.int .u8 240,.int .u8 240,.int .u8 240,.int .u8 240,.int .u8 240,.int .u8 240,.int .u8 240,.int .u8 240,.int .u8 240,.int .u8 241,.int .u8 241,.int .u8 241,.int .u8 241,.int .u8 241,.int .u8 241,.int .u8 241,.int .u8 241,.int .u8 241,.int .u8 241,.int .u8 241,.int .u8 241,.int .u8 241,.int .u8 241,.int .u8 241,.int .u8 241,.int .u8 241,.int .u8 241,.int .u8 241,.int .u8 241,.int .u8 241,.int .u8 241,.int .u8 241,.int .u8 241,.int .u8 241,.int .u8 241,.int .u8 241,.int .u8 241,.int .u8 241,.int .u8 241,.int .u8 241,.int .u8 241,.int .u8 241,.int .u8 241,.int .u8 241,.int .u8 241,.int .u8 241,.int .u8 241,.int .u8 241,.int .u8 241,.int .u8 241,.int .u8 241,.int .u8 241,.int .u8 241,.int .u8 241,.int .u8 241,.int .u8 241,.int .u8 241,.int .u8 241,.int .u8 241,.int .u8 241,.int .u8 241,.int .u8 241,.int .u8 241,.int .u8 241,.int .u8 241,.int .u8 241,.int .u8 241,.int .u8 241,.int .u8 241,.int .u8 241,.int .u8 241,.int .u8 241,.int .u8 241,.int .u8 241,.int .u8 241,.int .u8 2,.int .u8 2,.int .u8 2,.int .u8 2,.int .u8 2,.int .u8 2,.int .u8 2,.int .u8 2,.int .u8 2,.int .u8 2,.int .u8 2,.int .u8 2,.int .u8 2,.int .u8 2,.int .u8 2,.int .u8 2,.int .u8 2,.int .u8 2,.int .u8 2,.int .u8 2,.int .u8 2,.int .u8 2,.int .u8 2,.int .u8 2,.int .u8 2,.int .u8 2,.int .u8 2,.int .u8 2,.int .u8 2,.int .u8 2,.int .u8 19,.int .u8 3,.int .u8 3,.int .u8 3,.int .u8 3,.int .u8 3,.int .u8 3,.int .u8 3,.int .u8 3,.int .u8 3,.int .u8 3,.int .u8 3,.int .u8 3,.int .u8 35,.int .u8 3,.int .u8 3,.int .u8 52,.int .u8 4,.int .u8 4,.int .u8 4,.int .u8 68,.int .u8 241,.int .u8 241,.int .u8 241,.int .u8 241,.int .u8 241,.int .u8 241,.int .u8 241,.int .u8 241,.int .u8 241,.int .u8 241,.int .u8 241] t frozen|o=>o) }
theorem d1y (os:Os):laidMet Tryz.prog Rows.ruleFirstRow.laid ((b50 os).forCall (fun _ _=>0) ⟨#[],#[.slice none 0 0,.int .i64 0],[]⟩).memory :=
  laidMet_of_run' 8 (by kernel_rfl) (by kernel_rfl)
theorem reads (os:Os) {H:Type} (enc:TypeId×Value→H):∃places,DataW.whole enc Tryz.prog ((b50 os).forCall (fun _ _=>0) ⟨#[],#[.slice none 0 0,.int .i64 0],[]⟩).memory Tryz.f4.params.toList Rows.ruleFirstSpec.vars false #[.slice none 0 0,.int .i64 0].toList 8=some ([.nil,.lit (.int .i64 0)],[],places) :=
  ⟨[],by kernel_rfl⟩

theorem lifted (os:Os) (started:os.Started) (H:Type) (enc:TypeId×Value→H) (F:Stop.Interp) :
    ReturnsInHanded {} Tryz.checked os 4 .any ((OpenSpec.ofChange Rows.ruleFirstSpec).preRow enc Tryz.prog Tryz.f4 Rows.ruleFirstRow.domain false Rows.ruleFirstRow.laid) (((OpenSpec.ofChange Rows.ruleFirstSpec).at F).post enc Tryz.prog Tryz.f4 false true false false):=by
  obtain ⟨places,hx⟩:=reads os enc
  refine returnsInHanded_of_row (C:=Tryz.checked) (s:=OpenSpec.ofChange Rows.ruleFirstSpec) own started (by kernel_rfl) Tryz.func4
    (witness_row_at (enc:=enc) (C:=Tryz.checked) false (b50 os) #[.slice none 0 0,.int .i64 0] rfl (by kernel_rfl) (by kernel_rfl) (by kernel_rfl)
      (OpenSpec.preRow_of_cond 8 hx (by kernel_rfl) (fun k hk=>by cases hk) (by kernel_rfl) (d1y os))) ?_
  intro W base args ds gs before hval hW _ _ _ hL _ _
  exact contract H enc W base args ds gs before hval hW hL

theorem f6e {a b:Bool} (h1:a=true) (h2:b=true):(a&&b)=true:=by rw [h1,h2];rfl
set_option maxHeartbeats 0 in
theorem joined:joinedFacts Tryz.pinned.checked.prog 4 Tryz.f4 (OpenSpec.ofChange Rows.ruleFirstSpec).bare Rows.ruleFirstRow=true:=by
  unfold joinedFacts
  iterate 31 (refine f6e ?_ (by as_aux_lemma=>kernel_rfl))
  as_aux_lemma=>kernel_rfl
theorem said:Rows.RuleFirstSaid :=
  OpenClaim.holds_of_cond 4 Tryz.f4 rfl rfl rfl rfl rfl rfl rfl ⟨rfl,rfl,rfl,rfl,rfl⟩ rfl rfl rfl rfl rfl (by kernel_rfl) Tryz.func4 joined
    (of_decide_eq_true (by kernel_rfl)) (by unfold Func.isWrapper;first|(rw [if_pos (by decide +kernel)];kernel_rfl)|(rw [if_neg (by decide +kernel)];exact ⟨rfl,rfl⟩))
    (fun os started H enc _ F=>by rw [OpenClaim.pre_eq_preRow];exact lifted os started H enc F)

theorem plain (f:FuncId) (fn:Func) (hf:Tryz.pinned.checked.prog.funcNamed "leakresponse/leakresponselaw21.RuleFirst"=some f) (hfn:Tryz.pinned.checked.prog.funcs[f]?=some fn) :
    true=Tryz.pinned.checked.prog.looks []∧∀(j:Nat) t,fn.params[j]?=some t→Tryz.pinned.checked.prog.wantsStandIn t=false:=by
  obtain rfl:f=4:=Option.some.inj ((show Tryz.prog.funcNamed "leakresponse/leakresponselaw21.RuleFirst"=some 4 by kernel_rfl).symm.trans hf)|>.symm
  obtain rfl:fn=Tryz.f4:=(Option.some.inj (Tryz.func4.symm.trans hfn)).symm
  refine ⟨by kernel_rfl,fun j t ht=>?_⟩
  have h:(Tryz.f4.params.toList.all fun t=>!Tryz.prog.wantsStandIn t)=true:=by kernel_rfl
  have hm:t∈Tryz.f4.params.toList:=by simpa using Array.mem_of_getElem? ht
  have:=List.all_eq_true.1 h t hm
  have e:Tryz.prog.wantsStandIn t=false:=by simpa using this
  exact e

/-- the card -/
theorem card:Rows.RuleFirstCardSaid :=
  Claim7.holds_tied_plain_at .later [] _ _ _ _ said (fun _ h=>by cases h) (by kernel_rfl) (fun _ h=>by cases h) ruleFirst_row_tie rfl ⟨rfl,rfl⟩ (by kernel_rfl) rfl plain (by kernel_rfl)

end Go.Proofs.YtoojdaakeiadjaaGreatDoor