/- The closing of the card of leakresponse/leakresponselaw44.ConsoleExact: from the walk's contract to the given statement. By AI agents. -/
import Derived.Test.YtnaeedamiaoipaaGreatDoorCards
import Derived.Test.YtnaeedamiaoipaaGreatDoorTie
import Derived.WalkKit
import Derived.ProofKit
import Derived.OpenShut
import Derived.Deep.DeepHandedRow
import Derived.Lib.LaidTab
import Derived.Test.YtnaeedamiaoipaaGreatDoorAbMC
import Derived.Test.YtnaeedamiaoipaaGreatDoorPQ
import Derived.Test.YtnaeedamiaoipaaGreatDoorARX
set_option linter.all false
set_option linter.unusedVariables false
set_option maxRecDepth 100000
namespace Go.Proofs.YtnaeedamiaoipaaGreatDoor
open Go.Ab
open Go.ChangeShapes Go.WideShapes Go.ChangeAt Go.RowKit
theorem own:ownKnob Tryz.prog.godebug=none:=by kernel_rfl

theorem star : "*" ++ "errors.errorString" = "*errors.errorString":=by decide
theorem tabs {W:World} (h0:laidMetH Tryz.prog Rows.consoleExactRow.laid W):f3e Tryz.prog W:=by
  have h:laidMet Tryz.prog Rows.consoleExactRow.laid W:=h0
  refine ⟨?_,?_⟩
  · intro d hd hg
    simp only [c1d,List.mem_cons,List.not_mem_nil,or_false] at hd
    rcases hd with rfl|rfl|rfl
    · exact c50 (W:=W) (name := "internal/strconv.uint64pow10") (g:=0) (t:=212) (e:=180) (n:=20) (by simp [Rows.consoleExactRow];rfl) (by kernel_rfl) (by kernel_rfl) (by kernel_rfl) (by kernel_rfl) (by kernel_rfl) (by kernel_rfl) h
    · rw [show Tryz.prog.globalNamed "leakresponse/severity.levels"=none by kernel_rfl] at hg;cases hg
    · rw [show Tryz.prog.globalNamed "leakresponse/notice.deadlines"=none by kernel_rfl] at hg;cases hg
  · intro n hn hg
    simp only [c6d,List.mem_cons,List.not_mem_nil,or_false] at hn
    rcases hn with rfl|rfl
    · exact b85 (n := "strconv.ErrSyntax") (nm := "*errors.errorString") (text:=[105,110,118,97,108,105,100,32,115,121,110,116,97,120]) (g:=2) (by kernel_rfl) (by kernel_rfl) Tryz.underlying67 (fun u h=>typeName_ptr_named (nm := "errors.errorString") (by rw [star];kernel_rfl) (by kernel_rfl) (by decide) u (by rw [star];exact h)) Tryz.underlying249 Tryz.underlying251 rfl rfl Tryz.underlying9 (by kernel_rfl) (by kernel_rfl) 5 rfl h
    · exact b85 (n := "strconv.ErrRange") (nm := "*errors.errorString") (text:=[118,97,108,117,101,32,111,117,116,32,111,102,32,114,97,110,103,101]) (g:=3) (by kernel_rfl) (by kernel_rfl) Tryz.underlying67 (fun u h=>typeName_ptr_named (nm := "errors.errorString") (by rw [star];kernel_rfl) (by kernel_rfl) (by decide) u (by rw [star];exact h)) Tryz.underlying249 Tryz.underlying251 rfl rfl Tryz.underlying9 (by kernel_rfl) (by kernel_rfl) 4 rfl h

theorem hcall (ys:List V) (h:b5a [(false,[.sl false [.int .i64]]),(false,[.sl true [.int .i64,.str,.str,.int .i64,.int .i64,.int .i64]]),(false,[.str])] ys):a0o Tryz.prog 6 ys [] (fun r H=>r=.bool true∧H=[]):=by
  obtain ⟨x0,ys,rfl,h0,h⟩:=a9j h
  obtain ⟨x1,ys,rfl,h1,h⟩:=a9j h
  obtain ⟨x2,ys,rfl,h2,h⟩:=a9j h
  obtain rfl:=c6r h
  obtain ⟨a,rfl⟩:=d2q h0.1
  obtain ⟨b,rfl⟩:=b7e h1.1
  obtain ⟨c,rfl⟩:=b8b h2.1
  exact e2v

theorem contract (H:Type) (enc:TypeId×Value→H) (W:World) (base:Nat) (args:Array Value) (ds gs:List (DataW H)) (before:List MemPlace)
    (hval:∀(j:Nat) t v,Tryz.f6.params[j]?=some t→args[j]?=some v→Value.okWide Tryz.prog W .any base t v)
    (hW:DataW.Whole enc Tryz.prog Tryz.f6.params.toList Rows.consoleExactSpec.vars false W args.toList ds gs before) (hL:laidMetH Tryz.prog Rows.consoleExactRow.laid W) :
    Calls Tryz.prog 6 args W fun e W'=>∃v,e=.returned v∧Rows.consoleExactSpec.post enc Tryz.prog Tryz.f6 false true false false W args v W' :=
  c9r (ρ:=fun _=>none) (nr:=0) (fun _ _ h=>by cases h) (n:=30) (shs:=[(false,[.sl false [.int .i64]]),(false,[.sl true [.int .i64,.str,.str,.int .i64,.int .i64,.int .i64]]),(false,[.str])]) (tb:=4) (by kernel_rfl)
    (fun t ht=>by
      have h:(Tryz.f6.params.toList.all fun t=>Tryz.prog.readableRec t&&decide (t<Tryz.prog.types.size))=true:=by kernel_rfl
      have:=List.all_eq_true.1 h t ht
      simpa using this)
    (by kernel_rfl) (by kernel_rfl) Tryz.underlying4 rfl
    (fun ds h=>by
      have hs:Tryz.f6.params.size=3:=by kernel_rfl
      rw [hs] at h
      match ds,h with
      | [_,_,_],_=>rfl) hcall hval hW (tabs hL)

noncomputable def b4n (os:Os):World :=
  { World.holding Tryz.prog os ⟨#[],#[],[]⟩ with heap:=((((((((World.holding Tryz.prog os ⟨#[.cells #[.string ⟨#[118,97,108,117,101,32,111,117,116,32,111,102,32,114,97,110,103,101]⟩] 251,.cells #[.string ⟨#[105,110,118,97,108,105,100,32,115,121,110,116,97,120]⟩] 251],#[],[]⟩).heap.modify 4 fun|.cells _ t frozen=>.cells #[.int .u8 0,.int .u8 1,.int .u8 28,.int .u8 2,.int .u8 29,.int .u8 14,.int .u8 24,.int .u8 3,.int .u8 30,.int .u8 22,.int .u8 20,.int .u8 15,.int .u8 25,.int .u8 17,.int .u8 4,.int .u8 8,.int .u8 31,.int .u8 27,.int .u8 13,.int .u8 23,.int .u8 21,.int .u8 19,.int .u8 16,.int .u8 7,.int .u8 26,.int .u8 12,.int .u8 18,.int .u8 6,.int .u8 11,.int .u8 5,.int .u8 10,.int .u8 9] t frozen|o=>o).modify 5 fun|.cells _ t frozen=>.cells #[.int .u8 0,.int .u8 1,.int .u8 56,.int .u8 2,.int .u8 57,.int .u8 49,.int .u8 28,.int .u8 3,.int .u8 61,.int .u8 58,.int .u8 42,.int .u8 50,.int .u8 38,.int .u8 29,.int .u8 17,.int .u8 4,.int .u8 62,.int .u8 47,.int .u8 59,.int .u8 36,.int .u8 45,.int .u8 43,.int .u8 51,.int .u8 22,.int .u8 53,.int .u8 39,.int .u8 33,.int .u8 30,.int .u8 24,.int .u8 18,.int .u8 12,.int .u8 5,.int .u8 63,.int .u8 55,.int .u8 48,.int .u8 27,.int .u8 60,.int .u8 41,.int .u8 37,.int .u8 16,.int .u8 46,.int .u8 35,.int .u8 44,.int .u8 21,.int .u8 52,.int .u8 32,.int .u8 23,.int .u8 11,.int .u8 54,.int .u8 26,.int .u8 40,.int .u8 15,.int .u8 34,.int .u8 20,.int .u8 31,.int .u8 10,.int .u8 25,.int .u8 14,.int .u8 19,.int .u8 9,.int .u8 13,.int .u8 8,.int .u8 7,.int .u8 6] t frozen|o=>o).modify 0 fun|.cells _ t frozen=>.cells #[.int .u64 1,.int .u64 10,.int .u64 100,.int .u64 1000,.int .u64 10000,.int .u64 100000,.int .u64 1000000,.int .u64 10000000,.int .u64 100000000,.int .u64 1000000000,.int .u64 10000000000,.int .u64 100000000000,.int .u64 1000000000000,.int .u64 10000000000000,.int .u64 100000000000000,.int .u64 1000000000000000,.int .u64 10000000000000000,.int .u64 100000000000000000,.int .u64 1000000000000000000,.int .u64 10000000000000000000] t frozen|o=>o).modify 7 fun|.cells _ t frozen=>.cells #[.int .u8 128,.int .u8 191,.int .u8 160,.int .u8 191,.int .u8 128,.int .u8 159,.int .u8 144,.int .u8 191,.int .u8 128,.int .u8 143,.int .u8 0,.int .u8 0,.int .u8 0,.int .u8 0,.int .u8 0,.int .u8 0,.int .u8 0,.int .u8 0,.int .u8 0,.int .u8 0,.int .u8 0,.int .u8 0,.int .u8 0,.int .u8 0,.int .u8 0,.int .u8 0,.int .u8 0,.int .u8 0,.int .u8 0,.int .u8 0,.int .u8 0,.int .u8 0] t frozen|o=>o).modify 3 fun|.cells _ t frozen=>.cells #[.iface 249 (.pointer (some ⟨(World.holding Tryz.prog default ⟨#[],#[],[]⟩).heap.size+0,0,none⟩))] t frozen|o=>o).modify 2 fun|.cells _ t frozen=>.cells #[.iface 249 (.pointer (some ⟨(World.holding Tryz.prog default ⟨#[],#[],[]⟩).heap.size+1,0,none⟩))] t frozen|o=>o).modify 6 fun|.cells _ t frozen=>.cells #[.int .u8 240,.int .u8 240,.int .u8 240,.int .u8 240,.int .u8 240,.int .u8 240,.int .u8 240,.int .u8 240,.int .u8 240,.int .u8 240,.int .u8 240,.int .u8 240,.int .u8 240,.int .u8 240,.int .u8 240,.int .u8 240,.int .u8 240,.int .u8 240,.int .u8 240,.int .u8 240,.int .u8 240,.int .u8 240,.int .u8 240,.int .u8 240,.int .u8 240,.int .u8 240,.int .u8 240,.int .u8 240,.int .u8 240,.int .u8 240,.int .u8 240,.int .u8 240,.int .u8 240,.int .u8 240,.int .u8 240,.int .u8 240,.int .u8 240,.int .u8 240,.int .u8 240,.int .u8 240,.int .u8 240,.int .u8 240,.int .u8 240,.int .u8 240,.int .u8 240,.int .u8 240,.int .u8 240,.int .u8 240,.int .u8 240,.int .u8 240,.int .u8 240,.int .u8 240,.int .u8 240,.int .u8 240,.int .u8 240,.int .u8 240,.int .u8 240,.int .u8 240,.int .u8 240,.int .u8 240,.int .u8 240,.int .u8 240,.int .u8 240,.int .u8 240,.int .u8 240,.int .u8 240,.int .u8 240,.int .u8 240,.int .u8 240,.int .u8 240,.int .u8 240,.int .u8 240,.int .u8 240,.int .u8 240,.int .u8 240,.int .u8 240,.int .u8 240,.int .u8 240,.int .u8 240,.int .u8 240,.int .u8 240,.int .u8 240,.int .u8 240,.int .u8 240,.int .u8 240,.int .u8 240,.int .u8 240,.int .u8 240,.int .u8 240,.int .u8 240,.int .u8 240,.int .u8 240,.int .u8 240,.int .u8 240,.int .u8 240,.int .u8 240,.int .u8 240,.int .u8 240,.int .u8 240,.int .u8 240,.int .u8 240,.int .u8 240,.int .u8 240,.int .u8 240,.int .u8 240,.int .u8 240,.int .u8 240,.int .u8 240,.int .u8 240,.int .u8 240,.int .u8 240,.int .u8 240,.int .u8 240,.int .u8 240,.int .u8 240,.int .u8 240,.int .u8 240,.int .u8 240,.int .u8 240,.int .u8 240,.int .u8 240,.int .u8 240,.int .u8 240,.int .u8 240,.int .u8 240,.int .u8 240,.int .u8 240,.int .u8 240,.int .u8 241,.int .u8 241,.int .u8 241,.int .u8 241,.int .u8 241,.int .u8 241,.int .u8 241,.int .u8 241,.int .u8 241,.int .u8 241,.int .u8 241,.int .u8 241,.int .u8 241,.int .u8 241,.int .u8 241,.int .u8 241,.int .u8 241,.int .u8 241,.int .u8 241,.int .u8 241,.int .u8 241,.int .u8 241,.int .u8 241,.int .u8 241,.int .u8 241,.int .u8 241,.int .u8 241,.int .u8 241,.int .u8 241,.int .u8 241,.int .u8 241,.int .u8 241,.int .u8 241,.int .u8 241,.int .u8 241,.int .u8 241,.int .u8 241,.int .u8 241,.int .u8 241,.int .u8 241,.int .u8 241,.int .u8 241,.int .u8 241,.int .u8 241,.int .u8 241,.int .u8 241,.int .u8 241,.int .u8 241,.int .u8 241,.int .u8 241,.int .u8 241,.int .u8 241,.int .u8 241,.int .u8 241,.int .u8 241,.int .u8 241,.int .u8 241,.int .u8 241,.int .u8 241,.int .u8 241,.int .u8 241,.int .u8 241,.int .u8 241,.int .u8 241,.int .u8 241,.int .u8 241,.int .u8 2,.int .u8 2,.int .u8 2,.int .u8 2,.int .u8 2,.int .u8 2,.int .u8 2,.int .u8 2,.int .u8 2,.int .u8 2,.int .u8 2,.int .u8 2,.int .u8 2,.int .u8 2,.int .u8 2,.int .u8 2,.int .u8 2,.int .u8 2,.int .u8 2,.int .u8 2,.int .u8 2,.int .u8 2,.int .u8 2,.int .u8 2,.int .u8 2,.int .u8 2,.int .u8 2,.int .u8 2,.int .u8 2,.int .u8 2,.int .u8 19,.int .u8 3,.int .u8 3,.int .u8 3,.int .u8 3,.int .u8 3,.int .u8 3,.int .u8 3,.int .u8 3,.int .u8 3,.int .u8 3,.int .u8 3,.int .u8 3,.int .u8 35,.int .u8 3,.int .u8 3,.int .u8 52,.int .u8 4,.int .u8 4,.int .u8 4,.int .u8 68,.int .u8 241,.int .u8 241,.int .u8 241,.int .u8 241,.int .u8 241,.int .u8 241,.int .u8 241,.int .u8 241,.int .u8 241,.int .u8 241,.int .u8 241] t frozen|o=>o) }
theorem d4d (os:Os):laidMet Tryz.prog Rows.consoleExactRow.laid ((b4n os).forCall (fun _ _=>0) ⟨#[],#[.slice none 0 0,.slice none 0 0,.string ⟨#[]⟩],[]⟩).memory :=
  laidMet_of_run' 8 (by kernel_rfl) (by kernel_rfl)
theorem reads (os:Os) {H:Type} (enc:TypeId×Value→H):∃places,DataW.whole enc Tryz.prog ((b4n os).forCall (fun _ _=>0) ⟨#[],#[.slice none 0 0,.slice none 0 0,.string ⟨#[]⟩],[]⟩).memory Tryz.f6.params.toList Rows.consoleExactSpec.vars false #[.slice none 0 0,.slice none 0 0,.string ⟨#[]⟩].toList 8=some ([.nil,.nil,.lit (.string [])],[],places) :=
  ⟨[],by kernel_rfl⟩

theorem lifted (os:Os) (started:os.Started) (H:Type) (enc:TypeId×Value→H) (F:Stop.Interp) :
    ReturnsInHanded {} Tryz.checked os 6 .any ((OpenSpec.ofChange Rows.consoleExactSpec).preRow enc Tryz.prog Tryz.f6 Rows.consoleExactRow.domain false Rows.consoleExactRow.laid) (((OpenSpec.ofChange Rows.consoleExactSpec).at F).post enc Tryz.prog Tryz.f6 false true false false):=by
  obtain ⟨places,hx⟩:=reads os enc
  refine returnsInHanded_of_row (C:=Tryz.checked) (s:=OpenSpec.ofChange Rows.consoleExactSpec) own started (by kernel_rfl) Tryz.func6
    (witness_row_at (enc:=enc) (C:=Tryz.checked) false (b4n os) #[.slice none 0 0,.slice none 0 0,.string ⟨#[]⟩] rfl (by kernel_rfl) (by kernel_rfl) (by kernel_rfl)
      (OpenSpec.preRow_of_cond 8 hx (by kernel_rfl) (fun k hk=>by cases hk) (by kernel_rfl) (d4d os))) ?_
  intro W base args ds gs before hval hW _ _ _ hL _ _
  exact contract H enc W base args ds gs before hval hW hL

theorem g0t {a b:Bool} (h1:a=true) (h2:b=true):(a&&b)=true:=by rw [h1,h2];rfl
set_option maxHeartbeats 0 in
theorem joined:joinedFacts Tryz.pinned.checked.prog 6 Tryz.f6 (OpenSpec.ofChange Rows.consoleExactSpec).bare Rows.consoleExactRow=true:=by
  unfold joinedFacts
  iterate 31 (refine g0t ?_ (by as_aux_lemma=>kernel_rfl))
  as_aux_lemma=>kernel_rfl
theorem said:Rows.ConsoleExactSaid :=
  OpenClaim.holds_of_cond 6 Tryz.f6 rfl rfl rfl rfl rfl rfl rfl ⟨rfl,rfl,rfl,rfl,rfl⟩ rfl rfl rfl rfl rfl (by kernel_rfl) Tryz.func6 joined
    (of_decide_eq_true (by kernel_rfl)) (by unfold Func.isWrapper;first|(rw [if_pos (by decide +kernel)];kernel_rfl)|(rw [if_neg (by decide +kernel)];exact ⟨rfl,rfl⟩))
    (fun os started H enc _ F=>by rw [OpenClaim.pre_eq_preRow];exact lifted os started H enc F)

theorem plain (f:FuncId) (fn:Func) (hf:Tryz.pinned.checked.prog.funcNamed "leakresponse/leakresponselaw44.ConsoleExact"=some f) (hfn:Tryz.pinned.checked.prog.funcs[f]?=some fn) :
    true=Tryz.pinned.checked.prog.looks []∧∀(j:Nat) t,fn.params[j]?=some t→Tryz.pinned.checked.prog.wantsStandIn t=false:=by
  obtain rfl:f=6:=Option.some.inj ((show Tryz.prog.funcNamed "leakresponse/leakresponselaw44.ConsoleExact"=some 6 by kernel_rfl).symm.trans hf)|>.symm
  obtain rfl:fn=Tryz.f6:=(Option.some.inj (Tryz.func6.symm.trans hfn)).symm
  refine ⟨by kernel_rfl,fun j t ht=>?_⟩
  have h:(Tryz.f6.params.toList.all fun t=>!Tryz.prog.wantsStandIn t)=true:=by kernel_rfl
  have hm:t∈Tryz.f6.params.toList:=by simpa using Array.mem_of_getElem? ht
  have:=List.all_eq_true.1 h t hm
  have e:Tryz.prog.wantsStandIn t=false:=by simpa using this
  exact e

/-- the card -/
theorem card:Rows.ConsoleExactCardSaid :=
  Claim7.holds_tied_plain_at .later [] _ _ _ _ said (fun _ h=>by cases h) (by kernel_rfl) (fun _ h=>by cases h) consoleExact_row_tie rfl ⟨rfl,rfl⟩ (by kernel_rfl) rfl plain (by kernel_rfl)

end Go.Proofs.YtnaeedamiaoipaaGreatDoor