/- The abstract layer: the same run inside a round of a range over a function. -/
import Derived.Test.YtgjicmoegmbipaaGreatAbRegI
import Derived.Test.YtgjicmoegmbipaaGreatAbRegF
import Derived.RangeFuncLeaves
import Derived.RangeFuncFrom
import Derived.OrdersIn
set_option linter.all false
namespace Go.Ab
open Go.RowKit
def WF (r : Option Nat) : Fence := { Fence.wide with round := r }
theorem wf_room (r : Option Nat) (n : Nat) : (WF r).room n := room_wide n
section
variable {P : Program} {r : Option Nat} {n : Nat}
theorem callsIn_wf {f : FuncId} {args : Array Value} {w : World} {R : Ending → World → Prop} (h : Calls P f args w R) : CallsIn (WF r) n P f args w R :=
 ⟨trivial, fun cs hr => ((callsIn_wide (n := n)).2 h).2 cs hr⟩
theorem calls_wf {f : FuncId} {args : Array Value} {w : World} {R : Ending → World → Prop} (h : CallsIn (WF r) n P f args w R) : Calls P f args w R :=
 h.calls (wf_room r)
theorem rowsIn_wf {row : String} {args : Array Value} {w : World} {R : Value → World → Prop} (h : Rows P row args w R) : RowsIn (WF r) n P row args w R :=
 fun c cs _ => let ⟨v, w', hr, hs⟩ := h c cs; ⟨v, w', hr, stepsIn_wide.2 hs⟩
def notDefer (o : Oper) : Bool := match o.op with | .defer _ => false | _ => true
theorem notDefer_ne {o : Oper} (h : notDefer o = true) : ∀ c, o.op ≠ .defer c := by
 intro c e; simp [notDefer, e] at h
theorem opIn_of {o : Oper} {a : Act} {w : World} {K : Act → World → Prop} {Q : Exit → Act → World → Prop} (hd : notDefer o = true) (h : o.wp P a w K Q) : o.wpIn (WF r) n P a w K Q := by
 refine ⟨fun _ _ => trivial, ?_⟩
 rw [Oper.semAt_eq _ _ _ (notDefer_ne hd)]
 unfold Oper.wp at h
 generalize (execOp a.eval o).run P w = res at *
 cases res with
 | ok x w' =>
  cases x with
  | value v => exact h
  | skip => exact h
  | enter f args => exact ⟨fun h => by simp [WF, Fence.wide] at h, callsIn_wf h⟩
  | row row args => exact ⟨fun h => by simp [WF, Fence.wide] at h, rowsIn_wf h⟩
  | _ => first|exact h|exact h.elim
 | halt x w' => 
  cases x with
  | panic v => exact h
  | _ => exact h.elim
theorem opsIn_of {ops : Array Oper} {Q : Exit → Act → World → Prop} (hd : (ops.toList.all notDefer) = true) (hQ : ∀ a w, ¬ Q .outgrown a w) :
  ∀ (l : List Nat) (a : Act) (w : World), wpOps P ops Q l a w → wpOpsIn (WF r) n P ops Q l a w
 | [], a, w, h => h
 | i :: rest, a, w, h => by
  simp only [wpOps] at h
  simp only [wpOpsIn]
  cases ho : ops[i]? with
  | none => rw [ho] at h; exact opsIn_of hd hQ rest a w h
  | some o =>
   rw [ho] at h
   have hnd : notDefer o = true := by
    have := List.all_eq_true.1 hd o (by
     have := Array.getElem?_toList (xs := ops) (i := i)
     rw [ho] at this
     exact List.mem_of_getElem? this)
    exact this
   by_cases hw : Region.wanted o (yielded ops a.tmps) = true
   ·simp only [hw, if_true] at h ⊢
    rcases h with h | ⟨_, a0, w0, h⟩
    ·exact Oper.wpIn_mono (fun a w h => opsIn_of hd hQ rest a w h) (opIn_of hnd h)
    ·exact absurd h (hQ a0 w0)
   ·simp only [hw, if_false] at h ⊢
    exact ⟨fun _ _ => trivial, opsIn_of hd hQ rest _ w h⟩
variable {c : Ctx} {g : Gh} {σ : St} {a : Act} {w : World}
theorem region_in {id : Nat} {ops : Array Oper} {ms : List MOp} {Q : Exit → Act → World → Prop} {K : St → Prop} (hd : (ops.toList.all notDefer) = true) (hQ : ∀ a w, ¬ Q .outgrown a w) (hK : ∀ σ' g' a' w', K σ' → Rel P c g' σ' a' w' → Q .normal a' w')
  (hok : mopsOK P c.nt ops ms ops.toList = true) (hR : Rel P c g σ a w) (h : runN P c.H0 ms σ K) : (Code.region id ops false).wpIn (WF r) n P Q a w :=
 wpIn_region (opsIn_of hd hQ _ _ _ (region_ops hK hok hR h))
theorem regionI_in {id : Nat} {ops : Array Oper} {ms : List It} {Q : Exit → Act → World → Prop} {K : St → Prop} (hd : (ops.toList.all notDefer) = true) (hQ : ∀ a w, ¬ Q .outgrown a w) (hK : ∀ σ' g' a' w', K σ' → Rel P c g' σ' a' w' → Q .normal a' w')
  (hok : mopsOK P c.nt ops (itsOps ms) ops.toList = true) (hR : Rel P c g σ a w) (h : runI P c.H0 ms σ K) : (Code.region id ops false).wpIn (WF r) n P Q a w :=
 wpIn_region (opsIn_of hd hQ _ _ _ (regionI_ops hK hok hR h))
theorem regionD_in {id : Nat} {ops : Array Oper} {ms : List MOp} {aft anc : List (List Nat)} {Q : Exit → Act → World → Prop} {K : St → Prop} (hd : (ops.toList.all notDefer) = true) (hQ : ∀ a w, ¬ Q .outgrown a w) (hmix : P.follows .mixedOrders = true)
  (hK : ∀ σ' g' a' w', K σ' → Rel P c g' σ' a' w' → Q .normal a' w') (hok : mopsOK P c.nt ops ms ops.toList = true) (haft : aftOK aft ops.toList = true) (hanc : ancOK anc 0 aft anc = true) (hlate : lateOK ms ms anc = true) (hR : Rel P c g σ a w)
  (h : runD P c.H0 ms [] σ fun log σ' => chkAll c.H0 σ 0 anc log.reverse = true ∧ K σ') : (Code.region id ops true).wpIn (WF r) n P Q a w :=
 wpIn_region_draw fun t => opsIn_of hd hQ _ _ _ (regionD_ops hmix hK hok haft hanc hlate hR h t)
end
end Go.Ab
