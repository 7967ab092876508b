/- What the functions of this seat that lie on the laws' road compute (part RCB31), each for every input. By AI agents. -/
import Derived.Test.YtopbblhkapgdkaaDoorRC31
set_option linter.all false
set_option linter.unusedVariables false
namespace Go.Ab
open Go.RowKit Go.Proofs Go.Deep

theorem calls_bool {P : Program} {f : Nat} {args : List V} {b : Bool} (h : ACall P f args [] (fun r H' => r = .bool b ∧ H' = [])) {g : Gh} {w W : World} (hH : HRel P g w []) (hk : Keep g.S w W) (hs : w.heap.size ≤ W.heap.size)
    {vals : Array Value} (hsz : vals.size = args.length) (hv : ∀ (i : Nat) (x : V), args[i]? = some x → VR g w (vals.getD i undef) x) :
    Calls P f vals W fun e W' => e = .returned (.bool b) ∧ W.Since W.heap.size W' := by
  refine (h.2 g W vals ⟨fun _ _ h => (by cases h), fun _ _ _ _ h => (by cases h), fun _ _ h => (by cases h), fun b hb => Nat.lt_of_lt_of_le (hH.lt b hb) hs, fun w' hw => hH.tabs w' fun b hb => (hw b hb).trans (hk b hb)⟩ hsz fun i x hx => (hv i x hx).mono hk (fun _ h => h) fun id _ => .refl _ _).mono ?_
  rintro e w' ⟨v, r, H', g', rfl, ⟨rfl, rfl⟩, hH', hr, hf, _⟩
  refine ⟨by rw [hr.bool_inv], ⟨hf.os, hf.tape, hf.output, hf.size, fun b hb => hf.old b hb ?_⟩⟩
  rintro ⟨id, o, ho, _⟩
  cases ho
/-- ref25.reach: which credentials are reached -/
def reachF (x : GRights) (c : Int) : Option (List Bool) :=
  chk (inb c 24 && decide (x.Credentials ≤ 24) && decide (c < x.Credentials) && (List.range x.Credentials.toNat).all fun a => (List.range x.Credentials.toNat).all fun b => (F_ref25_leads x a b).isSome)
    (some ((List.range x.Credentials.toNat).map (oul (fun a b => (F_ref25_leads x a b).getD false) x.Credentials.toNat (fun i => decide (i = c.toNat)) x.Credentials.toNat)))
theorem arr5 {vals : Array Value} (h2 : vals.size = 5) : vals = #[vals.getD 0 undef, vals.getD 1 undef, vals.getD 2 undef, vals.getD 3 undef, vals.getD 4 undef] := by
  apply Array.ext
  · simp [h2]
  · intro i h1 h3
    have : i = 0 ∨ i = 1 ∨ i = 2 ∨ i = 3 ∨ i = 4 := by omega
    rcases this with rfl | rfl | rfl | rfl | rfl <;> simp [Array.getD_eq_getD_getElem?, h1]
theorem W_reach {x : GRights} {c : Int} {y : List Bool} (hy : reachF x c = some y) :
    ACall Tryd.prog 26 [GRights.v x, .int .i64 c] [] (fun r H' => r = .sl (y.map V.bool) ∧ H' = []) := by
  unfold reachF at hy
  have hc0 : (inb c 24 && decide (x.Credentials ≤ 24) && decide (c < x.Credentials) && (List.range x.Credentials.toNat).all (fun a => (List.range x.Credentials.toNat).all fun b => (F_ref25_leads x a b).isSome)) = true := by
    generalize hcc : (inb c 24 && decide (x.Credentials ≤ 24) && decide (c < x.Credentials) && (List.range x.Credentials.toNat).all (fun a => (List.range x.Credentials.toNat).all fun b => (F_ref25_leads x a b).isSome)) = cc at hy ⊢
    cases cc with
    | true => rfl
    | false => simp [chk] at hy
  rw [chk_true hc0] at hy
  obtain rfl := (Option.some.inj hy).symm
  clear hy
  rw [Bool.and_eq_true, Bool.and_eq_true, Bool.and_eq_true] at hc0
  obtain ⟨⟨⟨h1, h2⟩, h3⟩, h4⟩ := hc0
  have h1 := inb_iff.1 h1
  have h2 := of_decide_eq_true h2
  have h3 := of_decide_eq_true h3
  refine acall_fresh (by kernel_rfl) fun g w vals hH hsz hv => ?_
  have hx := hv 0 _ rfl
  have hc := hv 1 _ rfl
  rw [arr2 hsz]
  generalize vals.getD 0 undef = dv at hx
  generalize vals.getD 1 undef = cv at hc
  clear hv
  obtain ⟨vs, rfl, hvl, hvr⟩ := VR.agg_inv hx
  rw [arr5 hvl] at hx ⊢
  have hn := (VR.int_inv (hvr 0 _ rfl)).1
  generalize vs.getD 0 undef = nv at hn hx
  generalize vs.getD 1 undef = v1 at hx
  generalize vs.getD 2 undef = v2 at hx
  generalize vs.getD 3 undef = v3 at hx
  generalize vs.getD 4 undef = v4 at hx
  subst hn
  rw [hc.int_inv.1]
  clear hvr hvl
  have hN : x.Credentials = ((x.Credentials.toNat : Nat) : Int) := by omega
  have hC : c = ((c.toNat : Nat) : Int) := by omega
  generalize x.Credentials.toNat = n at *
  generalize c.toNat = ci at *
  rw [hN] at hx ⊢
  rw [hC]
  refine (reach_walk n ci (by omega) (by omega) v1 v2 v3 v4 (fun a b => (F_ref25_leads x a b).getD false) w fun W hW a b ha hb => ?_).mono ?_
  · have hs := List.all_eq_true.1 (List.all_eq_true.1 h4 a (List.mem_range.2 ha)) b (List.mem_range.2 hb)
    obtain ⟨z, hz⟩ := Option.isSome_iff_exists.1 hs
    rw [hz]
    refine calls_bool (W_ref25_leads hz) hH (fun q hq => hW.block q (hH.lt q hq)) hW.size (by rfl) fun i v hi => ?_
    match i, hi with
    | 0, hi => cases hi; exact hx
    | 1, hi => cases hi; exact .rd (.int _ _ (by show -9223372036854775808 ≤ _ ∧ _ ≤ (9223372036854775807 : Int); omega))
    | 2, hi => cases hi; exact .rd (.int _ _ (by show -9223372036854775808 ≤ _ ∧ _ ≤ (9223372036854775807 : Int); omega))
  · rintro en w' ⟨bs, ob, rfl, hB⟩
    refine ⟨_, rfl, hB.since, ?_⟩
    rw [List.map_map]
    have hlo := hB.lo
    have := rd_row (S := fun b => g.S b ∨ (w.heap.size ≤ b ∧ b < w'.heap.size)) (F := fun i => .bool (oul (fun a b => (F_ref25_leads x a b).getD false) n (fun i => decide (i = ci)) n i)) hB.out (.inr ⟨by omega, hB.out.lt⟩) (by unfold maxLen; omega) (fun j hj => .bool _) fun i _ => ⟨rfl, rfl, rfl⟩
    exact this
end Go.Ab
