/- What the functions of this seat that lie on the laws' road compute (part BI), each for every input. By AI agents. -/
import Derived.Test.YteegjccaabkhgaaBK
import Derived.Test.YteegjccaabkhgaaAbBack
set_option linter.all false
namespace Go.Ab
open Go.RowKit Go.Proofs
def revs (xs : List V) : List (List V) := (List.range xs.length).map fun k => [.int .i64 ((xs.length - 1 - k : Nat) : Int), xs.getD (xs.length - 1 - k) .any]
theorem aiter_back (xs : List V) (hx : ∀ x ∈ xs, ∃ cs, x = .agg cs ∧ x.cells = cs ∧ cs.length = 7) : AIter Try.prog 43 [.eptr (.agg [.sl xs]) 0] [] (revs xs) := by
  refine ⟨by kernel_rfl, fun g w lb hH hlb hv l J Jx hJ hJx hY h0 => callsIn_wf (r := none) (n := 0) (calls_wf (r := none) (n := 1) ?_)⟩
  have hv0 := hv 0 _ rfl
  have hlbe : lb = #[lb.getD 0 undef] := by
    have : lb.size = 1 := hlb
    apply Array.ext
    · simp [this]
    · intro i h1 h2
      have : i = 0 := by omega
      subst this
      simp only [List.getElem_toArray, List.getElem_cons_zero]
      rw [Array.getD_eq_getD_getElem?, Array.getElem?_eq_getElem h1, Option.getD_some]
  rw [hlbe]
  generalize lb.getD 0 undef = v at hv0
  have hlen : (revs xs).length = xs.length := by simp [revs]
  rw [hlen]
  cases hv0 with
  | rd h => cases h
  | eptr b o off cur e fz x hS hg hb hr =>
    have hrd := hr 0 (.sl xs) (by simp [V.cells])
    have hsz : o < cur.size := by simp [V.cells] at hb; omega
    have hbox : ∀ W, Keep g.S w W → W.cell? ⟨b, o + 0, none⟩ = some (cur.getD (o + 0) undef) := fun W hk => by
      simp only [World.cell?, hk b hS, hg]
      simp [Array.getD_eq_getD_getElem?, hsz]
    generalize cur.getD (o + 0) undef = sv at hrd hbox
    cases hrd with
    | nilsl =>
      refine (back1_nil_in (WF none) 1 trivial rfl l b (o + 0) 0 none (J 0) w (hbox w fun _ _ => rfl) h0).mono fun e W' ⟨h1, h2⟩ => ⟨h1, .inl h2⟩
    | slz a cap =>
      refine (back1_nil_in (WF none) 1 trivial rfl l b (o + 0) cap (some a) (J 0) w (hbox w fun _ _ => rfl) h0).mono fun e W' ⟨h1, h2⟩ => ⟨h1, .inl h2⟩
    | sl g' o' len cap k cur2 e2 fz2 xs hS2 hg2 hl hm hc hb2 hk hr2 =>
      by_cases h0l : len = 0
      · subst h0l
        rw [hl]
        exact (back1_nil_in (WF none) 1 trivial rfl l b (o + 0) cap _ (J 0) w (hbox w fun _ _ => rfl) h0).mono fun e W' ⟨h1, h2⟩ => ⟨h1, .inl h2⟩
      have hx7 : ∀ i, (hi : i < xs.length) → ∃ cs, xs[i] = .agg cs ∧ (xs[i]).cells = cs ∧ cs.length = 7 := fun i hi => hx _ (List.getElem_mem hi)
      have hk7 : k = 7 := by
        obtain ⟨cs, e1, e2, e3⟩ := hx7 0 (by omega)
        have := (hk _ (List.getElem_mem (show 0 < xs.length by omega))).1
        rw [e2, e3] at this; exact this.symm
      subst hk7
      have hsz2 : o' + len * 7 ≤ cur2.size := hb2.resolve_left h0l
      have hcell : ∀ W, Keep g.S w W → ∀ i j, i < len → j < 7 → W.cell? ⟨g', o' + i * 7 + j, none⟩ = some (cur2.getD (o' + i * 7 + j) undef) := fun W hkW i j hi hj => by
        have hlt : o' + i * 7 + j < cur2.size := by omega
        simp only [World.cell?, hkW g' hS2, hg2]
        simp [Array.getD_eq_getD_getElem?, hlt]
      rw [hl]
      refine (back1_in (WF none) 1 trivial rfl (Nat.le_refl _) l b (o + 0) g' o' len cap (fun i j => cur2.getD (o' + i * 7 + j) undef) (by unfold maxLen at hm; omega) (fun k W => J k W ∧ Keep g.S w W) Jx (fun k W h => hbox W h.2)
        (fun k W h i hi => ⟨hcell W h.2 i 0 hi (by omega), hcell W h.2 i 1 hi (by omega), hcell W h.2 i 2 hi (by omega), hcell W h.2 i 3 hi (by omega), hcell W h.2 i 4 hi (by omega), hcell W h.2 i 5 hi (by omega), hcell W h.2 i 6 hi (by omega)⟩)
        (fun k W h hlt => ?_) w ⟨h0, fun _ _ => rfl⟩).mono fun e W' ⟨h1, h2⟩ => ⟨h1, h2.imp And.left id⟩
      have hvals : ∀ (i : Nat) (x : V), [V.int .i64 ((xs.length - 1 - k : Nat) : Int), xs.getD (xs.length - 1 - k) .any][i]? = some x → VR g W ((#[Value.int .i64 ((xs.length - 1 - k : Nat) : Int), Value.agg #[cur2.getD (o' + (len - 1 - k) * 7 + 0) undef, cur2.getD (o' + (len - 1 - k) * 7 + 1) undef, cur2.getD (o' + (len - 1 - k) * 7 + 2) undef, cur2.getD (o' + (len - 1 - k) * 7 + 3) undef, cur2.getD (o' + (len - 1 - k) * 7 + 4) undef, cur2.getD (o' + (len - 1 - k) * 7 + 5) undef, cur2.getD (o' + (len - 1 - k) * 7 + 6) undef]]).getD i undef) x := by
        intro i x hi
        match i with
        | 0 =>
          simp at hi; subst hi
          refine .rd (.int _ _ ?_)
          unfold maxLen at hm
          simp [inR, IntKind.min, IntKind.max, IntKind.signed, IntKind.bits]
          omega
        | 1 =>
          simp at hi
          have hlt2 : xs.length - 1 - k < xs.length := by omega
          have hxe : x = xs[xs.length - 1 - k] := by
            rw [← hi]; simp [hlt2]
          obtain ⟨cs, e1, e2, e3⟩ := hx7 _ hlt2
          rw [hxe, e1]
          refine .agg _ _ (by simp [e3]) fun j c hj => ?_
          have hj7 : j < 7 := by rw [← e3]; exact (List.getElem?_eq_some_iff.1 hj).1
          have := (hr2 (xs.length - 1 - k) j _ c (List.getElem?_eq_getElem hlt2) (by rw [e2]; exact hj)).mono (S' := g.S) (w' := W) h.2 fun _ h => h
          rw [hl] at this
          have e7 : (#[cur2.getD (o' + (len - 1 - k) * 7 + 0) undef, cur2.getD (o' + (len - 1 - k) * 7 + 1) undef, cur2.getD (o' + (len - 1 - k) * 7 + 2) undef, cur2.getD (o' + (len - 1 - k) * 7 + 3) undef, cur2.getD (o' + (len - 1 - k) * 7 + 4) undef, cur2.getD (o' + (len - 1 - k) * 7 + 5) undef, cur2.getD (o' + (len - 1 - k) * 7 + 6) undef]).getD j undef = cur2.getD (o' + (len - 1 - k) * 7 + j) undef := by
            match j, hj7 with
            | 0, _ | 1, _ | 2, _ | 3, _ | 4, _ | 5, _ | 6, _ => rfl
          rw [e7]
          exact .rd this
        | i + 2 => simp at hi
      obtain ⟨fn, tmps, asg, body, hy, hR⟩ := hY k [.int .i64 ((xs.length - 1 - k : Nat) : Int), xs.getD (xs.length - 1 - k) .any] W #[.int .i64 ((xs.length - 1 - k : Nat) : Int), Value.agg #[cur2.getD (o' + (len - 1 - k) * 7 + 0) undef, cur2.getD (o' + (len - 1 - k) * 7 + 1) undef, cur2.getD (o' + (len - 1 - k) * 7 + 2) undef, cur2.getD (o' + (len - 1 - k) * 7 + 3) undef, cur2.getD (o' + (len - 1 - k) * 7 + 4) undef, cur2.getD (o' + (len - 1 - k) * 7 + 5) undef, cur2.getD (o' + (len - 1 - k) * 7 + 6) undef]] (by simp [revs, show k < xs.length from (by omega)]) rfl hvals h.1
      · rw [hl] at hy
        refine ⟨fn, tmps, asg, body, hy, hR.mono ?_⟩
        rintro e W' (⟨e1, j1, k1⟩ | h3)
        · exact .inl ⟨e1, j1, fun q hq => (k1.1 q hq).trans (h.2 q hq)⟩
        · exact .inr h3
end Go.Ab
