/- The abstract layer, part 10b: regions in text order with notes between the operations. -/
import Derived.Test.YtkdkcffaohmedaaDoorAbNote
set_option linter.all false
set_option linter.unusedSimpArgs false
set_option linter.unusedVariables false
namespace Go.Ab
open Go.RowKit

inductive It where
  | op (m : MOp)
  | nt (n : Note)
def itsOps : List It → List MOp
  | [] => []
  | .op m :: r => m :: itsOps r
  | .nt _ :: r => itsOps r
def runI (P : Program) (H0 : Heap) : List It → St → (St → Prop) → Prop
  | [], σ, K => K σ
  | .op m :: r, σ, K => runOne P H0 m σ fun σ' => runI P H0 r σ' K
  | .nt n :: r, σ, K => stepNote H0 n σ fun σ' => runI P H0 r σ' K

section
variable {P : Program} {c : Ctx} {g : Gh} {σ : St} {a : Act} {w : World}
theorem runI_sound {ops : Array Oper} {Q : Exit → Act → World → Prop} {K : St → Prop} (hK : ∀ σ' g' a' w', K σ' → Rel P c g' σ' a' w' → Q .normal a' w') :
    ∀ (ms : List It) (i : Nat) (g : Gh) (σ : St) (a : Act) (w : World), mopsOK P c.nt ops (itsOps ms) (ops.toList.drop i) = true → Rel P c g σ a w → runI P c.H0 ms σ K → wpOps P ops Q (List.range' i (itsOps ms).length) a w
  | [], i, g, σ, a, w, _, hR, h => hK σ g a w h hR
  | .nt n :: r, i, g, σ, a, w, hok, hR, h => by
    obtain ⟨g', σ', h', hR'⟩ := note_sound (n := n) (K := fun σ' => runI P c.H0 r σ' K) h hR
    exact runI_sound hK r i g' σ' a w hok hR' h'
  | .op m :: r, i, g, σ, a, w, hok, hR, h => by
    simp only [itsOps] at hok ⊢
    rw [List.length_cons, List.range'_succ, wpOps_cons]
    cases hd : ops.toList.drop i with
    | nil => rw [hd] at hok; simp [mopsOK] at hok
    | cons o s =>
      rw [hd] at hok
      simp only [mopsOK, Bool.and_eq_true] at hok
      obtain ⟨hm, hr⟩ := hok
      have hi : ops[i]? = some o := by
        have : (ops.toList.drop i)[0]? = some o := by rw [hd]; rfl
        rw [List.getElem?_drop, Nat.add_zero, Array.getElem?_toList] at this
        exact this
      have hs : ops.toList.drop (i + 1) = s := by
        have := congrArg List.tail hd
        simpa using this
      rw [← hs] at hr
      have ih := fun g σ a w => runI_sound hK r (i + 1) g σ a w hr
      have hm' := hm
      simp only [MOp.ok, Bool.and_eq_true] at hm'
      obtain ⟨⟨_, h2⟩, h3⟩ := hm'
      obtain ⟨hdd, hlt⟩ := dstOK_inv h2
      simp only [wpOp, hi]
      simp only [runI, runOne] at h
      cases hg : m.guard with
      | none =>
        rw [hg] at h h3
        simp only [guard_none h3, if_true]
        exact .inl (runIns_sound hm hR h fun eff he g' a' w' hR' => ih g' _ a' w' hR' he)
      | some p =>
        obtain ⟨t, want⟩ := p
        rw [hg] at h h3
        simp only at h
        split at h
        case h_3 => exact h.elim
        case h_2 hb =>
          rw [guard_tup h3 hR hb]
          simp only [Bool.false_eq_true, if_false]
          exact ih g _ _ w (by rw [← hdd]; exact hR.undef' hlt) h
        rename_i b hb
        obtain ⟨hx, hy⟩ := h
        rw [guard_wanted h3 hR hb]
        have hf := get_bool hb
        by_cases hbw : b = want
        · subst hbw
          have hw : beqB b b = true := by cases b <;> rfl
          simp only [hw, if_true]
          have hx := hx rfl
          rw [put_same hf] at hx
          exact .inl (runIns_sound hm hR hx fun eff he g' a' w' hR' => ih g' _ a' w' hR' he)
        · have hbn : b = (!want) := by cases b <;> cases want <;> first | rfl | exact absurd rfl hbw
          have hw : beqB b want = false := by rw [hbn]; cases want <;> rfl
          simp only [hw, Bool.false_eq_true, if_false]
          have hy := hy hbn
          rw [← hbn, put_same hf] at hy
          exact ih g _ _ w (by rw [← hdd]; exact hR.undef' hlt) hy
theorem regionI_sound {id : Nat} {ops : Array Oper} {ms : List It} {Q : Exit → Act → World → Prop} {K : St → Prop} (hK : ∀ σ' g' a' w', K σ' → Rel P c g' σ' a' w' → Q .normal a' w')
    (hok : mopsOK P c.nt ops (itsOps ms) ops.toList = true) (hR : Rel P c g σ a w) (h : runI P c.H0 ms σ K) : (Code.region id ops false).wp P Q a w := by
  refine wp_region ?_
  have hl : ∀ {ms : List MOp} {l : List Oper}, mopsOK P c.nt ops ms l = true → ms.length = l.length := by
    intro ms
    induction ms with
    | nil =>
      intro l h
      cases l with
      | nil => rfl
      | cons o s => cases h
    | cons m r ih =>
      intro l h
      cases l with
      | nil => cases h
      | cons o s =>
        simp only [mopsOK, Bool.and_eq_true] at h
        simp only [List.length_cons, ih h.2]
  have := runI_sound hK ms 0 g σ a w (by rw [List.drop_zero]; exact hok) hR h
  rw [hl hok, Array.length_toList] at this
  rwa [List.range_eq_range']
end
end Go.Ab
