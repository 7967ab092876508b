/- The abstract layer, part 11: code, and calls. -/
import Derived.Test.YtkdkcffaohmedaaDoorAbRegI
import Derived.Test.YtkdkcffaohmedaaDoorAbRegF
set_option linter.all false
namespace Go.Ab
open Go.RowKit

inductive MC where
  | skip
  | ret
  | exit (id : Nat)
  | reg (ms : List MOp)
  | regI (its : List It)
  | regD (ms : List MOp) (aft anc : List (List Nat))
  | seq (a b : MC)
  | cut (a b : MC)
  | cond (c : Opd) (t e : MC)
  | block (id : Nat) (b : MC)
  | loop (b : MC)
  | note (n : Note) (b : MC)

def MC.ok (P : Program) (nt : Nat) : MC → Code → Bool
  | .note _ b, c => b.ok P nt c
  | .skip, .skip => true
  | .ret, .ret => true
  | .exit i, .exit j => Nat.beq i j
  | .reg ms, .region _ ops draw => !draw && mopsOK P nt ops ms ops.toList
  | .regI its, .region _ ops draw => !draw && mopsOK P nt ops (itsOps its) ops.toList
  | .regD ms aft anc, .region _ ops draw => draw && P.follows .mixedOrders && mopsOK P nt ops ms ops.toList && aftOK aft ops.toList && ancOK anc 0 aft anc
  | .seq a b, .seq c d => a.ok P nt c && b.ok P nt d
  | .cut a b, .seq c d => a.ok P nt c && b.ok P nt d
  | .cond x t e, .cond y c d => x.ok y && t.ok P nt c && e.ok P nt d
  | .block i b, .block j c => Nat.beq i j && b.ok P nt c
  | .loop b, .loop c => b.ok P nt c
  | _, _ => false

def subE : List (Nat × V) → List (Nat × V) → Prop
  | [], _ => True
  | (n, x) :: r, env => get n env = x ∧ subE r env
def subHp : Heap → Heap → Prop
  | [], _ => True
  | (n, o) :: r, H => find n H = some o ∧ subHp r H
def noAny : List (Nat × V) → Bool
  | [] => true
  | (_, x) :: r => x.nany && noAny r
def distinct {α : Type} : List (Nat × α) → Bool
  | [] => true
  | (n, _) :: r => (match find n r with | none => true | some _ => false) && distinct r
def St.good (τ : St) : Bool := noAny τ.env && distinct τ.env && distinct τ.heap
def SubSt (τ σ : St) : Prop := τ.good = true ∧ subE τ.env σ.env ∧ subHp τ.heap σ.heap
def factsSt (σ : St) : Prop := factsE σ.env ∧ factsH σ.heap

def cslot (c : Opd) (b : Bool) (σ : St) : St :=
  match c with
  | .t s => ⟨put s (.bool b) σ.env, σ.heap⟩
  | _ => σ

def MWP (P : Program) (H0 : Heap) : MC → (St → Prop) → (Nat → St → Prop) → (St → Prop) → St → Prop
  | .skip, K, _, _, σ => K σ
  | .ret, _, _, R, σ => R σ
  | .exit id, _, X, _, σ => X id σ
  | .reg ms, K, _, _, σ => runN P H0 ms σ K
  | .regI its, K, _, _, σ => runI P H0 its σ K
  | .regD ms _ anc, K, _, _, σ => runD P H0 ms [] σ fun log σ' => chkAll H0 σ 0 anc log.reverse = true ∧ K σ'
  | .seq a b, K, X, R, σ => MWP P H0 a (fun σ' => MWP P H0 b K X R σ') X R σ
  | .cut a b, K, X, R, σ => Lk (∃ (α : Type) (I : α → St) (p : α → Prop), MWP P H0 a (fun σ' => Lk (∃ y, p y ∧ SubSt (I y) σ')) X R σ ∧ ∀ y, p y → factsSt (I y) → MWP P H0 b K X R (I y))
  | .cond c t e, K, X, R, σ => match c.ev σ.env with
    | .bool b => gfork b true (MWP P H0 t K X R (cslot c true σ)) (MWP P H0 e K X R (cslot c false σ))
    | _ => False
  | .block id b, K, X, R, σ => MWP P H0 b K (fun i σ' => bif Nat.beq i id then K σ' else X i σ') R σ
  | .loop b, K, X, R, σ => Lk (∃ (α : Type) (I : α → St) (p : α → Prop) (μ : α → Nat), (∃ x, p x ∧ SubSt (I x) σ) ∧
      ∀ x, p x → factsSt (I x) → MWP P H0 b (fun σ' => Lk (∃ y, p y ∧ μ y < μ x ∧ SubSt (I y) σ')) X R (I x))
  | .note n b, K, X, R, σ => stepNote H0 n σ fun σ' => MWP P H0 b K X R σ'

/-! ### soundness -/
section
variable {P : Program} {c : Ctx}

theorem subE_find {s : Nat} {x : V} : ∀ {τ env : List (Nat × V)}, noAny τ = true → subE τ env → find s τ = some x → find s env = some x
  | (n, y) :: r, env, hn, h, hf => by
    simp only [noAny, Bool.and_eq_true] at hn
    simp only [subE] at h
    simp only [find] at hf
    cases hb : Nat.beq s n with
    | true =>
      rw [hb] at hf; cases hf
      have e := Nat.eq_of_beq_eq_true hb; subst e
      have h1 := h.1
      rw [get_find] at h1
      cases hg : find s env with
      | none => rw [hg] at h1; simp at h1; subst h1; simp [V.nany] at hn
      | some z => rw [hg] at h1; simp at h1; rw [h1]
    | false => rw [hb] at hf; exact subE_find hn.2 h.2 hf
theorem subHp_find {s : Nat} {x : Obj'} : ∀ {τ env : Heap}, subHp τ env → find s τ = some x → find s env = some x
  | (n, y) :: r, env, h, hf => by
    simp only [subHp] at h
    simp only [find] at hf
    cases hb : Nat.beq s n with
    | true =>
      rw [hb] at hf; cases hf
      have e := Nat.eq_of_beq_eq_true hb; subst e
      exact h.1
    | false => rw [hb] at hf; exact subHp_find h.2 hf
theorem Rel.subSt {g : Gh} {σ τ : St} {a : Act} {w : World} (h : Rel P c g σ a w) (hs : SubSt τ σ) : Rel P c g τ a w := by
  obtain ⟨h1, h2, h3⟩ := hs
  simp only [St.good, Bool.and_eq_true] at h1
  exact h.sub (fun _ _ hx => subE_find h1.1.1 h2 hx) fun _ _ hx => subHp_find h3 hx

theorem distinct_find {α : Type} {n : Nat} {x : α} : ∀ {l : List (Nat × α)}, distinct l = true → (n, x) ∈ l → find n l = some x
  | (m, y) :: r, h, hm => by
    simp only [distinct, Bool.and_eq_true] at h
    rcases List.mem_cons.1 hm with e | hm
    · cases e; simp [find]
    · have ih := distinct_find h.2 hm
      have hb : Nat.beq n m = false := by
        cases hb : Nat.beq n m with
        | true =>
          have e := Nat.eq_of_beq_eq_true hb; subst e
          rw [ih] at h; simp at h
        | false => rfl
      simp only [find, hb, cond_false]; exact ih
theorem factsE_of : ∀ {env : List (Nat × V)}, (∀ s x, (s, x) ∈ env → x.fact) → factsE env
  | [], _ => trivial
  | (n, x) :: r, h => ⟨h n x List.mem_cons_self, factsE_of fun s y hy => h s y (List.mem_cons_of_mem _ hy)⟩
theorem factsH_of : ∀ {H : Heap}, (∀ s x, (s, x) ∈ H → x.fact) → factsH H
  | [], _ => trivial
  | (n, x) :: r, h => ⟨h n x List.mem_cons_self, factsH_of fun s y hy => h s y (List.mem_cons_of_mem _ hy)⟩
theorem Rel.factsSt {g : Gh} {σ : St} {a : Act} {w : World} (h : Rel P c g σ a w) (hg : σ.good = true) : factsSt σ := by
  simp only [St.good, Bool.and_eq_true] at hg
  exact ⟨factsE_of fun s x hx => (h.env s x (distinct_find hg.1.2 hx)).2.fact, factsH_of fun s x hx => (h.hp.obj s x (distinct_find hg.2 hx)).fact⟩

theorem exists_least (p : Nat → Prop) (h : ∃ n, p n) : ∃ n, p n ∧ ∀ m, p m → n ≤ m := by
  obtain ⟨n, hn⟩ := h
  induction n using Nat.strongRecOn with
  | _ n ih =>
    by_cases hm : ∃ m, m < n ∧ p m
    · obtain ⟨m, h1, h2⟩ := hm
      exact ih m h1 h2
    · exact ⟨n, hn, fun m hp => Nat.le_of_not_lt fun hlt => hm ⟨m, hlt, hp⟩⟩

open Classical in
/-- a loop whose measure is that of what is said of the state -/
theorem wp_loop' {Q : Exit → Act → World → Prop} {body : Code} {α : Type} (I : α → Act → World → Prop) (μ : α → Nat) {a : Act} {w : World} (h0 : ∃ x, I x a w)
    (round : ∀ x a w, I x a w → body.wp P (Exit.then (fun a' w' => ∃ y, I y a' w' ∧ μ y < μ x) Q) a w) : (Code.loop body).wp P Q a w := by
  let p : Act → World → Nat → Prop := fun a w n => ∃ x, I x a w ∧ μ x = n
  let m : Act → World → Nat := fun a w => if h : ∃ n, p a w n then Classical.choose (exists_least _ h) else 0
  refine wp_loop (fun a w => ∃ x, I x a w) m h0 fun a w hx => ?_
  have hex : ∃ n, p a w n := by obtain ⟨x, hx⟩ := hx; exact ⟨_, x, hx, rfl⟩
  have hm : m a w = Classical.choose (exists_least _ hex) := by simp [m, hex]
  obtain ⟨⟨x, hI, hμ⟩, _⟩ := Classical.choose_spec (exists_least _ hex)
  refine wp_mono (round x a w hI) fun e a' w' hq => ?_
  cases e with
  | normal =>
    obtain ⟨y, hy, hlt⟩ := hq
    refine ⟨⟨y, hy⟩, ?_⟩
    have hex' : ∃ n, p a' w' n := ⟨_, y, hy, rfl⟩
    have hm' : m a' w' = Classical.choose (exists_least _ hex') := by simp [m, hex']
    have := (Classical.choose_spec (exists_least _ hex')).2 (μ y) ⟨y, hy, rfl⟩
    rw [hm', hm, ← hμ]
    omega
  | _ => exact hq

theorem cslot_rel {g : Gh} {σ : St} {a : Act} {w : World} {x : Opd} {b : Bool} (h : Rel P c g σ a w) (hx : x.ev σ.env = .bool b) : cslot x b σ = σ := by
  cases x with
  | t s => simp only [cslot, put_same (get_bool hx)]
  | _ => rfl

theorem MC.sound : ∀ (mc : MC) {code : Code} {Q : Exit → Act → World → Prop} {K : St → Prop} {X : Nat → St → Prop} {R : St → Prop} {g : Gh} {σ : St} {a : Act} {w : World}, mc.ok P c.nt code = true → Rel P c g σ a w → MWP P c.H0 mc K X R σ →
    (∀ σ g a w, K σ → Rel P c g σ a w → Q .normal a w) → (∀ i σ g a w, X i σ → Rel P c g σ a w → Q (.exit i) a w) → (∀ σ g a w, R σ → Rel P c g σ a w → Q .ret a w) → code.wp P Q a w
  | .skip, code, Q, K, X, R, g, σ, a, w, hok, hR, h, hK, hX, hT => by
    cases code <;> try (simp [MC.ok] at hok; done)
    exact wp_skip (hK σ g a w h hR)
  | .ret, code, Q, K, X, R, g, σ, a, w, hok, hR, h, hK, hX, hT => by
    cases code <;> try (simp [MC.ok] at hok; done)
    exact wp_ret (hT σ g a w h hR)
  | .exit i, code, Q, K, X, R, g, σ, a, w, hok, hR, h, hK, hX, hT => by
    cases code <;> try (simp [MC.ok] at hok; done)
    have e := Nat.eq_of_beq_eq_true hok; subst e
    exact wp_exit (hX i σ g a w h hR)
  | .reg ms, code, Q, K, X, R, g, σ, a, w, hok, hR, h, hK, hX, hT => by
    cases code <;> try (simp [MC.ok] at hok; done)
    simp only [MC.ok, Bool.and_eq_true, Bool.not_eq_true'] at hok
    obtain ⟨h1, h2⟩ := hok
    subst h1
    exact region_sound hK h2 hR h
  | .regI ms, code, Q, K, X, R, g, σ, a, w, hok, hR, h, hK, hX, hT => by
    cases code <;> try (simp [MC.ok] at hok; done)
    simp only [MC.ok, Bool.and_eq_true, Bool.not_eq_true'] at hok
    obtain ⟨h1, h2⟩ := hok
    subst h1
    exact regionI_sound hK h2 hR h
  | .regD ms aft anc, code, Q, K, X, R, g, σ, a, w, hok, hR, h, hK, hX, hT => by
    cases code <;> try (simp [MC.ok] at hok; done)
    simp only [MC.ok, Bool.and_eq_true] at hok
    obtain ⟨⟨⟨⟨h1, h2⟩, h3⟩, h4⟩, h5⟩ := hok
    subst h1
    exact regionD_sound h2 hK h3 h4 h5 hR h
  | .seq x y, code, Q, K, X, R, g, σ, a, w, hok, hR, h, hK, hX, hT => by
    cases code <;> try (simp [MC.ok] at hok; done)
    simp only [MC.ok, Bool.and_eq_true] at hok
    refine wp_seq (MC.sound x hok.1 hR h (fun σ g a w hk hr => ?_) hX hT)
    exact MC.sound y hok.2 hr hk hK hX hT
  | .cut x y, code, Q, K, X, R, g, σ, a, w, hok, hR, h, hK, hX, hT => by
    cases code <;> try (simp [MC.ok] at hok; done)
    simp only [MC.ok, Bool.and_eq_true] at hok
    obtain ⟨α, I, p, h1, h2⟩ := Lk.out h
    refine wp_seq (MC.sound x hok.1 hR h1 (fun σ g a w hk hr => ?_) hX hT)
    obtain ⟨z, hz, hs⟩ := Lk.out hk
    have hr' := hr.subSt hs
    exact MC.sound y hok.2 hr' (h2 z hz (hr'.factsSt hs.1)) hK hX hT
  | .cond x t e, code, Q, K, X, R, g, σ, a, w, hok, hR, h, hK, hX, hT => by
    cases code <;> try (simp [MC.ok] at hok; done)
    simp only [MC.ok, Bool.and_eq_true] at hok
    simp only [MWP] at h
    split at h
    case h_2 => exact h.elim
    rename_i b hb
    have hv := Opd.vr hR hok.1.1
    rw [hb] at hv
    obtain ⟨h1, h2⟩ := h
    cases b with
    | true =>
      have h1 := h1 rfl
      rw [cslot_rel hR hb] at h1
      exact wp_cond_true hv.bool_inv (MC.sound t hok.1.2 hR h1 hK hX hT)
    | false =>
      have h2 := h2 rfl
      rw [cslot_rel hR hb] at h2
      exact wp_cond_false hv.bool_inv (MC.sound e hok.2 hR h2 hK hX hT)
  | .block i b, code, Q, K, X, R, g, σ, a, w, hok, hR, h, hK, hX, hT => by
    cases code <;> try (simp [MC.ok] at hok; done)
    simp only [MC.ok, Bool.and_eq_true] at hok
    have e := Nat.eq_of_beq_eq_true hok.1; subst e
    refine wp_block (MC.sound b hok.2 hR h hK (fun j σ g a w hx hr => ?_) hT)
    simp only [Exit.inBlock]
    cases hb : Nat.beq j i with
    | true =>
      have e := Nat.eq_of_beq_eq_true hb; subst e
      rw [hb] at hx
      simp only [if_true]
      exact hK σ g a w hx hr
    | false =>
      rw [hb] at hx
      have : j ≠ i := fun e => by rw [e, Nat.beq_refl] at hb; cases hb
      simp only [this, if_false]
      exact hX j σ g a w hx hr
  | .loop b, code, Q, K, X, R, g, σ, a, w, hok, hR, h, hK, hX, hT => by
    cases code <;> try (simp [MC.ok] at hok; done)
    simp only [MC.ok] at hok
    obtain ⟨α, I, p, μ, ⟨x0, hp0, hs0⟩, round⟩ := Lk.out h
    refine wp_loop' (fun x a w => p x ∧ (I x).good = true ∧ ∃ g, Rel P c g (I x) a w) μ ⟨x0, hp0, hs0.1, g, hR.subSt hs0⟩ ?_
    rintro x a w ⟨hp, hg, g, hr⟩
    refine MC.sound b hok hr (round x hp (hr.factsSt hg)) (fun σ g a w hk hr => ?_) hX hT
    obtain ⟨y, hy, hlt, hs⟩ := Lk.out hk
    exact ⟨y, ⟨hy, hs.1, g, hr.subSt hs⟩, hlt⟩
  | .note n b, code, Q, K, X, R, g, σ, a, w, hok, hR, h, hK, hX, hT => by
    have hok' : b.ok P c.nt code = true := by
      unfold MC.ok at hok; exact hok
    obtain ⟨g', σ', h', hR'⟩ := note_sound h hR
    exact MC.sound b hok' hR' h' hK hX hT
end
end Go.Ab
