/- The abstract layer, part 17: every order of a drawing region does what the text's order does. -/
import Derived.Test.YtgjicmoegmbipaaGreatAbRegE
set_option linter.all false
set_option linter.unusedSimpArgs false
set_option linter.unusedVariables false
namespace Go.Ab
open Go.RowKit
theorem anc_closed {all : List (List Nat)} {aft : List (List Nat)} {E : Nat → Bool} (hok : ancOK all 0 aft all = true) (hE : ∀ k a, aft[k]? = some a → E k = true → ∀ x ∈ a, E x = true) :
  ∀ (k : Nat) (a b : List Nat), aft[k]? = some a → all[k]? = some b → (∀ x ∈ a, E x = true) → ∀ x ∈ b, x < 1000000 → E x = true := by
 intro k
 induction k using Nat.strongRecOn with
 | _ k ih =>
  intro a b ha hb hall x hx hxl
  obtain ⟨b', h1, h2, h3⟩ := ancOK_at hok ha
  rw [hb] at h1; cases h1
  rw [Nat.zero_add] at h2
  rcases ancRow_inv h3 x hx hxl with h | ⟨m, h4, h5⟩
  ·exact hall x h
  ·have hm := below_inv h2 m h4
   cases hbm : all[m]? with
   | none => rw [List.getD_eq_getElem?_getD, hbm] at h5; simp at h5
   | some bm =>
    rw [List.getD_eq_getElem?_getD, hbm] at h5
    have hmk : m < aft.length := Nat.lt_trans hm (List.getElem?_eq_some_iff.1 ha).1
    exact ih m hm aft[m] bm (List.getElem?_eq_getElem hmk) hbm (hE m _ (List.getElem?_eq_getElem hmk) (hall m h4)) x h5 hxl
def setE1 (E : Nat → Bool) (i : Nat) : Nat → Bool := fun k => bif Nat.beq k i then true else E k
theorem setE1_same {E : Nat → Bool} {i : Nat} : setE1 E i i = true := by simp [setE1]
theorem setE1_ne {E : Nat → Bool} {i k : Nat} (h : k ≠ i) : setE1 E i k = E k := by
 have : Nat.beq k i = false := by
  cases hb : Nat.beq k i with
  | true => exact absurd (Nat.eq_of_beq_eq_true hb) h
  | false => rfl
 simp [setE1, this]
theorem Rel.congr {P : Program} {c : Ctx} {g : Gh} {σ τ : St} {a : Act} {w : World} (h : Rel P c g σ a w) (he : ∀ s, find s τ.env = find s σ.env) (hh : ∀ s, find s τ.heap = find s σ.heap) : Rel P c g τ a w :=
 h.sub (fun s x hx => by rw [← he]; exact hx) fun s o ho => by rw [← hh]; exact ho
theorem mem_slots {n : Nat} : ∀ {l : List Opd}, Opd.t n ∈ l → n ∈ slotsOf l
 | .t m :: r, h => by
  rcases List.mem_cons.1 h with h | h
  ·cases h; exact List.mem_cons_self
  ·exact List.mem_cons_of_mem _ (mem_slots h)
 | .c _ :: r, h => by
  rcases List.mem_cons.1 h with h | h
  ·cases h
  ·exact mem_slots (l := r) h
 | .f _ :: r, h => by
  rcases List.mem_cons.1 h with h | h
  ·cases h
  ·exact mem_slots (l := r) h
theorem ev_congr {env env' : List (Nat × V)} : ∀ {l : List Opd}, (∀ n ∈ slotsOf l, find n env = find n env') → l.map (·.ev env) = l.map (·.ev env') := by
 intro l h
 refine List.map_congr_left fun x hx => ?_
 cases x with
 | t n => simp only [Opd.ev, get_find, h n (mem_slots hx)]
 | c v => rfl
 | f n => rfl
theorem mopsOK_at {P : Program} {nt : Nat} {ops : Array Oper} : ∀ {ms : List MOp} {os : List Oper} {k : Nat} {o : Oper}, mopsOK P nt ops ms os = true → os[k]? = some o → ∃ m, ms[k]? = some m ∧ m.ok P nt ops o = true
 | [], [], k, o, _, h => by simp at h
 | m :: r, o' :: s, 0, o, h, ho => by
  simp only [mopsOK, Bool.and_eq_true] at h
  simp at ho; subst ho
  exact ⟨m, rfl, h.1⟩
 | m :: r, o' :: s, k + 1, o, h, ho => by
  simp only [mopsOK, Bool.and_eq_true] at h
  obtain ⟨b, h1, h2⟩ := mopsOK_at h.2 (k := k) (by simpa using ho)
  exact ⟨b, by simpa using h1, h2⟩
 | [], _ :: _, _, _, h, _ => by cases h
 | _ :: _, [], _, _, h, _ => by cases h
theorem mopsOK_len {P : Program} {nt : Nat} {ops : Array Oper} : ∀ {ms : List MOp} {l : List Oper}, mopsOK P nt ops ms l = true → ms.length = l.length
 | [], [], _ => rfl
 | m :: r, o :: s, h => by
  simp only [mopsOK, Bool.and_eq_true] at h
  simp only [List.length_cons, mopsOK_len h.2]
 | [], _ :: _, h => by cases h
 | _ :: _, [], h => by cases h
section
variable {P : Program} {c : Ctx} {ops : Array Oper} {ms : List MOp} {es : List Ent} {aft anc : List (List Nat)} {σ0 : St} {Q : Exit → Act → World → Prop}
structure Part (aft : List (List Nat)) (E : Nat → Bool) (i : Nat) : Prop where
 down : ∀ k a, aft[k]? = some a → E k = true → ∀ x ∈ a, E x = true
 out : E i = false
 ready : ∀ a, aft[i]? = some a → ∀ x ∈ a, E x = true
structure LateAt (anc : List (List Nat)) (es : List Ent) (l k : Nat) (x y : Ent) : Prop where
 lt : l < k
 fst : es[l]? = some x
 snd : es[k]? = some y
 mark : ∃ a, anc[k]? = some a ∧ mem (1000000 + l) a = true
 ok : late (es.drop (l + 1)) x y = true
theorem part_apart {E : Nat → Bool} {i : Nat} {e : Ent} (hanc : ancOK anc 0 aft anc = true) (hchk : chkAll c.H0 σ0 0 anc es = true) (hl : aft.length = es.length) (hp : Part aft E i) (hi : es[i]? = some e)
  {k : Nat} {e' : Ent} (hk : es[k]? = some e') (hne : k ≠ i) (hE : E k ≠ decide (k < i)) : Apart0 e e' ∧ NoMen e' e.made ∧ ((∀ n, n ∈ e'.ids → n ∉ e.touch) ∨ LateAt anc es i k e e') := by
 have hil : i < aft.length := by rw [hl]; exact (List.getElem?_eq_some_iff.1 hi).1
 have hkl : k < aft.length := by rw [hl]; exact (List.getElem?_eq_some_iff.1 hk).1
 have hai := List.getElem?_eq_getElem hil
 have hak := List.getElem?_eq_getElem hkl
 obtain ⟨bi, hbi, _, _⟩ := ancOK_at hanc hai
 obtain ⟨bk, hbk, _, _⟩ := ancOK_at hanc hak
 by_cases hlt : k < i
 ·have hEk : E k = false := by
   cases h : E k with
   | false => rfl
   | true => rw [h] at hE; simp [hlt] at hE
  have hno : (Nat.blt (0 + k) 1000000 && mem (0 + k) bi) = false := by
   cases h : (Nat.blt (0 + k) 1000000 && mem (0 + k) bi) with
   | false => rfl
   | true =>
    rw [Bool.and_eq_true] at h
    have := anc_closed hanc hp.down i _ bi hai hbi (hp.ready _ hai) k (by simpa using mem_iff.1 h.2) (by have := blt_iff.1 h.1; omega)
    rw [hEk] at this; cases this
  have := chkAll_at hchk hlt hbi hk hi
  rw [hno] at this
  simp only [pairOK, Bool.false_or, Bool.and_eq_true, Bool.or_eq_true] at this
  refine ⟨?_, noMen_inv this.1, .inl ?_⟩
  ·rcases this.2.1 with h | h
   ·exact (apart_inv h).a0.symm
   ·exact (late_inv h.2).1.symm
  ·rcases this.2.1 with h | h
   ·exact (apart_inv h).it
   ·exact (late_inv h.2).2.1
 ·have hEk : E k = true := by
   cases h : E k with
   | true => rfl
   | false => rw [h] at hE; simp [hlt] at hE
  have hik : i < k := by omega
  have hno : (Nat.blt (0 + i) 1000000 && mem (0 + i) bk) = false := by
   cases h : (Nat.blt (0 + i) 1000000 && mem (0 + i) bk) with
   | false => rfl
   | true =>
    rw [Bool.and_eq_true] at h
    have := anc_closed hanc hp.down k _ bk hak hbk (hp.down k _ hak hEk) i (by simpa using mem_iff.1 h.2) (by have := blt_iff.1 h.1; omega)
    rw [hp.out] at this; cases this
  have := chkAll_at hchk hik hbk hi hk
  rw [hno] at this
  simp only [pairOK, Bool.false_or, Bool.and_eq_true, Bool.or_eq_true] at this
  refine ⟨?_, noMen_inv this.2.2, ?_⟩
  ·rcases this.2.1 with h | h
   ·exact (apart_inv h).a0
   ·exact (late_inv h.2).1
  ·rcases this.2.1 with h | h
   ·exact .inl (apart_inv h).ti
   ·exact .inr ⟨hik, hi, hk, ⟨bk, hbk, by rw [← h.1, Nat.zero_add]⟩, h.2⟩
theorem part_nomen {E : Nat → Bool} {i : Nat} {e : Ent} (hanc : ancOK anc 0 aft anc = true) (hchk : chkAll c.H0 σ0 0 anc es = true) (hl : aft.length = es.length) (hp : Part aft E i) (hi : es[i]? = some e)
  {k : Nat} {e' : Ent} (hk : es[k]? = some e') (hE : E k = true) : NoMen e' e.made := by
 have hne : k ≠ i := fun h => by rw [h, hp.out] at hE; cases hE
 by_cases hlt : k < i
 ·have hil : i < aft.length := by rw [hl]; exact (List.getElem?_eq_some_iff.1 hi).1
  obtain ⟨bi, hbi, _, _⟩ := ancOK_at hanc (List.getElem?_eq_getElem hil)
  have := chkAll_at hchk hlt hbi hk hi
  simp only [pairOK, Bool.and_eq_true] at this
  exact noMen_inv this.1
 ·exact (part_apart hanc hchk hl hp hi hk hne (by rw [hE]; simp [hlt])).2.1
def PinW (H : Heap) (g : Gh) (w : World) (id k : Nat) (xs : List V) (d : Nat) : Prop :=
 xs = [] ∨ ∃ (cur : Array Value) (e : TypeId) (fz : Nat × Nat), w.heap[g.ρ id]? = some (.cells cur e fz) ∧ (∀ i x, xs[i]? = some x → (g.base id + i) * k + x.cells.length ≤ cur.size) ∧
  (∀ (i j : Nat) (x y : V), xs[i]? = some x → x.cells[j]? = some y → Rd g.S w (cur.getD ((g.base id + i) * k + j) undef) y) ∧ (g.S (g.ρ id) ∨ ((∃ o, find d H = some o) ∧ ¬ g.nil d ∧ g.ρ d = g.ρ id))
theorem PinW.congr {H H' : Heap} {g : Gh} {w : World} {id k d : Nat} {xs : List V} (h : PinW H g w id k xs d) (he : find d H' = find d H) : PinW H' g w id k xs d := by
 rcases h with h | ⟨cur, e, fz, h1, h2, h3, h4⟩
 ·exact .inl h
 ·exact .inr ⟨cur, e, fz, h1, h2, h3, h4.imp (fun h => h) fun h => ⟨by rw [he]; exact h.1, h.2⟩⟩
theorem PinW.step {H : Heap} {g g' : Gh} {w w' : World} {id k d : Nat} {xs : List V} {f : Eff} (h : PinW H g w id k xs d) (hH : HRel P g w H) (hs : StepOK g H w f g' w') (hi : id ∉ f.ids) (hd : d ∉ f.ids) : PinW (f.heap H) g' w' id k xs d := by
 have hkeep : Keep g.S w w' := fun b hb => hs.keep b (hH.lt b hb) fun id o _ ho hn he => hH.sep id o ho hn (he ▸ hb)
 have nn : ∀ {n}, n ∉ f.ids → ∀ o, (n, o) ∉ f.new := fun hn o ho => hn (by simp only [Eff.ids, List.mem_append, List.mem_map]; exact .inr ⟨_, ho, rfl⟩)
 rcases h with h | ⟨cur, e, fz, h1, h2, h3, h4⟩
 ·exact .inl h
 ·obtain ⟨a1, a2, a3, a4⟩ := hs.agree id (nn hi)
  obtain ⟨b1, b2, b3, b4⟩ := hs.agree d (nn hd)
  refine .inr ⟨cur, e, fz, ?_, fun i x hx => by rw [a2]; exact h2 i x hx, fun i j x y hx hy => by rw [a2]; exact (h3 i j x y hx hy).mono hkeep hs.sup, ?_⟩
  ·rw [a1]
   rcases h4 with h4 | ⟨⟨o, h5⟩, h6, h7⟩
   ·exact (hkeep _ h4).trans h1
   ·refine (hs.keep _ (Array.getElem?_eq_some_iff.1 h1).1 fun id0 o0 hid0 ho0 hn0 he => ?_).trans h1
    exact hd (hH.inj id0 d o0 o ho0 h5 hn0 h6 (by rw [he, h7]) ▸ hid0)
  ·rw [a1, b1]
   rcases h4 with h4 | ⟨h5, h6, h7⟩
   ·exact .inl (hs.sup _ h4)
   ·exact .inr ⟨by rw [Eff.find_other hd]; exact h5, fun h => h6 (b4.1 h), h7⟩
theorem PinA.w {g g' : Gh} {w' : World} {H : Heap} {id k d : Nat} {xs : List V} (h : PinA g g' w' id k xs d) (ha : g.agree g' id) (hd : ∃ o, find d H = some o) : PinW H g' w' id k xs d := by
 obtain ⟨a1, a2, a3, a4⟩ := ha
 rcases h with h | ⟨cur, e, fz, h1, h2, h3, h4⟩
 ·exact .inl h
 ·refine .inr ⟨cur, e, fz, by rw [a1]; exact h1, by rw [a2]; exact h2, by rw [a2]; exact h3, ?_⟩
  rw [a1]
  exact h4.imp (fun h => h) fun h => ⟨hd, h⟩
theorem s_ldP {o : Oper} {g : Gh} {σ : St} {a : Act} {w : World} {K L : Eff → Prop} {K' : Act → World → Prop} {Q' : Exit → Act → World → Prop} {n : Option Nat} {x : Opd} (hok : (MIns.ld n x).ok P o.op = true) (hR : Rel P c g σ a w) {H : Heap} {id k i off d : Nat} {xs : List V} {q : V} (hx : x.ev σ.env = .optr id k i off)
  (hp : PinW H g w id k xs d) (hq : xs[i]? = some q) (h : part n off q.cells (fun r => K (evl r))) (hF : Fin o c g σ a w K L K') : o.wp P a w K' Q' := by
 have : ∃ t y, o.op = .load t y ∧ x.ok y = true ∧ aggN P t = some n := by
  cases ho : o.op <;> rw [ho] at hok <;> try (simp [MIns.ok] at hok; done)
  simp [MIns.ok] at hok
  exact ⟨_, _, rfl, hok.1, hok.2⟩
 obtain ⟨t, y, ho, hx', ht⟩ := this
 have vx := Opd.vr hR hx'
 rw [hx] at vx
 rcases hp with hp | ⟨cur, e, fz, h1, h2, h3, h4⟩
 ·rw [hp] at hq; simp at hq
 ·obtain ⟨v, x'', hrun, hk, hv'⟩ := run_loadVar_part (P := P) (g := g) (w := w) ht (o' := (g.base id + i) * k) (off := off) h1 (cs := q.cells) (h2 i q hq) (fun j y hj => .rd (h3 i j q y hq hj)) h
  exact fin_val hR hF (by simp [execOp, ho, Instr.loadAt, vx.optr_inv, Instr.sureAddr, hrun]) (.inl hk) hv'
def PinInv (anc : List (List Nat)) (es : List Ent) (σ0 : St) (E : Nat → Bool) (g : Gh) (w : World) : Prop :=
 ∀ l k x y, LateAt anc es l k x y → E l = false → E k = true → ∀ v id d o, y.eff = some ⟨v, [id], [(d, o)]⟩ → ∀ kk xs t, find id (fold (fun j => decide (j < k)) 0 es σ0).heap = some (.arr kk xs t) → PinW (fold E 0 es σ0).heap g w id kk xs d
theorem app_at {k bytes d : Nat} {ty : Option TypeId} {x y : V} {ob : Nat → Option Obj'} {v : V} {id d' : Nat} {o : Obj'} (h : sApp k bytes d ty x y ob (fun u => u = ⟨v, [id], [(d', o)]⟩)) :
  d' = d ∧ ∃ lo n xs t0, x = .osl id k lo n ∧ ob id = some (.arr k xs t0) := by
 unfold sApp at h
 split at h
 ·obtain ⟨_, h⟩ := h
  split at h
  ·obtain ⟨_, h⟩ := h; simp at h
  ·split at h
   ·rename_i id' k' lo n _ k'' xs t0 hob
    by_cases hb : (Nat.beq k k' && Nat.beq k k'') = true
    case neg => simp [hb] at h
    simp only [hb, cond_true] at h
    simp only [Bool.and_eq_true] at hb
    have q1 := Nat.eq_of_beq_eq_true hb.1; subst q1
    have q2 := Nat.eq_of_beq_eq_true hb.2; subst q2
    obtain ⟨_, h⟩ := h
    simp only [Eff.mk.injEq, List.cons.injEq, Prod.mk.injEq, and_true] at h
    obtain ⟨_, h1, h2, _⟩ := h
    subst h1; subst h2
    exact ⟨rfl, _, _, _, _, rfl, hob⟩
   ·exact h.elim
  ·exact h.elim
 ·exact h.elim
theorem step_any {E : Nat → Bool} {i : Nat} {o : Oper} {m : MOp} {e : Ent} {g : Gh} {a : Act} {w : World} {K' : Act → World → Prop} (hlate : lateOK ms ms anc = true) (hevs : Evs P c.H0 ms es σ0) (hms : ms[i]? = some m) (hanc : ancOK anc 0 aft anc = true) (hchk : chkAll c.H0 σ0 0 anc es = true) (hl : aft.length = es.length)
  (hp : Part aft E i) (ho : ops[i]? = some o) (hm : m.ok P c.nt ops o = true) (hi : es[i]? = some e) (hev : Ev P c.H0 m e (fold (fun j => decide (j < i)) 0 es σ0)) (hR : Rel P c g (fold E 0 es σ0) a w) (hP : PinInv anc es σ0 E g w)
  (hK : ∀ g' a' w', Rel P c g' (fold (setE1 E i) 0 es σ0) a' w' → PinInv anc es σ0 (setE1 E i) g' w' → K' a' w') : wpOp P ops Q i K' a w := by
 have hm' := hm
 simp only [MOp.ok, Bool.and_eq_true] at hm'
 obtain ⟨⟨hins, h2⟩, h3⟩ := hm'
 obtain ⟨hdd, hlt⟩ := dstOK_inv h2
 obtain ⟨hdst, hev⟩ := hev
 have apt : ∀ {k : Nat} {e' : Ent}, es[k]? = some e' → k ≠ i → E k ≠ decide (k < i) → Apart0 e e' := fun hk hne hE => (part_apart hanc hchk hl hp hi hk hne hE).1
 have henv : ∀ s ∈ e.uses, find s (fold E 0 es σ0).env = find s (fold (fun j => decide (j < i)) 0 es σ0).env := fun s hs => fold_env rfl fun k e' hk hne hd => by
  rw [Nat.zero_add] at hne
  by_cases hki : k = i
  ·subst hki; rw [hp.out] at hne; simp at hne
  ·exact (apt hk hki hne).ud s hd hs
 have hheap : ∀ n ∈ e.touch, find n (fold E 0 es σ0).heap = find n (fold (fun j => decide (j < i)) 0 es σ0).heap ∨ ∃ k e', n ∈ e'.ids ∧ E k = true ∧ LateAt anc es i k e e' := fun n hn => by
  by_cases hx : ∃ k e', n ∈ e'.ids ∧ E k = true ∧ LateAt anc es i k e e'
  ·exact .inr hx
  ·refine .inl (fold_heap rfl fun k e' hk hne hd => ?_)
   rw [Nat.zero_add] at hne
   by_cases hki : k = i
   ·subst hki; rw [hp.out] at hne; simp at hne
   ·rcases (part_apart hanc hchk hl hp hi hk hki hne).2.2 with h | h
    ·exact h n hd hn
    ·refine hx ⟨k, e', hd, ?_, h⟩
     have := h.lt
     cases hE : E k with
     | true => rfl
     | false => rw [hE] at hne; simp at hne; omega
 have later : ∀ k e', es[k]? = some e' → i < k → setE1 E i (0 + k) = true → Apart0 e e' := fun k e' hk hik hE => by
  rw [Nat.zero_add, setE1_ne (by omega)] at hE
  exact apt hk (by omega) (by rw [hE]; simp; omega)
 have hsameE : ∀ s, find s (fold (setE1 E i) 0 es σ0).env = find s (e.app (fold E 0 es σ0)).env := fun s => by
  by_cases hd : e.dst = some s
  ·rw [fold_env_last (τ := fold E 0 es σ0) hi (by rw [Nat.zero_add]; exact setE1_same) hd fun k e' hk hik hE => (later k e' hk hik hE).dd s hd]
  ·rw [app_env, if_neg hd]
   refine fold_env rfl fun k e' hk hne hd' => ?_
   rw [Nat.zero_add] at hne
   by_cases hki : k = i
   ·subst hki; rw [hi] at hk; cases hk; exact hd hd'
   ·rw [setE1_ne hki] at hne; exact hne rfl
 have hsameH : ∀ n, find n (fold (setE1 E i) 0 es σ0).heap = find n (e.app (fold E 0 es σ0)).heap := fun n => by
  by_cases hd : n ∈ e.ids
  ·rw [fold_heap_last (τ := fold E 0 es σ0) hi (by rw [Nat.zero_add]; exact setE1_same) hd fun k e' hk hik hE => (later k e' hk hik hE).ii n hd]
  ·rw [app_heap_out hd]
   refine fold_heap rfl fun k e' hk hne hd' => ?_
   rw [Nat.zero_add] at hne
   by_cases hki : k = i
   ·subst hki; rw [hi] at hk; cases hk; exact hd hd'
   ·rw [setE1_ne hki] at hne; exact hne rfl
 have one : ∀ {g' : Gh} {a' : Act} {w' : World}, Rel P c g' (e.app (fold E 0 es σ0)) a' w' → Rel P c g' (fold (setE1 E i) 0 es σ0) a' w' := fun hr => hr.congr hsameE hsameH
 have away : ∀ {l k : Nat} {x y : Ent}, LateAt anc es l k x y → k ≠ i → E l = false → l ≠ i → E k = true → ∀ v id d o, y.eff = some ⟨v, [id], [(d, o)]⟩ → id ∉ e.ids ∧ d ∉ e.ids := fun {l k x y} hla hki hEl hli hEk v id d o hy => by
  have hyid : id ∈ y.ids ∧ d ∈ y.ids := by simp [Ent.ids, hy, Eff.ids]
  by_cases hlt : i < k
  ·have h0 := apt hla.snd (by omega) (by rw [hEk]; simp; omega)
   exact ⟨fun h => h0.ii _ h hyid.1, fun h => h0.ii _ h hyid.2⟩
  ·obtain ⟨_, _, v', id', d', o', hy', _, hlone, _⟩ := late_inv hla.ok
   rw [hy] at hy'; cases hy'
   have hlk := hla.lt
   have hik : k < i := by omega
   have e1 : (es.drop (l + 1))[k - (l + 1)]? = some y := by rw [List.getElem?_drop, show l + 1 + (k - (l + 1)) = k from by omega]; exact hla.snd
   have e2 : (es.drop (l + 1))[i - (l + 1)]? = some e := by rw [List.getElem?_drop, show l + 1 + (i - (l + 1)) = i from by omega]; exact hi
   have no : ¬ (id ∈ e.ids ∨ d ∈ e.ids) := fun h => by
    have := loneN_one hlone e1 e2 (.inl hyid.1) h
    omega
   exact ⟨fun h => no (.inl h), fun h => no (.inr h)⟩
 have keepP : ∀ {f : Eff} {g' : Gh} {w' : World}, e.eff = some f → StepOK g (fold E 0 es σ0).heap w f g' w' → ∀ l k x y, LateAt anc es l k x y → k ≠ i → setE1 E i l = false → setE1 E i k = true → ∀ v id d o, y.eff = some ⟨v, [id], [(d, o)]⟩ → ∀ kk xs t, find id (fold (fun j => decide (j < k)) 0 es σ0).heap = some (.arr kk xs t) →
   PinW (fold (setE1 E i) 0 es σ0).heap g' w' id kk xs d := fun {f g' w'} hf hs l k x y hla hki hEl hEk v id d o hy kk xs t hfd => by
  have hli : l ≠ i := fun h => by subst h; rw [setE1_same] at hEl; cases hEl
  rw [setE1_ne hli] at hEl
  rw [setE1_ne hki] at hEk
  have ids : e.ids = f.ids := by simp [Ent.ids, hf]
  obtain ⟨h1, h2⟩ := away hla hki hEl hli hEk v id d o hy
  rw [ids] at h1 h2
  refine ((hP l k x y hla hEl hEk v id d o hy kk xs t hfd).step hR.hp hs h1 h2).congr ?_
  rw [hsameH]
  unfold Ent.app
  rw [hf]
  rfl
 have idle : e.eff = none → PinInv anc es σ0 (setE1 E i) g w := fun hn l k x y hla hEl hEk v id d o hy kk xs t hfd => by
  have hli : l ≠ i := fun h => by subst h; rw [setE1_same] at hEl; cases hEl
  have hki : k ≠ i := fun h => by
   subst h
   have := hla.snd
   rw [hi] at this; cases this
   rw [hn] at hy; cases hy
  rw [setE1_ne hli] at hEl
  rw [setE1_ne hki] at hEk
  refine (hP l k x y hla hEl hEk v id d o hy kk xs t hfd).congr ?_
  rw [hsameH, app_heap_out (by simp [Ent.ids, hn])]
 have ran : ∀ gs, Ran P c.H0 m e (fold (fun j => decide (j < i)) 0 es σ0) gs → o.wp P a w K' Q := by
  rintro gs ⟨f, k1, k2, k3, k4, k5⟩
  have hvals : m.ins.opds.map (·.ev (fold E 0 es σ0).env) = m.ins.opds.map (·.ev (fold (fun j => decide (j < i)) 0 es σ0).env) := ev_congr fun n hn => henv n (by rw [k3]; exact List.mem_append_right _ hn)
  have fin0 : ∀ {g' : Gh} {v : Value} {w' : World}, StepOK g (fold E 0 es σ0).heap w f g' w' → Fresh c.H0 g g' (fold E 0 es σ0) f → VR g' w' v f.val → PinInv anc es σ0 (setE1 E i) g' w' → K' (a.put o.dst v) w' := fun {g' v w'} hs hf hv hpin => by
   refine hK g' _ w' (one ?_) hpin
   have : e.app (fold E 0 es σ0) = (fold E 0 es σ0).app m.dst f := by unfold Ent.app; rw [k1, hdst]
   rw [this, ← hdd]
   exact hR.step hlt hs hf hv
  by_cases hsp : ∃ n k e', n ∈ e.touch ∧ n ∈ e'.ids ∧ E k = true ∧ LateAt anc es i k e e'
  · -- a load behind the append that consumes its row
   obtain ⟨n, k, y, hn, hny, hEk, hla⟩ := hsp
   obtain ⟨q, hq1, hq2⟩ := hla.mark
   have hkl : k < ms.length := by rw [← evs_len hevs]; exact (List.getElem?_eq_some_iff.1 hla.snd).1
   obtain ⟨happ, ml, hml, hld⟩ := lateOK_at (all := ms) (l := i) hlate hq1 (List.getElem?_eq_getElem hkl) hq2
   rw [hms] at hml; cases hml
   obtain ⟨_, _, v, id, d, ob', hy, hdt, hlone, _⟩ := late_inv hla.ok
   have hyids : y.ids = [id, d] := by simp [Ent.ids, hy, Eff.ids]
   have hnid : n = id := by
    rw [hyids] at hny
    rcases List.mem_cons.1 hny with h | h
    ·exact h
    ·exact absurd (by rw [List.mem_singleton.1 h] at hn; exact hn) hdt
   subst hnid
   have hevk := evs_at (i := 0) (k := k) hevs (List.getElem?_eq_getElem hkl) hla.snd
   rw [Nat.zero_add] at hevk
   obtain ⟨_, hevk⟩ := hevk
   have hrk : ∃ gs, Ran P c.H0 ms[k] y (fold (fun j => decide (j < k)) 0 es σ0) gs := by
    rcases hevk with ⟨_, hr⟩ | ⟨s, want, b, _, _, _, ⟨_, hr⟩ | ⟨_, hr⟩⟩ | ⟨s, want, _, _, _, hr⟩
    ·exact ⟨_, hr⟩
    ·exact ⟨_, hr⟩
    ·rw [hy] at hr; cases hr
    ·rw [hy] at hr; cases hr
   obtain ⟨gs', f', r1, r2, r3, r4, r5⟩ := hrk
   rw [hy] at r1; cases r1
   cases hik : ms[k].ins <;> rw [hik] at happ <;> try (cases happ; done)
   rename_i ka by' xa ya tya
   rw [hik] at r2
   obtain ⟨_, lo, nn, xs, t0, hxa, hob⟩ := app_at r2
   have hob' : find n (fold (fun j => decide (j < k)) 0 es σ0).heap = some (.arr ka xs t0) := hob
   cases hil : m.ins <;> rw [hil] at hld <;> try (cases hld; done)
   rename_i nl al
   rw [hil] at k2 k4 hins hvals
   have hf0 : f.ids = [] := by
    obtain ⟨r, hr1, hr2⟩ := sLd_at (K := fun r => evl r = f) (L := fun r => evl r = f) k2
    have : evl r = f := hr1.elim id id
    rw [← this]; rfl
   have heids : e.ids = [] := by simp [Ent.ids, k1, hf0]
   have hsame : find n (fold (fun j => decide (j < i)) 0 es σ0).heap = find n (fold (fun j => decide (j < k)) 0 es σ0).heap := fold_heap rfl fun q e' hqe hne hd => by
    rw [Nat.zero_add] at hne
    have hik' := hla.lt
    have hq1 : i ≤ q ∧ q < k := by
     by_cases h1 : q < i <;> by_cases h2 : q < k <;> simp [h1, h2] at hne <;> omega
    by_cases hqi : q = i
    ·subst hqi; rw [hi] at hqe; cases hqe; rw [heids] at hd; cases hd
    ·have e1 : (es.drop (i + 1))[k - (i + 1)]? = some y := by rw [List.getElem?_drop, show i + 1 + (k - (i + 1)) = k from by omega]; exact hla.snd
     have e2 : (es.drop (i + 1))[q - (i + 1)]? = some e' := by rw [List.getElem?_drop, show i + 1 + (q - (i + 1)) = q from by omega]; exact hqe
     have := loneN_one hlone e1 e2 (.inl (by rw [hyids]; exact List.mem_cons_self)) (.inl hd)
     omega
   have hobi : obOf (fold (fun j => decide (j < i)) 0 es σ0).heap n = some (.arr ka xs t0) := hsame.trans hob'
   have hvals' : al.ev (fold E 0 es σ0).env = al.ev (fold (fun j => decide (j < i)) 0 es σ0).env := by simpa [MIns.opds] using hvals
   rw [k4] at hn
   simp only [MIns.opds, List.map_cons, List.map_nil, MIns.touch] at hn k2
   have k2 : sLd nl (al.ev (fold (fun j => decide (j < i)) 0 es σ0).env) (obOf (fold (fun j => decide (j < i)) 0 es σ0).heap) (fun r => evl r = f) (fun r => evl r = f) := k2
   cases hal : al.ev (fold (fun j => decide (j < i)) 0 es σ0).env <;> rw [hal] at hn k2 <;> try (exact (List.not_mem_nil hn).elim)
   case ptr id0 off =>
    simp only [vid, List.mem_singleton] at hn; subst hn
    simp only [sLd, hobi] at k2
   case osl id0 _ _ _ => exact k2.elim
   case omap id0 => exact k2.elim
   case bptr id0 => exact k2.elim
   case optr id0 k0 i0 off =>
    simp only [vid, List.mem_singleton] at hn; subst hn
    simp only [sLd, hobi] at k2
    by_cases hkk : Nat.beq k0 ka = true
    case neg => simp [hkk] at k2
    simp only [hkk, cond_true] at k2
    have := Nat.eq_of_beq_eq_true hkk; subst this
    obtain ⟨q, hq, hpt⟩ := k2
    have pin := hP i k e y hla hp.out hEk v n d ob' hy k0 xs t0 hob'
    refine s_ldP hins hR (by rw [hvals']; exact hal) pin hq (K := fun u => u = f) (L := fun u => u = f) hpt fun eff he g' v' w' hs hf hv => ?_
    have he' : eff = f := he.elim id id
    subst he'
    refine fin0 hs hf hv fun l k' x' y' hla' hEl hEk' => ?_
    by_cases hki : k' = i
    ·exfalso
     subst hki
     have := hla'.snd
     rw [hi] at this; cases this
     obtain ⟨_, _, _, _, _, _, hy2, _, _⟩ := late_inv hla'.ok
     have : e.ids ≠ [] := by simp [Ent.ids, hy2, Eff.ids]
     exact this heids
    ·exact keepP k1 hs l k' x' y' hla' hki hEl hEk'
  ·have hheap : ∀ n ∈ e.touch, find n (fold E 0 es σ0).heap = find n (fold (fun j => decide (j < i)) 0 es σ0).heap := fun n hn => (hheap n hn).elim id fun ⟨k, e', h1, h2, h3⟩ => absurd ⟨n, k, e', hn, h1, h2, h3⟩ hsp
   rw [← hvals] at k2
   have k2' := stepV_ob (ob' := obOf (fold E 0 es σ0).heap) (fun id hid => (by
    have := hheap id (by rw [k4, ← hvals]; exact hid)
    unfold obOf; exact this.symm)) k2
   have hcl : ∀ n ∈ m.ins.creates m.d, Clean c (fold E 0 es σ0) n := fun n hn => by
    rw [← k5] at hn
    exact clean_fold (chkAll_clean hchk hi n hn) fun k e' hk hE f' hf' => by
     rw [Nat.zero_add] at hE
     exact part_nomen hanc hchk hl hp hi hk hE n hn f' hf'
   by_cases happ : m.ins.isApp = true
   · -- an append: its row can still be read
    cases hia : m.ins <;> rw [hia] at happ <;> try (cases happ; done)
    rename_i ka by' xa ya tya
    rw [hia] at hins k2' hcl k4 hvals
    refine s_appP (K := fun u => u = f) (L := fun u => u = f) (d := m.d) hins hR (fun id o h => h) (hcl m.d (by simp [MIns.creates])) k2' fun eff he g' v w' hs hf hv hpa => ?_
    have he' : eff = f := he
    subst he'
    refine fin0 hs hf hv fun l k x y hla hEl hEk v0 id d o0 hy kk xs t hfd => ?_
    by_cases hki : k = i
    ·subst hki
     have := hla.snd
     rw [hi] at this; cases this
     rw [hy] at k1; cases k1
     have k2'' : sApp ka by' m.d tya (xa.ev (fold E 0 es σ0).env) (ya.ev (fold E 0 es σ0).env) (obOf (fold E 0 es σ0).heap) (fun u => u = ⟨v0, [id], [(d, o0)]⟩) := k2'
     obtain ⟨hd, lo, n, xs', t0, hxa, hob⟩ := app_at k2''
     subst hd
     have hid : id ∈ e.touch := by
      rw [k4, ← hvals]
      simp [MIns.opds, MIns.touch, hxa, vid]
     have h8 := hheap id hid
     have h9 : find id (fold E 0 es σ0).heap = _ := hob
     rw [h8, hfd] at h9
     cases h9
     have h7 := hpa id ka lo n ka xs t hxa hob
     have hne : id ≠ m.d := by
      obtain ⟨_, _, _, _, _, _, hy2, _, _, hne⟩ := late_inv hla.ok
      rw [hy] at hy2; cases hy2; exact hne
     refine h7.w (hs.agree id fun o' ho' => ?_) ?_
     ·simp at ho'; exact hne ho'.1
     ·rw [hsameH]
      unfold Ent.app
      rw [hy]
      exact ⟨o0, by simp [St.app, Eff.heap, puts, find_put]⟩
    ·exact keepP k1 hs l k x y hla hki hEl hEk v0 id d o0 hy kk xs t hfd
   ·refine ins_sound m.ins (d := m.d) hins hR (fun id o h => h) hcl k2' fun eff he g' v w' hs hf hv => ?_
    have he' : eff = f := he.elim id id
    subst he'
    refine fin0 hs hf hv fun l k x y hla hEl hEk => ?_
    by_cases hki : k = i
    ·exfalso
     subst hki
     obtain ⟨q, hq1, hq2⟩ := hla.mark
     exact happ (lateOK_at (all := ms) (l := l) hlate hq1 hms hq2).1
    ·exact keepP k1 hs l k x y hla hki hEl hEk
 simp only [wpOp, ho]
 rcases hev with ⟨hg, hr⟩ | ⟨s, want, b, hg, hb, hsu, hr⟩ | ⟨s, want, hg, hb, hsu, hr⟩
 ·rw [hg] at h3
  simp only [guard_none h3, if_true]
  exact .inl (ran _ hr)
 ·rw [hg] at h3
  have hb' : get s (fold E 0 es σ0).env = .bool b := by rw [get_find, henv s hsu, ← get_find]; exact hb
  rw [guard_wanted h3 hR hb']
  rcases hr with ⟨rfl, hr⟩ | ⟨hbn, hr⟩
  ·have hw : beqB b b = true := by cases b <;> rfl
   simp only [hw, if_true]
   exact .inl (ran _ hr)
  ·have hw : beqB b want = false := by rw [hbn]; cases want <;> rfl
   simp only [hw, Bool.false_eq_true, if_false]
   refine hK g _ w (one ?_) (idle hr)
   have : e.app (fold E 0 es σ0) = ⟨delE m.dst (fold E 0 es σ0).env, (fold E 0 es σ0).heap⟩ := by unfold Ent.app; rw [hr, hdst]
   rw [this, ← hdd]
   exact hR.undef' hlt
 ·rw [hg] at h3
  have hb' : get s (fold E 0 es σ0).env = .tup [] := by rw [get_find, henv s hsu, ← get_find]; exact hb
  rw [guard_tup h3 hR hb']
  simp only [Bool.false_eq_true, if_false]
  refine hK g _ w (one ?_) (idle hr)
  have : e.app (fold E 0 es σ0) = ⟨delE m.dst (fold E 0 es σ0).env, (fold E 0 es σ0).heap⟩ := by unfold Ent.app; rw [hr, hdst]
  rw [this, ← hdd]
  exact hR.undef' hlt
theorem any_sound (hlate : lateOK ms ms anc = true) (hok : mopsOK P c.nt ops ms ops.toList = true) (haft : aftOK aft ops.toList = true) (hanc : ancOK anc 0 aft anc = true) (hchk : chkAll c.H0 σ0 0 anc es = true) (hevs : Evs P c.H0 ms es σ0)
  (hK : ∀ g a w, Rel P c g (foldA es σ0) a w → Q .normal a w) : ∀ (fuel : Nat) (E : Nat → Bool) (listed : Array Bool) (g : Gh) (a : Act) (w : World), listed.size = ops.size → (∀ i, i < ops.size → listed.getD i true = E i ∧ listed.getD i false = E i) →
   (∀ k a, aft[k]? = some a → E k = true → ∀ x ∈ a, E x = true) → ((List.range ops.size).filter fun i => !E i).length ≤ fuel → Rel P c g (fold E 0 es σ0) a w → PinInv anc es σ0 E g w → wpAny P .any ops Q fuel listed a w := by
 have hml : ms.length = ops.size := by rw [mopsOK_len hok, Array.length_toList]
 have hel : es.length = ops.size := by rw [evs_len hevs, hml]
 have hat : ∀ {i : Nat} {o : Oper}, ops[i]? = some o → ∃ b, aft[i]? = some b ∧ b = (o.after.toList.filter (Region.binds .any)).map (·.on) := fun ho => aftOK_at haft (by rw [Array.getElem?_toList]; exact ho)
 have hal : aft.length = ops.size := by
  have : ∀ {aft : List (List Nat)} {os : List Oper}, aftOK aft os = true → aft.length = os.length := by
   intro aft
   induction aft with
   | nil => intro os h; cases os with | nil => rfl | cons _ _ => cases h
   | cons a r ih =>
    intro os h
    cases os with
    | nil => cases h
    | cons o s => simp only [aftOK, Bool.and_eq_true] at h; simp only [List.length_cons, ih h.2]
  rw [this haft, Array.length_toList]
 have done : ∀ (E : Nat → Bool) (listed : Array Bool), (∀ i, i < ops.size → listed.getD i true = E i ∧ listed.getD i false = E i) → Region.ready .any ops listed = [] → ∀ i, i < ops.size → E i = true := by
  intro E listed hls hr i
  induction i using Nat.strongRecOn with
  | _ i ih =>
   intro hi
   cases hE : E i with
   | true => rfl
   | false =>
    exfalso
    have ho : ops[i]? = some ops[i] := Array.getElem?_eq_getElem hi
    have : i ∈ Region.ready .any ops listed := by
     rw [mem_ready]
     refine ⟨by rw [(hls i hi).1]; exact hE, ops[i], ho, fun ed hed hb => ?_⟩
     obtain ⟨b, hb1, hb2⟩ := hat ho
     obtain ⟨_, _, hbel, _⟩ := ancOK_at hanc hb1
     have hmem : ed.on ∈ b := by rw [hb2]; exact List.mem_map.2 ⟨ed, List.mem_filter.2 ⟨by simpa using hed, hb⟩, rfl⟩
     have hlt := below_inv hbel _ hmem
     rw [Nat.zero_add] at hlt
     rw [(hls ed.on (by omega)).2]
     exact ih ed.on hlt (by omega)
    rw [hr] at this; cases this
 have fin : ∀ (E : Nat → Bool) (listed : Array Bool) g a w, (∀ i, i < ops.size → listed.getD i true = E i ∧ listed.getD i false = E i) → Rel P c g (fold E 0 es σ0) a w → Region.ready .any ops listed = [] → Q .normal a w := fun E listed g a w hls hR hr => by
  have hall := done E listed hls hr
  rw [fold_all fun k hk => by rw [Nat.zero_add]; exact hall k (by omega)] at hR
  exact hK g a w hR
 intro fuel
 induction fuel with
 | zero =>
  intro E listed g a w hsz hls hdown hcard hR hP
  have hr : Region.ready .any ops listed = [] := by
   cases hrr : Region.ready .any ops listed with
   | nil => rfl
   | cons i r =>
    exfalso
    have hmem : i ∈ Region.ready .any ops listed := by rw [hrr]; exact List.mem_cons_self
    obtain ⟨h1, o, ho, _⟩ := mem_ready.1 hmem
    have hi := (Array.getElem?_eq_some_iff.1 ho).1
    rw [(hls i hi).1] at h1
    have : i ∈ (List.range ops.size).filter fun i => !E i := List.mem_filter.2 ⟨List.mem_range.2 hi, by simp [h1]⟩
    rw [List.eq_nil_of_length_eq_zero (Nat.le_zero.1 hcard)] at this
    cases this
  exact ⟨hr, fin E listed g a w hls hR hr⟩
 | succ fuel ih =>
  intro E listed g a w hsz hls hdown hcard hR hP
  refine ⟨fun hr => fin E listed g a w hls hR hr, fun i hmem => ?_⟩
  obtain ⟨h1, o, ho, hedges⟩ := mem_ready.1 hmem
  have hi := (Array.getElem?_eq_some_iff.1 ho).1
  rw [(hls i hi).1] at h1
  obtain ⟨m, hms, hmok⟩ := mopsOK_at hok (by rw [Array.getElem?_toList]; exact ho)
  have hie : es[i]? = some es[i] := List.getElem?_eq_getElem (by omega)
  obtain ⟨b, hb1, hb2⟩ := hat ho
  obtain ⟨_, _, hbel, _⟩ := ancOK_at hanc hb1
  have hbE : ∀ x ∈ b, E x = true := fun x hx => by
   have hlt := below_inv hbel _ hx
   rw [Nat.zero_add] at hlt
   rw [hb2] at hx
   obtain ⟨ed, hed, rfl⟩ := List.mem_map.1 hx
   obtain ⟨hed1, hed2⟩ := List.mem_filter.1 hed
   rw [← (hls ed.on (by omega)).2]
   exact hedges ed (by simpa using hed1) hed2
  have hp : Part aft E i := ⟨hdown, h1, fun a' ha' => by rw [hb1] at ha'; cases ha'; exact hbE⟩
  have hev := evs_at (i := 0) (k := i) hevs hms hie
  rw [Nat.zero_add] at hev
  refine step_any hlate hevs hms hanc hchk (by omega) hp ho hmok hie hev hR hP fun g' a' w' hR' hP' => ?_
  refine ih (setE1 E i) _ g' a' w' (by simpa using hsz) (fun k hk => ?_) (fun k a' ha' hE x hx => ?_) ?_ hR' hP'
  ·by_cases hki : k = i
   ·subst hki
    rw [setE1_same]
    have : k < listed.size := by omega
    simp [this]
   ·rw [setE1_ne hki, getD_set_ne true (Ne.symm hki), getD_set_ne false (Ne.symm hki)]
    exact hls k hk
  ·by_cases hki : k = i
   ·subst hki
    rw [hb1] at ha'; cases ha'
    have hne : x ≠ k := fun h => by have := hbE x hx; rw [h, h1] at this; cases this
    rw [setE1_ne hne]; exact hbE x hx
   ·rw [setE1_ne hki] at hE
    have := hdown k a' ha' hE x hx
    by_cases hxi : x = i
    ·rw [hxi]; exact setE1_same
    ·rw [setE1_ne hxi]; exact this
  ·have hlt : ((List.range ops.size).filter fun k => !setE1 E i k).length < ((List.range ops.size).filter fun k => !E k).length := by
    have hsub : ((List.range ops.size).filter fun k => !setE1 E i k) = (((List.range ops.size).filter fun k => !E k).filter fun k => !Nat.beq k i) := by
     rw [List.filter_filter]
     refine List.filter_congr fun k _ => ?_
     unfold setE1
     cases Nat.beq k i <;> cases E k <;> rfl
    rw [hsub]
    refine List.length_filter_lt_length_iff_exists.2 ⟨i, List.mem_filter.2 ⟨List.mem_range.2 hi, by simp [h1]⟩, by simp⟩
   omega
theorem regionD_ops {K : St → Prop} {g : Gh} {a : Act} {w : World} (hmix : P.follows .mixedOrders = true) (hK : ∀ σ' g' a' w', K σ' → Rel P c g' σ' a' w' → Q .normal a' w') (hok : mopsOK P c.nt ops ms ops.toList = true) (haft : aftOK aft ops.toList = true)
  (hanc : ancOK anc 0 aft anc = true) (hlate : lateOK ms ms anc = true) (hR : Rel P c g σ0 a w) (h : runD P c.H0 ms [] σ0 fun log σ' => chkAll c.H0 σ0 0 anc log.reverse = true ∧ K σ') (t : Nat) : wpOps P ops Q (Region.schedule (P.follows .mixedOrders) ops t) a { w with drawn := w.drawn + 1 } := by
 obtain ⟨es, hevs, hchk, hk⟩ := runD_evs h
 rw [List.append_nil, List.reverse_reverse] at hchk
 simp only [Region.schedule, hmix, Bool.true_or, if_true]
 refine wpAny_sound ops.size t _ a _ (any_sound hlate hok haft hanc hchk hevs (fun g a w hr => hK _ g a w hk hr) ops.size (fun _ => false) _ g a _ (by simp) (fun i hi => by simp [hi]) (fun _ _ _ h => by cases h) ?_ ?_ (fun _ _ _ _ _ _ h => by cases h))
 ·exact Nat.le_trans (List.length_filter_le _ _) (by simp)
 ·rw [fold_none (fun _ => rfl)]
  exact hR.drew
end
end Go.Ab
