/- The abstract layer, part 12: append, bytes to strings, calls; every instruction is sound. -/
import Derived.Test.YtgjicmoegmbipaaGreatAbSndG
set_option linter.all false
namespace Go.Ab
open Go.RowKit
section
variable {P : Program} {o : Oper} {c : Ctx} {g : Gh} {σ : St} {a : Act} {w : World} {ob : Nat → Option Obj'} {K L : Eff → Prop} {K' : Act → World → Prop} {Q' : Exit → Act → World → Prop}
theorem HRel.same {w' : World} {H : Heap} (h : HRel P g w H) (e : w'.heap = w.heap) : HRel P g w' H := by
 have hk : Keep g.S w w' := fun b _ => by rw [e]
 refine ⟨fun id o ho => (h.obj id o ho).mono (g' := g) hk (fun _ h => h) (Gh.agree.refl _ _) (fun _ => by rw [e]) fun n _ => Gh.agree.refl _ _, h.inj, h.sep, fun b hb => by rw [e]; exact h.lt b hb, fun w2 hw2 => h.tabs w2 fun b hb => (hw2 b hb).trans (hk b hb)⟩
theorem Rel.drew (h : Rel P c g σ a w) : Rel P c g σ a w.drew := by
 have hk : Keep g.S w w.drew := fun b _ => rfl
 refine ⟨h.size, h.dfr, fun s x hx => ⟨(h.env s x hx).1, (h.env s x hx).2.mono (g' := g) hk (fun _ h => h) fun _ _ => Gh.agree.refl _ _⟩, h.hp.same rfl, ?_⟩
 exact ⟨h.fr.os, h.fr.tape, h.fr.output, h.fr.size, h.fr.old, h.fr.own, h.fr.sup, h.fr.sub, h.fr.par⟩
theorem size_zc (z : Array Value) (n : Nat) : (Builtin.zeroCells z n).size = n * z.size := by simp [Builtin.zeroCells]
theorem Fin.mk' (hF : Fin o c g σ a w K L K') {eff : Eff} (hk : K eff) {g' : Gh} {v : Value} {w' : World} (hrun : (execOp a.eval o).run P w = .ok (.value v) w') (h1 : StepOK g σ.heap w eff g' w') (h2 : Fresh c.H0 g g' σ eff) (h3 : VR g' w' v eff.val) : o.wp P a w K' Q' := by
 unfold Oper.wp
 rw [hrun]
 exact hF eff (.inl hk) g' v w' h1 h2 h3
def Gh.setNil (g : Gh) (n : Nat) : Gh := { g with nil := fun i => i = n ∨ g.nil i }
theorem Gh.setNil_agree {g : Gh} {n i : Nat} (h : i ≠ n) : g.agree (g.setNil n) i := by simp [Gh.agree, Gh.setNil, h]
theorem StepOK.newNil {g : Gh} {H : Heap} {w : World} (x : V) (n k : Nat) (dr : List Nat) (ty : Option TypeId) (hH : HRel P g w H) : StepOK g H w ⟨x, dr, [(n, .arr k [] ty)]⟩ (g.setNil n) w := by
 refine ⟨rfl, rfl, rfl, Nat.le_refl _, fun _ _ _ => rfl, fun _ h => h, fun b hb => .inl hb, hH.lt, fun id hid => Gh.setNil_agree fun e => hid (.arr k [] ty) (by simp [e]), ?_, ?_, ?_, ?_⟩
 ·intro id o h; simp at h; obtain ⟨rfl, rfl⟩ := h; exact .inl ⟨.inl rfl, rfl⟩
 ·intro id o h hn; simp at h; obtain ⟨rfl, rfl⟩ := h; exact absurd (.inl rfl) hn
 ·intro i j o1 o2 hi hj hn; simp at hi; obtain ⟨rfl, rfl⟩ := hi; exact absurd (.inl rfl) hn
 ·intro id o h hn; simp at h; obtain ⟨rfl, rfl⟩ := h; exact absurd (.inl rfl) hn
theorem StepOK.allocDrop {g : Gh} {H : Heap} {w w' : World} (x : V) (n base cap : Nat) (o : Obj') (dr : List Nat) (B : Obj) (hlt : ∀ b, g.S b → b < w.heap.size) (h1 : w'.os = w.os) (h2 : w'.tape = w.tape) (h3 : w'.output = w.output) (h4 : w'.heap = w.heap.push B)
  (ho : OR (g.set n w.heap.size base cap) w' n o) : StepOK g H w ⟨x, dr, [(n, o)]⟩ (g.set n w.heap.size base cap) w' := by
 have hsz : w'.heap.size = w.heap.size + 1 := by rw [h4]; simp
 refine ⟨h1, h2, h3, by omega, fun b hb _ => ?_, fun _ h => h, fun b hb => .inl hb, fun b hb => by have := hlt b hb; omega, fun id hid => Gh.set_agree fun e => hid o (by simp [e]), ?_, ?_, ?_, ?_⟩
 ·rw [h4, Array.getElem?_push, if_neg (by omega)]
 ·intro id o' h; simp at h; obtain ⟨rfl, rfl⟩ := h; exact ho
 ·intro id o' h _; simp at h; obtain ⟨rfl, rfl⟩ := h; exact .inl (by simp [Gh.set])
 ·intro i j o1 o2 hi hj; simp at hi hj; intro _ _ _; rw [hi.1, hj.1]
 ·intro id o' h _ hS
  simp at h; obtain ⟨rfl, rfl⟩ := h
  have : (g.set id w.heap.size base cap).ρ id = w.heap.size := by simp [Gh.set]
  rw [this] at hS
  have := hlt _ hS
  omega
theorem StepOK.pass {g : Gh} {H : Heap} {w w' : World} (x : V) (n id0 base cap : Nat) (o o0 : Obj') (hH : HRel P g w H) (hf : find id0 H = some o0) (hn : ¬ g.nil id0) (h1 : w'.os = w.os) (h2 : w'.tape = w.tape) (h3 : w'.output = w.output) (h4 : w'.heap.size = w.heap.size)
  (h5 : ∀ b, b ≠ g.ρ id0 → w'.heap[b]? = w.heap[b]?) (ho : OR (g.set n (g.ρ id0) base cap) w' n o) : StepOK g H w ⟨x, [id0], [(n, o)]⟩ (g.set n (g.ρ id0) base cap) w' := by
 refine ⟨h1, h2, h3, by omega, fun b hb hb' => h5 b fun e => hb' id0 o0 (by simp [Eff.ids]) hf hn e.symm, fun _ h => h, fun b hb => .inl hb, fun b hb => by have := hH.lt b hb; omega, fun id hid => Gh.set_agree fun e => hid o (by simp [e]), ?_, ?_, ?_, ?_⟩
 ·intro id o' h; simp at h; obtain ⟨rfl, rfl⟩ := h; exact ho
 ·intro id o' h _; simp at h; obtain ⟨rfl, rfl⟩ := h; exact .inr ⟨id0, o0, by simp [Eff.ids], hf, hn, by simp [Gh.set]⟩
 ·intro i j o1 o2 hi hj; simp at hi hj; intro _ _ _; rw [hi.1, hj.1]
 ·intro id o' h _ hS
  simp at h; obtain ⟨rfl, rfl⟩ := h
  have : (g.set id (g.ρ id0) base cap).ρ id = g.ρ id0 := by simp [Gh.set]
  rw [this] at hS
  exact hH.sep id0 o0 hf hn hS
theorem app_cells {S : Nat → Prop} {w : World} {k n m : Nat} {xs ys : List V} {olds news : List Value} {cur : Array Value} {s : Nat} (hxl : xs.length = n) (hol : olds.length = n * k) (hxe : ∀ x ∈ xs, x.cells.length = k)
  (hx : ∀ (i j : Nat) (x y : V), xs[i]? = some x → x.cells[j]? = some y → Rd S w (olds.getD (i * k + j) undef) y) (hyl : ys.length = m) (hnl : news.length = m * k) (hye : ∀ x ∈ ys, x.cells.length = k)
  (hy : ∀ (i j : Nat) (x y : V), ys[i]? = some x → x.cells[j]? = some y → Rd S w (news.getD (i * k + j) undef) y) (hcur : ∀ j, j < (n + m) * k → cur[s + j]? = (olds ++ news)[j]?) :
  ∀ (i j : Nat) (x y : V), (xs ++ ys)[i]? = some x → x.cells[j]? = some y → Rd S w (cur.getD (s + (i * k + j)) undef) y := by
 intro i j x y hi hj
 have hjk : ∀ z : V, z.cells.length = k → z.cells[j]? = some y → j < k := fun z hz h => by rw [← hz]; exact (List.getElem?_eq_some_iff.1 h).1
 rw [List.getElem?_append] at hi
 by_cases hlt : i < xs.length
 ·rw [if_pos hlt] at hi
  have hj' := hjk x (hxe x (List.mem_of_getElem? hi)) hj
  have hb : (i + 1) * k ≤ n * k := Nat.mul_le_mul_right _ (by omega)
  rw [Nat.add_mul, Nat.one_mul] at hb
  have hb2 : n * k ≤ (n + m) * k := Nat.mul_le_mul_right _ (by omega)
  have := hcur (i * k + j) (by omega)
  rw [List.getElem?_append_left (by omega)] at this
  have e1 : cur.getD (s + (i * k + j)) undef = olds.getD (i * k + j) undef := by
   rw [Array.getD_eq_getD_getElem?, this, List.getD_eq_getElem?_getD]
  rw [e1]; exact hx i j x y hi hj
 ·rw [if_neg hlt] at hi
  have hj' := hjk x (hye x (List.mem_of_getElem? hi)) hj
  have hi2 : i - xs.length < ys.length := (List.getElem?_eq_some_iff.1 hi).1
  have hb : (i + 1) * k ≤ (n + m) * k := Nat.mul_le_mul_right _ (by omega)
  rw [Nat.add_mul i, Nat.one_mul] at hb
  have h3 : n * k ≤ i * k := Nat.mul_le_mul_right _ (by omega)
  have := hcur (i * k + j) (by omega)
  rw [List.getElem?_append_right (by omega), hol] at this
  have e2 : i * k + j - n * k = (i - xs.length) * k + j := by
   rw [Nat.sub_mul, hxl]; omega
  rw [e2] at this
  have e1 : cur.getD (s + (i * k + j)) undef = news.getD ((i - xs.length) * k + j) undef := by
   rw [Array.getD_eq_getD_getElem?, this, List.getD_eq_getElem?_getD]
  rw [e1]; exact hy _ j x y hi hj
theorem tyJ_l {a b : Option TypeId} {e : TypeId} {fz : Nat × Nat} (h : tyOK a e fz) : tyOK (tyJ a b) e fz := by
 cases a <;> cases b <;> simp only [tyJ] <;> try exact trivial
 rename_i a b
 cases Nat.beq a b
 ·exact trivial
 ·exact h
theorem tyJ_r {a b : Option TypeId} {e : TypeId} {fz : Nat × Nat} (h : tyOK b e fz) : tyOK (tyJ a b) e fz := by
 cases a <;> cases b <;> simp only [tyJ] <;> try exact trivial
 rename_i a b
 cases hb : Nat.beq a b
 ·exact trivial
 ·rw [Nat.eq_of_beq_eq_true hb]; exact h
def Gh.plus (g : Gh) (T : Nat → Prop) : Gh := { g with S := fun b => g.S b ∨ T b }
theorem StepOK.allocDropT {g : Gh} {H : Heap} {w w' : World} (T : Nat → Prop) (x : V) (n base cap : Nat) (o : Obj') (dr : List Nat) (B : Obj) (hlt : ∀ b, g.S b → b < w.heap.size) (h1 : w'.os = w.os) (h2 : w'.tape = w.tape) (h3 : w'.output = w.output) (h4 : w'.heap = w.heap.push B)
  (hT : ∀ b, T b → b < w.heap.size ∧ ∃ id0 o0, id0 ∈ dr ∧ find id0 H = some o0 ∧ ¬ g.nil id0 ∧ g.ρ id0 = b)
  (ho : OR ((g.plus T).set n w.heap.size base cap) w' n o) : StepOK g H w ⟨x, dr, [(n, o)]⟩ ((g.plus T).set n w.heap.size base cap) w' := by
 have hsz : w'.heap.size = w.heap.size + 1 := by rw [h4]; simp
 have hlt' : ∀ b, (g.plus T).S b → b < w.heap.size := fun b hb => hb.elim (hlt b) fun h => (hT b h).1
 refine ⟨h1, h2, h3, by omega, fun b hb _ => ?_, fun _ h => .inl h, fun b hb => ?_, fun b hb => by have := hlt' b hb; omega, fun id hid => Gh.set_agree (g := g.plus T) fun e => hid o (by simp [e]), ?_, ?_, ?_, ?_⟩
 ·rw [h4, Array.getElem?_push, if_neg (by omega)]
 ·rcases hb with hb | hb
  ·exact .inl hb
  ·obtain ⟨_, id0, o0, k1, k2, k3, k4⟩ := hT b hb
   exact .inr (.inr ⟨id0, o0, by simp [Eff.ids, k1], k2, k3, k4⟩)
 ·intro id o' h; simp at h; obtain ⟨rfl, rfl⟩ := h; exact ho
 ·intro id o' h _; simp at h; obtain ⟨rfl, rfl⟩ := h; exact .inl (by simp [Gh.set])
 ·intro i j o1 o2 hi hj; simp at hi hj; intro _ _ _; rw [hi.1, hj.1]
 ·intro id o' h _ hS
  simp at h; obtain ⟨rfl, rfl⟩ := h
  have : ((g.plus T).set id w.heap.size base cap).ρ id = w.heap.size := by simp [Gh.set]
  rw [this] at hS
  have := hlt' _ hS
  omega
def PinA (g g' : Gh) (w' : World) (id k : Nat) (xs : List V) (d : Nat) : Prop :=
 xs = [] ∨ ∃ (cur : Array Value) (e : TypeId) (fz : Nat × Nat), w'.heap[g.ρ id]? = some (.cells cur e fz) ∧ (∀ i x, xs[i]? = some x → (g.base id + i) * k + x.cells.length ≤ cur.size) ∧
  (∀ (i j : Nat) (x y : V), xs[i]? = some x → x.cells[j]? = some y → Rd g'.S w' (cur.getD ((g.base id + i) * k + j) undef) y) ∧ (g'.S (g.ρ id) ∨ (¬ g'.nil d ∧ g'.ρ d = g.ρ id))
def FinA (o : Oper) (c : Ctx) (g : Gh) (σ : St) (a : Act) (w : World) (K : Eff → Prop) (k d : Nat) (x : V) (ob : Nat → Option Obj') (K' : Act → World → Prop) : Prop :=
 ∀ eff, K eff → ∀ (g' : Gh) (v : Value) (w' : World), StepOK g σ.heap w eff g' w' → Fresh c.H0 g g' σ eff → VR g' w' v eff.val → (∀ id k' lo n k'' xs t0, x = .osl id k' lo n → ob id = some (.arr k'' xs t0) → PinA g g' w' id k xs d) → K' (a.put o.dst v) w'
theorem FinA.mk {k d : Nat} {x : V} (hF : FinA o c g σ a w K k d x ob K') {eff : Eff} (hk : K eff) {g' : Gh} {v : Value} {w' : World} (hrun : (execOp a.eval o).run P w = .ok (.value v) w') (h1 : StepOK g σ.heap w eff g' w') (h2 : Fresh c.H0 g g' σ eff) (h3 : VR g' w' v eff.val)
  (h4 : ∀ id k' lo n k'' xs t0, x = .osl id k' lo n → ob id = some (.arr k'' xs t0) → PinA g g' w' id k xs d) : o.wp P a w K' Q' := by
 unfold Oper.wp
 rw [hrun]
 exact hF eff hk g' v w' h1 h2 h3 h4
theorem PinA.of {g g' : Gh} {w w' : World} {id k d : Nat} {xs : List V} {cur cur' : Array Value} {e : TypeId} {fz : Nat × Nat} {bs : Nat} (hb : w'.heap[g.ρ id]? = some (.cells cur' e fz)) (hsz : cur'.size = cur.size) (h2 : cur.size = (g.base id + bs) * k) (h5 : xs.length ≤ bs)
  (h4 : ∀ (i j : Nat) (x c : V), xs[i]? = some x → x.cells[j]? = some c → Rd g.S w (cur.getD ((g.base id + i) * k + j) undef) c) (h7 : ∀ x ∈ xs, x.cells.length = k) (hk : Keep g.S w w') (hs : ∀ b, g.S b → g'.S b)
  (hsame : ∀ q, q < (g.base id + xs.length) * k → cur'[q]? = cur[q]?) (hr : g'.S (g.ρ id) ∨ (¬ g'.nil d ∧ g'.ρ d = g.ρ id)) : PinA g g' w' id k xs d := by
 have hfit : ∀ i x, xs[i]? = some x → (g.base id + i) * k + x.cells.length ≤ (g.base id + xs.length) * k := by
  intro i x hi
  have h8 := h7 x (List.mem_of_getElem? hi)
  have hlt := (List.getElem?_eq_some_iff.1 hi).1
  have : (g.base id + i + 1) * k ≤ (g.base id + xs.length) * k := Nat.mul_le_mul_right _ (by omega)
  rw [Nat.add_mul, Nat.one_mul] at this
  omega
 refine .inr ⟨cur', e, fz, hb, fun i x hi => ?_, fun i j x y hi hj => ?_, hr⟩
 ·have := hfit i x hi
  have : (g.base id + xs.length) * k ≤ (g.base id + bs) * k := Nat.mul_le_mul_right _ (by omega)
  omega
 ·have h8 := hfit i x hi
  have hjl := (List.getElem?_eq_some_iff.1 hj).1
  have := h4 i j x y hi hj
  rw [Array.getD_eq_getD_getElem?] at this ⊢
  rw [hsame _ (by omega)]
  exact this.mono hk hs
theorem s_appP {k bytes : Nat} {x y : Opd} {ty : Option TypeId} (hok : (MIns.app k bytes x y ty).ok P o.op = true) (hR : Rel P c g σ a w) (hob : ∀ id o, ob id = some o → find id σ.heap = some o) {d : Nat} (hcl : Clean c σ d) (h : stepV P (.app k bytes x y ty) d [x.ev σ.env, y.ev σ.env] ob K L) (hF : FinA o c g σ a w K k d (x.ev σ.env) ob K') : o.wp P a w K' Q' := by
 have : ∃ cl u v t t', o.op = .call cl ∧ cl.callee = .builtin .append ∧ cl.args = #[u, v] ∧ cl.argTypes = #[t, t'] ∧ x.ok u = true ∧ y.ok v = true ∧ sliceElem P t k bytes = true ∧ appType P t' = true ∧ appTy P t ty = true := by
  cases ho : o.op <;> rw [ho] at hok <;> try (simp [MIns.ok] at hok; done)
  rename_i cl
  obtain ⟨callee, args, ts⟩ := cl
  cases callee <;> try (simp [MIns.ok] at hok; done)
  rename_i b
  cases b <;> try (simp [MIns.ok] at hok; done)
  unfold MIns.ok at hok
  simp only at hok
  split at hok
  ·rename_i u v t t' he1 he2
   simp only [Bool.and_eq_true] at hok
   exact ⟨_, u, v, t, t', rfl, rfl, Array.toList_inj.1 (by simpa using he1), Array.toList_inj.1 (by simpa using he2), hok.1.1.1.1, hok.1.1.1.2, hok.1.1.2, hok.1.2, hok.2⟩
  ·cases hok
 obtain ⟨cl, u, v, t, t', ho, hcl', hargs, hts, hx, hy, hse, hat, hty⟩ := this
 obtain ⟨e, i, z, hu, hi, hz, hsz, hby, hkp, hbp, hzs⟩ := sliceElem_inv hse
 have hty : ∀ fz, tyOK ty e fz := by
  intro fz
  cases ty with
  | none => exact trivial
  | some u =>
   simp only [appTy, hu, Bool.and_eq_true, Bool.not_eq_true'] at hty
   simp only [tyOK, hty.2, cond_false]
   exact Nat.eq_of_beq_eq_true hty.1
 have hu' : AppT P t' := by
  unfold appType at hat
  split at hat
  ·exact .inr ⟨_, ‹_›⟩
  ·exact .inl ‹_›
  ·cases hat
 have vx := Opd.vr hR hx
 have vy := Opd.vr hR hy
 have hexec : ∀ {r : Value} {w' : World}, (Builtin.append_ #[t, t'] o.type #[a.eval u, a.eval v]).run P w = .ok r w' → (execOp a.eval o).run P w = .ok (.value r) w' := by
  intro r w' hr
  simp [execOp, ho, resolve, hcl', hargs, hts, invoke, builtin, hr]
 simp only [stepV, sApp] at h
 split at h
 ·rename_i ys hsrc
  obtain ⟨hvl, h⟩ := h
  have grow : ∀ (base : Option Addr) (n cap : Nat) (xs : List V) (olds : List Value) (dr : List Nat), a.eval u = .slice base n cap → xs.length = n → olds.length = n * k →
    (Builtin.firstCells k n (.slice base n cap)).run P w.drew = .ok olds.toArray w.drew → (∀ x ∈ xs, x.cells.length = k ∧ (∀ c ∈ x.cells, c.one = true) ∧ x.sealed = true) →
    (∀ (i j : Nat) (x y : V), xs[i]? = some x → x.cells[j]? = some y → Rd g.S w (olds.getD (i * k + j) undef) y) → (∀ y ∈ ys, y.cells.length = k) → cap < n + ys.length → (n + ys.length) * bytes ≤ 140737488355328 → n ≤ maxLen →
    n + ys.length ≤ 9223372036854775807 → ∀ tq, tyOK tq e (0, 0) → K ⟨.osl d k 0 (n + ys.length), dr, [(d, .arr k (xs ++ ys) tq)]⟩ → ∀ T : Nat → Prop, (∀ b, T b → b < w.heap.size ∧ ∃ id0 o0, id0 ∈ dr ∧ find id0 σ.heap = some o0 ∧ ¬ g.nil id0 ∧ g.ρ id0 = b) →
    (∀ (g' : Gh) (w' : World), (∀ b, g'.S b ↔ g.S b ∨ T b) → (∀ b, b < w.heap.size → w'.heap[b]? = w.heap[b]?) → ∀ id k' lo n k'' xs t0, x.ev σ.env = .osl id k' lo n → ob id = some (.arr k'' xs t0) → PinA g g' w' id k xs d) → o.wp P a w K' Q' := by
   intro base n cap xs olds dr eu hxl hol hof hxe hxr hye hlt hbd hnm h63 tq htq hk T hT hpin
   obtain ⟨news, hsr⟩ := app_src hR hob vy hsrc hvl hye
   obtain ⟨news2, hsr2⟩ := app_src (hR.drew) hob (vy.mono (g' := g) (w := w) (w' := w.drew) (fun b _ => rfl) (fun _ h => h) fun _ _ => Gh.agree.refl _ _) hsrc hvl hye
   have hrun := run_app_grow (P := P) (w := w) (t := t) (t' := t') (ty := o.type) hu hu' hi hz (base := base) (n := n) (cap := cap) (m := ys.length) (y := a.eval v) (olds := olds.toArray) (news := news2.toArray) hsr.lenOf (by rw [hsz]; exact hof) (by rw [hsz]; exact hsr2.first) hlt h63 (growslice_fits hlt (by rw [hby]; exact hbd))
   obtain ⟨gc, hgc⟩ : ∃ gc, gc = grownCap w (n + ys.length) cap e := ⟨_, rfl⟩
   rw [← hgc] at hrun
   have hge : n + ys.length ≤ gc := by rw [hgc]; exact grownCap_ge w _ cap e
   have hgm : gc ≤ maxLen := by rw [hgc]; exact grownCap_le_maxLen w _ cap e (by rw [maxLen]; omega)
   obtain ⟨cur, hcur⟩ : ∃ cur : Array Value, cur = olds.toArray ++ news2.toArray ++ Builtin.zeroCells z.cells (gc - (n + ys.length)) := ⟨_, rfl⟩
   rw [← hcur] at hrun
   have hcs : cur.size = gc * k := by
    rw [hcur]
    simp only [Array.size_append, List.size_toArray, size_zc, hzs, hol, hsr2.len]
    rw [← Nat.add_mul, ← Nat.add_mul]
    congr 1; omega
   have e1 : ((g.plus T).set d w.heap.size 0 gc).ρ d = w.heap.size := by simp [Gh.set]
   have e2 : ((g.plus T).set d w.heap.size 0 gc).base d = 0 := by simp [Gh.set]
   have e3 : ((g.plus T).set d w.heap.size 0 gc).cap d = gc := by simp [Gh.set]
   have e4 : ¬ ((g.plus T).set d w.heap.size 0 gc).nil d := by simp [Gh.set]
   have hkeep : Keep g.S w (w.drew.alloc (.cells cur e)) := Keep.push hR.hp.lt rfl
   rw [← eu] at hrun
   refine FinA.mk hF hk (hexec hrun) (StepOK.allocDropT T _ d 0 gc _ dr (.cells cur e) hR.hp.lt rfl rfl rfl rfl hT ?_) (Fresh.of_clean hcl) ?_ (hpin _ _ (fun b => Iff.rfl) fun b hb => ?_)
   ·refine .inr ⟨e4, ?_⟩
    rw [e1, e2, e3]
    refine ⟨hkp, ⟨cur, e, (0, 0), heap_alloc_new w.drew _, by rw [hcs, Nat.zero_add], ⟨unfrozen_zero _, htq⟩, fun i' j x' y' hi' hj' => ?_⟩, by simp [hxl]; omega, by omega, fun x' hx' => ?_⟩
    ·have := app_cells (S := g.S) (w := w) (cur := cur) (s := 0) (n := n) (m := ys.length) (k := k) (olds := olds) (news := news2) hxl hol (fun x hx => (hxe x hx).1) hxr rfl hsr2.len hye
      (fun i j x y hx hy => (hsr2.rd i j x y hx hy).mono (w := w.drew) (w' := w) (fun b _ => rfl) fun _ h => h) (fun j hj => by
       rw [hcur, Nat.zero_add, Array.getElem?_append_left (by simp [hol, hsr2.len, ← Nat.add_mul]; exact hj)]
       simp) i' j x' y' hi' hj'
     rw [Nat.zero_add] at this ⊢
     exact this.mono hkeep fun _ h => .inl h
    ·rcases List.mem_append.1 hx' with h8 | h8
     ·exact hxe x' h8
     ·exact hsr2.elem x' h8
   ·have := VR.osl (g := (g.plus T).set d w.heap.size 0 gc) (w := w.drew.alloc (.cells cur e)) d k 0 (n + ys.length) 0 gc e4 (.inr (by rw [e2]; simp)) (by rw [e3]; omega) (by omega) hgm
    rw [e1] at this
    exact this
   ·show (w.heap.push _)[b]? = _
    rw [Array.getElem?_push, if_neg (by omega)]
  split at h
  ·rename_i hxn
   rw [hxn] at vx
   obtain ⟨⟨hbd, hye⟩, hk⟩ := h
   have eu := vx.nils_inv
   obtain ⟨news, hsr⟩ := app_src hR hob vy hsrc hvl hye
   by_cases h0 : ys.length = 0
   ·have hnil : ys = [] := List.eq_nil_of_length_eq_zero h0
    subst hnil
    have hnn : news = [] := List.eq_nil_of_length_eq_zero (by have := hsr.len; simpa using this)
    subst hnn
    have hrun := run_app_none (P := P) (w := w) (t := t) (t' := t') (ty := o.type) hu hu' hi (y := a.eval v) hsr.lenOf (by rw [hsz]; exact hsr.first)
    rw [← eu] at hrun
    refine FinA.mk hF hk (hexec hrun) (StepOK.newNil _ d k [] _ hR.hp) (Fresh.of_clean hcl) ?_ (fun id1 k1 lo1 n1 k2 xs1 t1 e _ => by rw [hxn] at e; cases e)
    rw [eu]
    exact .oslnil d k 0 (.inl rfl)
   ·refine grow none 0 0 [] [] [] eu rfl (by simp) (by simp [Builtin.firstCells]) (fun x hx => by simp at hx) (fun i j x y hx _ => by simp at hx) hye (by omega) (by rw [Nat.zero_add]; exact hbd) (by omega) ?_ ty (hty _) ?_ (fun _ => False) (fun _ h => h.elim) (fun _ _ _ _ id1 k1 lo1 n1 k2 xs1 t1 e _ => by rw [hxn] at e; cases e)
    ·have := hsr.big; rw [maxLen] at this; omega
    ·rw [Nat.zero_add, List.nil_append]; exact hk
  ·rename_i id k' lo n hxo
   rw [hxo] at vx
   split at h
   ·rename_i k'' xs t0 hobj
    by_cases hb : (Nat.beq k k' && Nat.beq k k'') = true
    case neg => simp [hb] at h
    simp only [hb, cond_true] at h
    simp only [Bool.and_eq_true] at hb
    have q1 := Nat.eq_of_beq_eq_true hb.1; subst q1
    have q2 := Nat.eq_of_beq_eq_true hb.2; subst q2
    obtain ⟨⟨hlo, hbd, hye⟩, hk⟩ := h
    have hfd := hob _ _ hobj
    obtain ⟨news, hsr⟩ := app_src hR hob vy hsrc hvl hye
    have hdl : (xs.drop lo).length = n := by simp; omega
    rcases vx.osl_inv with ⟨hnil, eu, hn0⟩ | ⟨hnn, o', cc, eu, ho', hcap, hlc, hm⟩
    ·subst hn0
     have hx0 : xs = [] := by
      rcases hR.hp.obj _ _ hfd with ⟨_, h8⟩ | ⟨h8, _⟩
      ·exact h8
      ·exact absurd hnil h8
     subst hx0
     simp only [List.drop_nil, List.nil_append, Nat.zero_add] at hk
     by_cases h0 : ys.length = 0
     ·have hnl : ys = [] := List.eq_nil_of_length_eq_zero h0
      subst hnl
      have hnn : news = [] := List.eq_nil_of_length_eq_zero (by have := hsr.len; simpa using this)
      subst hnn
      have hrun := run_app_none (P := P) (w := w) (t := t) (t' := t') (ty := o.type) hu hu' hi (y := a.eval v) hsr.lenOf (by rw [hsz]; exact hsr.first)
      rw [← eu] at hrun
      refine FinA.mk hF hk (hexec hrun) (StepOK.newNil _ d k [id] _ hR.hp) (Fresh.of_clean hcl) ?_ (fun id1 k1 lo1 n1 k2 xs1 t1 e e' => by rw [hxo] at e; cases e; rw [hobj] at e'; cases e'; exact .inl rfl)
      rw [eu]
      exact .oslnil d k 0 (.inl rfl)
     ·refine grow none 0 0 [] [] [id] eu rfl (by simp) (by simp [Builtin.firstCells]) (fun x hx => by simp at hx) (fun i j x y hx _ => by simp at hx) hye (by omega) hbd (by omega) ?_ (tyJ t0 ty) (tyJ_r (hty _)) ?_ (fun _ => False) (fun _ h => h.elim) (fun _ _ _ _ id1 k1 lo1 n1 k2 xs1 t1 e e' => by rw [hxo] at e; cases e; rw [hobj] at e'; cases e'; exact .inl rfl)
      ·have := hsr.big; rw [maxLen] at this; omega
      ·rw [Nat.zero_add, List.nil_append]; exact hk
    ·rcases hR.hp.obj _ _ hfd with ⟨hnil, _⟩ | ⟨_, ha⟩
     ·exact absurd hnil hnn
     obtain ⟨_, ⟨cur, e', fz, h1, h2, ⟨h3, ht0⟩, h4⟩, h5, h6, h7⟩ := ha
     have hoo : n ≠ 0 ∨ 0 < cc → o' = (g.base id + lo) * k := by
      intro h8
      rcases ho' with h | h
      ·omega
      ·exact h
     by_cases hroom : n + ys.length ≤ cc
     · -- in place
      by_cases hcc : cc = 0
      · -- nothing there, nothing appended
       have hn0 : n = 0 := by omega
       have hy0 : ys.length = 0 := by omega
       have hnl : ys = [] := List.eq_nil_of_length_eq_zero hy0
       subst hnl; subst hn0; subst hcc
       have hnn' : news = [] := List.eq_nil_of_length_eq_zero (by have := hsr.len; simpa using this)
       subst hnn'
       have hrun := run_app_room (P := P) (w := w) (t := t) (t' := t') (ty := o.type) hu hu' hi (ad := ⟨g.ρ id, o', none⟩) (n := 0) (cap := 0) (m := 0) (y := a.eval v) (news := []) hsr.lenOf (by rw [hsz]; exact hsr.first) (Nat.le_refl _) (w' := w) rfl
       rw [← eu] at hrun
       have hlo' : lo = xs.length := by omega
       have hdn : xs.drop lo = [] := List.drop_eq_nil_of_le (by omega)
       rw [hdn, List.append_nil] at hk
       refine FinA.mk hF hk (hexec hrun) (StepOK.pass _ d id (g.base id + lo) (g.cap id - lo) _ _ hR.hp hfd hnn rfl rfl rfl rfl (fun _ _ => rfl) ?_) (Fresh.of_clean hcl) ?_ (fun id1 k1 lo1 n1 k2 xs1 t1 e e2 => by rw [hxo] at e; cases e; rw [hobj] at e2; cases e2; exact PinA.of h1 rfl h2 h5 h4 (fun x hx => (h7 x hx).1) (fun _ _ => rfl) (fun _ h => h) (fun _ _ => rfl) (.inr ⟨by simp [Gh.set], by simp [Gh.set]⟩))
       ·have e1 : (g.set d (g.ρ id) (g.base id + lo) (g.cap id - lo)).ρ d = g.ρ id := by simp [Gh.set]
        have e2 : (g.set d (g.ρ id) (g.base id + lo) (g.cap id - lo)).base d = g.base id + lo := by simp [Gh.set]
        have e3 : (g.set d (g.ρ id) (g.base id + lo) (g.cap id - lo)).cap d = g.cap id - lo := by simp [Gh.set]
        refine .inr ⟨by simp [Gh.set], ?_⟩
        rw [e1, e2, e3]
        exact ⟨hkp, ⟨cur, e', fz, h1, by rw [h2]; congr 1; omega, ⟨h3, tyJ_l ht0⟩, fun i' j x' y' hi' _ => by simp at hi'⟩, by simp, by omega, fun x' hx' => by simp at hx'⟩
       ·have e1 : (g.set d (g.ρ id) (g.base id + lo) (g.cap id - lo)).ρ d = g.ρ id := by simp [Gh.set]
        have := VR.osl (g := g.set d (g.ρ id) (g.base id + lo) (g.cap id - lo)) (w := w) d k 0 0 o' 0 (by simp [Gh.set]) (.inl rfl) (by simp) (Nat.le_refl _) (by simp)
        rw [e1] at this
        rw [eu]
        exact this
      ·have ho'' := hoo (.inr (by omega))
       have hfit : o' + n * k + 0 + news.length ≤ cur.size := by
        rw [ho'', hsr.len, Nat.add_zero, ← Nat.add_mul, ← Nat.add_mul, h2]
        exact Nat.mul_le_mul_right _ (by omega)
       obtain ⟨w', cur', r1, r2, r3, r4, r5, r6, r7, r8, r9⟩ := run_storeRow (P := P) (g.ρ id) (o' + n * k) e' fz news 0 cur w h1 h3 hfit hsr.one
       have hrun := run_app_room (P := P) (w := w) (t := t) (t' := t') (ty := o.type) hu hu' hi (ad := ⟨g.ρ id, o', none⟩) (n := n) (cap := cc) (m := ys.length) (y := a.eval v) (news := news) hsr.lenOf (by rw [hsz]; exact hsr.first) hroom (w' := w')
        (by rw [hsz, show (⟨g.ρ id, o', none⟩ : Addr).add (n * k) = ⟨g.ρ id, o' + n * k, none⟩ from Addr.add_lit _ _ _]; exact r1)
       rw [← eu] at hrun
       have hkeep : Keep g.S w w' := Keep.upd hR.hp hfd hnn r6
       have e1 : (g.set d (g.ρ id) (g.base id + lo) (g.cap id - lo)).ρ d = g.ρ id := by simp [Gh.set]
       have e2 : (g.set d (g.ρ id) (g.base id + lo) (g.cap id - lo)).base d = g.base id + lo := by simp [Gh.set]
       have e3 : (g.set d (g.ρ id) (g.base id + lo) (g.cap id - lo)).cap d = g.cap id - lo := by simp [Gh.set]
       refine FinA.mk hF hk (hexec hrun) (StepOK.pass _ d id (g.base id + lo) (g.cap id - lo) _ _ hR.hp hfd hnn r2 r3 r4 r5 r6 ?_) (Fresh.of_clean hcl) ?_ ?_
       ·refine .inr ⟨by simp [Gh.set], ?_⟩
        rw [e1, e2, e3]
        refine ⟨hkp, ⟨cur', e', fz, r7, by rw [r8, h2]; congr 1; omega, ⟨by rw [r8]; exact h3, tyJ_l ht0⟩, fun i' j x' y' hi' hj' => ?_⟩, by simp; omega, by omega, fun x' hx' => ?_⟩
        ·have hold : ((cur.toList.drop o').take (n * k)).length = n * k := by
          have : o' + n * k ≤ cur.size := by omega
          simp; omega
         have := app_cells (S := g.S) (w := w) (cur := cur') (s := o') (n := n) (m := ys.length) (k := k) (xs := xs.drop lo) (olds := (cur.toList.drop o').take (n * k)) (news := news) hdl hold (fun x hx => (h7 x (List.mem_of_mem_drop hx)).1)
          (fun i j x y hx hy => by
           rw [List.getElem?_drop] at hx
           have hil : lo + i < xs.length := (List.getElem?_eq_some_iff.1 hx).1
           have hjk : j < k := by rw [← (h7 x (List.mem_of_getElem? hx)).1]; exact (List.getElem?_eq_some_iff.1 hy).1
           have hij : i * k + j < n * k := by
            have : (i + 1) * k ≤ n * k := Nat.mul_le_mul_right _ (by omega)
            rw [Nat.add_mul, Nat.one_mul] at this; omega
           have e5 := row_get (cur := cur) (o' := o') (n := n * k) (j := i * k + j) hij (by omega)
           rw [List.getD_eq_getElem?_getD, e5]
           have := h4 (lo + i) j x y hx hy
           rw [ho'', ← Nat.add_assoc, ← Nat.add_mul, Nat.add_assoc (g.base id)]
           exact this) rfl hsr.len hye hsr.rd (fun j hj => by
           rw [r9 (o' + j)]
           simp only [Nat.add_zero]
           by_cases hjn : j < n * k
           ·rw [if_neg (by omega), List.getElem?_append_left (by omega), row_get hjn (by omega)]
            have : o' + j < cur.size := by omega
            simp [Array.getD_eq_getD_getElem?, this]
           ·rw [Nat.add_mul] at hj
            rw [if_pos (by have := hsr.len; omega), List.getElem?_append_right (by omega), hold]
            congr 1; omega) i' j x' y' hi' hj'
         rw [ho'', ← Nat.add_assoc, ← Nat.add_mul] at this
         exact this.mono hkeep fun _ h => h
        ·rcases List.mem_append.1 hx' with h8 | h8
         ·exact h7 x' (List.mem_of_mem_drop h8)
         ·exact hsr.elem x' h8
       ·have := VR.osl (g := g.set d (g.ρ id) (g.base id + lo) (g.cap id - lo)) (w := w') d k 0 (n + ys.length) o' cc (by simp [Gh.set]) (.inr (by rw [e2]; simpa using ho'')) (by rw [e3]; omega) hroom hm
        rw [e1] at this
        exact this
       ·intro id1 k1 lo1 n1 k2 xs1 t1 e e2
        rw [hxo] at e; cases e; rw [hobj] at e2; cases e2
        refine PinA.of r7 r8 h2 h5 h4 (fun x hx => (h7 x hx).1) hkeep (fun _ h => h) (fun q hq => ?_) (.inr ⟨by simp [Gh.set], e1⟩)
        have e9 : (g.base id + xs.length) * k = o' + n * k := by rw [ho'', ← Nat.add_mul]; congr 1; omega
        rw [r9 q, if_neg (by omega)]
     ·have hfit : n = 0 ∨ o' + n * k ≤ cur.size := by
       by_cases hn0 : n = 0
       ·exact .inl hn0
       ·right
        rw [hoo (.inl hn0), ← Nat.add_mul, h2]
        exact Nat.mul_le_mul_right _ (by omega)
      obtain ⟨olds, hso⟩ := src_row (P := P) (S := g.S) (w := w.drew) (b := g.ρ id) (o' := o') (k := k) (len := n) (cap := cc) (cur := cur) (e := e') (fz := fz) (ys := xs.drop lo) h1 hdl hfit (fun i j x y hx hy => by
        rw [List.getElem?_drop] at hx
        have hil : lo + i < xs.length := (List.getElem?_eq_some_iff.1 hx).1
        have := h4 (lo + i) j x y hx hy
        rw [hoo (.inl (by omega)), ← Nat.add_mul, Nat.add_assoc (g.base id)]
        exact this.mono (w := w) (w' := w.drew) (fun b _ => rfl) fun _ h => h) (fun x hx => h7 x (List.mem_of_mem_drop hx)) (by omega)
      have hol := hso.len
      have hfi := hso.first
      rw [hdl] at hol hfi
      refine grow (some ⟨g.ρ id, o', none⟩) n cc (xs.drop lo) olds [id] eu hdl hol hfi (fun x hx => h7 x (List.mem_of_mem_drop hx)) (fun i j x y hx hy => (hso.rd i j x y hx hy).mono (w := w.drew) (w' := w) (fun b _ => rfl) fun _ h => h) hye (by omega) hbd (by omega) ?_ (tyJ t0 ty) (tyJ_r (hty _)) hk (fun b => b = g.ρ id) (fun b hb => by subst hb; exact ⟨(hR.hp.obj _ _ hfd).block hnn, id, _, by simp, hfd, hnn, rfl⟩) (fun g' w' hS hW id1 k1 lo1 n1 k2 xs1 t1 e e2 => by rw [hxo] at e; cases e; rw [hobj] at e2; cases e2; exact PinA.of ((hW _ ((hR.hp.obj _ _ hfd).block hnn)).trans h1) rfl h2 h5 h4 (fun x hx => (h7 x hx).1) (fun b hb => hW b (hR.hp.lt b hb)) (fun b hb => (hS b).2 (.inl hb)) (fun _ _ => rfl) (.inl ((hS _).2 (.inr rfl))))
      have h10 : n + ys.length ≤ (n + ys.length) * bytes := Nat.le_mul_of_pos_right _ hbp
      omega
   ·exact h.elim
  ·exact h.elim
 ·exact h.elim
theorem s_app {k bytes : Nat} {x y : Opd} {ty : Option TypeId} (hok : (MIns.app k bytes x y ty).ok P o.op = true) (hR : Rel P c g σ a w) (hob : ∀ id o, ob id = some o → find id σ.heap = some o) {d : Nat} (hcl : Clean c σ d) (h : stepV P (.app k bytes x y ty) d [x.ev σ.env, y.ev σ.env] ob K L) (hF : Fin o c g σ a w K L K') : o.wp P a w K' Q' :=
 s_appP hok hR hob hcl h fun eff hk g' v w' h1 h2 h3 _ => hF eff (.inl hk) g' v w' h1 h2 h3
end
end Go.Ab
