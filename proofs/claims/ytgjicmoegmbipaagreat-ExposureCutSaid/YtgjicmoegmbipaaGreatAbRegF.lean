/- The abstract layer, part 17: every order of a drawing region does what the text's order does. -/
import Derived.Test.YtgjicmoegmbipaaGreatAbRegE
set_option linter.all false
set_option linter.unusedSimpArgs false
set_option linter.unusedVariables false
namespace Go.Ab
open Go.RowKit

theorem anc_lt {all : List (List Nat)} {aft : List (List Nat)} (hok : ancOK all 0 aft all = true) : ∀ (k : Nat) (a b : List Nat), aft[k]? = some a → all[k]? = some b → ∀ x ∈ b, x < k := by
  intro k
  induction k using Nat.strongRecOn with
  | _ k ih =>
    intro a b ha hb x hx
    obtain ⟨b', h1, h2, h3⟩ := ancOK_at hok ha
    rw [hb] at h1; cases h1
    rw [Nat.zero_add] at h2
    rcases ancRow_inv h3 x hx with h | ⟨m, h4, h5⟩
    · exact below_inv h2 x h
    · have hm := below_inv h2 m h4
      cases hbm : all[m]? with
      | none => rw [List.getD_eq_getElem?_getD, hbm] at h5; simp at h5
      | some bm =>
        rw [List.getD_eq_getElem?_getD, hbm] at h5
        have hmk : m < aft.length := Nat.lt_trans hm (List.getElem?_eq_some_iff.1 ha).1
        have := ih m hm aft[m] bm (List.getElem?_eq_getElem hmk) hbm x h5
        omega
theorem anc_closed {all : List (List Nat)} {aft : List (List Nat)} {E : Nat → Bool} (hok : ancOK all 0 aft all = true) (hE : ∀ k a, aft[k]? = some a → E k = true → ∀ x ∈ a, E x = true) :
    ∀ (k : Nat) (a b : List Nat), aft[k]? = some a → all[k]? = some b → (∀ x ∈ a, E x = true) → ∀ x ∈ b, E x = true := by
  intro k
  induction k using Nat.strongRecOn with
  | _ k ih =>
    intro a b ha hb hall x hx
    obtain ⟨b', h1, h2, h3⟩ := ancOK_at hok ha
    rw [hb] at h1; cases h1
    rw [Nat.zero_add] at h2
    rcases ancRow_inv h3 x hx with h | ⟨m, h4, h5⟩
    · exact hall x h
    · have hm := below_inv h2 m h4
      cases hbm : all[m]? with
      | none => rw [List.getD_eq_getElem?_getD, hbm] at h5; simp at h5
      | some bm =>
        rw [List.getD_eq_getElem?_getD, hbm] at h5
        have hmk : m < aft.length := Nat.lt_trans hm (List.getElem?_eq_some_iff.1 ha).1
        exact ih m hm aft[m] bm (List.getElem?_eq_getElem hmk) hbm (hE m _ (List.getElem?_eq_getElem hmk) (hall m h4)) x h5

def setE1 (E : Nat → Bool) (i : Nat) : Nat → Bool := fun k => bif Nat.beq k i then true else E k
theorem setE1_same {E : Nat → Bool} {i : Nat} : setE1 E i i = true := by simp [setE1]
theorem setE1_ne {E : Nat → Bool} {i k : Nat} (h : k ≠ i) : setE1 E i k = E k := by
  have : Nat.beq k i = false := by
    cases hb : Nat.beq k i with
    | true => exact absurd (Nat.eq_of_beq_eq_true hb) h
    | false => rfl
  simp [setE1, this]

theorem Rel.congr {P : Program} {c : Ctx} {g : Gh} {σ τ : St} {a : Act} {w : World} (h : Rel P c g σ a w) (he : ∀ s, find s τ.env = find s σ.env) (hh : ∀ s, find s τ.heap = find s σ.heap) : Rel P c g τ a w :=
  h.sub (fun s x hx => by rw [← he]; exact hx) fun s o ho => by rw [← hh]; exact ho

theorem mem_slots {n : Nat} : ∀ {l : List Opd}, Opd.t n ∈ l → n ∈ slotsOf l
  | .t m :: r, h => by
    rcases List.mem_cons.1 h with h | h
    · cases h; exact List.mem_cons_self
    · exact List.mem_cons_of_mem _ (mem_slots h)
  | .c _ :: r, h => by
    rcases List.mem_cons.1 h with h | h
    · cases h
    · exact mem_slots (l := r) h
  | .f _ :: r, h => by
    rcases List.mem_cons.1 h with h | h
    · cases h
    · exact mem_slots (l := r) h
theorem ev_congr {env env' : List (Nat × V)} : ∀ {l : List Opd}, (∀ n ∈ slotsOf l, find n env = find n env') → l.map (·.ev env) = l.map (·.ev env') := by
  intro l h
  refine List.map_congr_left fun x hx => ?_
  cases x with
  | t n => simp only [Opd.ev, get_find, h n (mem_slots hx)]
  | c v => rfl
  | f n => rfl

theorem mopsOK_at {P : Program} {nt : Nat} {ops : Array Oper} : ∀ {ms : List MOp} {os : List Oper} {k : Nat} {o : Oper}, mopsOK P nt ops ms os = true → os[k]? = some o → ∃ m, ms[k]? = some m ∧ m.ok P nt ops o = true
  | [], [], k, o, _, h => by simp at h
  | m :: r, o' :: s, 0, o, h, ho => by
    simp only [mopsOK, Bool.and_eq_true] at h
    simp at ho; subst ho
    exact ⟨m, rfl, h.1⟩
  | m :: r, o' :: s, k + 1, o, h, ho => by
    simp only [mopsOK, Bool.and_eq_true] at h
    obtain ⟨b, h1, h2⟩ := mopsOK_at h.2 (k := k) (by simpa using ho)
    exact ⟨b, by simpa using h1, h2⟩
  | [], _ :: _, _, _, h, _ => by cases h
  | _ :: _, [], _, _, h, _ => by cases h
theorem mopsOK_len {P : Program} {nt : Nat} {ops : Array Oper} : ∀ {ms : List MOp} {l : List Oper}, mopsOK P nt ops ms l = true → ms.length = l.length
  | [], [], _ => rfl
  | m :: r, o :: s, h => by
    simp only [mopsOK, Bool.and_eq_true] at h
    simp only [List.length_cons, mopsOK_len h.2]
  | [], _ :: _, h => by cases h
  | _ :: _, [], h => by cases h

section
variable {P : Program} {c : Ctx} {ops : Array Oper} {ms : List MOp} {es : List Ent} {aft anc : List (List Nat)} {σ0 : St} {Q : Exit → Act → World → Prop}

/-- what is the same whichever part E has run -/
structure Part (aft : List (List Nat)) (E : Nat → Bool) (i : Nat) : Prop where
  down : ∀ k a, aft[k]? = some a → E k = true → ∀ x ∈ a, E x = true
  out : E i = false
  ready : ∀ a, aft[i]? = some a → ∀ x ∈ a, E x = true

theorem part_apart {E : Nat → Bool} {i : Nat} {e : Ent} (hanc : ancOK anc 0 aft anc = true) (hchk : chkAll c.H0 σ0 0 anc es = true) (hl : aft.length = es.length) (hp : Part aft E i) (hi : es[i]? = some e)
    {k : Nat} {e' : Ent} (hk : es[k]? = some e') (hne : k ≠ i) (hE : E k ≠ decide (k < i)) : Apart e e' ∧ NoMen e' e.made := by
  have hil : i < aft.length := by rw [hl]; exact (List.getElem?_eq_some_iff.1 hi).1
  have hkl : k < aft.length := by rw [hl]; exact (List.getElem?_eq_some_iff.1 hk).1
  have hai := List.getElem?_eq_getElem hil
  have hak := List.getElem?_eq_getElem hkl
  obtain ⟨bi, hbi, _, _⟩ := ancOK_at hanc hai
  obtain ⟨bk, hbk, _, _⟩ := ancOK_at hanc hak
  by_cases hlt : k < i
  · have hEk : E k = false := by
      cases h : E k with
      | false => rfl
      | true => rw [h] at hE; simp [hlt] at hE
    have hno : mem (0 + k) bi = false := by
      cases h : mem (0 + k) bi with
      | false => rfl
      | true =>
        have := anc_closed hanc hp.down i _ bi hai hbi (hp.ready _ hai) k (by simpa using mem_iff.1 h)
        rw [hEk] at this; cases this
    have := chkAll_at hchk hlt hbi hk hi
    rw [hno] at this
    simp only [pairOK, Bool.false_or, Bool.and_eq_true] at this
    exact ⟨(apart_inv this.2.1).symm, noMen_inv this.1⟩
  · have hEk : E k = true := by
      cases h : E k with
      | true => rfl
      | false => rw [h] at hE; simp [hlt] at hE
    have hik : i < k := by omega
    have hno : mem (0 + i) bk = false := by
      cases h : mem (0 + i) bk with
      | false => rfl
      | true =>
        have := anc_closed hanc hp.down k _ bk hak hbk (hp.down k _ hak hEk) i (by simpa using mem_iff.1 h)
        rw [hp.out] at this; cases this
    have := chkAll_at hchk hik hbk hi hk
    rw [hno] at this
    simp only [pairOK, Bool.false_or, Bool.and_eq_true] at this
    exact ⟨apart_inv this.2.1, noMen_inv this.2.2⟩

theorem part_nomen {E : Nat → Bool} {i : Nat} {e : Ent} (hanc : ancOK anc 0 aft anc = true) (hchk : chkAll c.H0 σ0 0 anc es = true) (hl : aft.length = es.length) (hp : Part aft E i) (hi : es[i]? = some e)
    {k : Nat} {e' : Ent} (hk : es[k]? = some e') (hE : E k = true) : NoMen e' e.made := by
  have hne : k ≠ i := fun h => by rw [h, hp.out] at hE; cases hE
  by_cases hlt : k < i
  · have hil : i < aft.length := by rw [hl]; exact (List.getElem?_eq_some_iff.1 hi).1
    obtain ⟨bi, hbi, _, _⟩ := ancOK_at hanc (List.getElem?_eq_getElem hil)
    have := chkAll_at hchk hlt hbi hk hi
    simp only [pairOK, Bool.and_eq_true] at this
    exact noMen_inv this.1
  · exact (part_apart hanc hchk hl hp hi hk hne (by rw [hE]; simp [hlt])).2

theorem step_any {E : Nat → Bool} {i : Nat} {o : Oper} {m : MOp} {e : Ent} {g : Gh} {a : Act} {w : World} {K' : Act → World → Prop} (hanc : ancOK anc 0 aft anc = true) (hchk : chkAll c.H0 σ0 0 anc es = true) (hl : aft.length = es.length)
    (hp : Part aft E i) (ho : ops[i]? = some o) (hm : m.ok P c.nt ops o = true) (hi : es[i]? = some e) (hev : Ev P c.H0 m e (fold (fun j => decide (j < i)) 0 es σ0)) (hR : Rel P c g (fold E 0 es σ0) a w)
    (hK : ∀ g' a' w', Rel P c g' (fold (setE1 E i) 0 es σ0) a' w' → K' a' w') : wpOp P ops Q i K' a w := by
  have hm' := hm
  simp only [MOp.ok, Bool.and_eq_true] at hm'
  obtain ⟨⟨hins, h2⟩, h3⟩ := hm'
  obtain ⟨hdd, hlt⟩ := dstOK_inv h2
  obtain ⟨hdst, hev⟩ := hev
  have apt : ∀ {k : Nat} {e' : Ent}, es[k]? = some e' → k ≠ i → E k ≠ decide (k < i) → Apart e e' := fun hk hne hE => (part_apart hanc hchk hl hp hi hk hne hE).1
  have henv : ∀ s ∈ e.uses, find s (fold E 0 es σ0).env = find s (fold (fun j => decide (j < i)) 0 es σ0).env := fun s hs => fold_env rfl fun k e' hk hne hd => by
    rw [Nat.zero_add] at hne
    by_cases hki : k = i
    · subst hki; rw [hp.out] at hne; simp at hne
    · exact (apt hk hki hne).ud s hd hs
  have hheap : ∀ n ∈ e.touch, find n (fold E 0 es σ0).heap = find n (fold (fun j => decide (j < i)) 0 es σ0).heap := fun n hn => fold_heap rfl fun k e' hk hne hd => by
    rw [Nat.zero_add] at hne
    by_cases hki : k = i
    · subst hki; rw [hp.out] at hne; simp at hne
    · exact (apt hk hki hne).ti n hd hn
  have hEi : E (0 + i) ≠ setE1 E i (0 + i) := by rw [Nat.zero_add, hp.out, setE1_same]; simp
  -- the state after one more
  have later : ∀ k e', es[k]? = some e' → i < k → setE1 E i (0 + k) = true → Apart e e' := fun k e' hk hik hE => by
    rw [Nat.zero_add, setE1_ne (by omega)] at hE
    exact apt hk (by omega) (by rw [hE]; simp; omega)
  have one : ∀ {g' : Gh} {a' : Act} {w' : World}, Rel P c g' (e.app (fold E 0 es σ0)) a' w' → Rel P c g' (fold (setE1 E i) 0 es σ0) a' w' := fun hr => by
    refine hr.congr (fun s => ?_) fun n => ?_
    · by_cases hd : e.dst = some s
      · rw [fold_env_last (τ := fold E 0 es σ0) hi (by rw [Nat.zero_add]; exact setE1_same) hd fun k e' hk hik hE => (later k e' hk hik hE).dd s hd]
      · rw [app_env, if_neg hd]
        refine fold_env rfl fun k e' hk hne hd' => ?_
        rw [Nat.zero_add] at hne
        by_cases hki : k = i
        · subst hki; rw [hi] at hk; cases hk; exact hd hd'
        · rw [setE1_ne hki] at hne; exact hne rfl
    · by_cases hd : n ∈ e.ids
      · rw [fold_heap_last (τ := fold E 0 es σ0) hi (by rw [Nat.zero_add]; exact setE1_same) hd fun k e' hk hik hE => (later k e' hk hik hE).ii n hd]
      · rw [app_heap_out hd]
        refine fold_heap rfl fun k e' hk hne hd' => ?_
        rw [Nat.zero_add] at hne
        by_cases hki : k = i
        · subst hki; rw [hi] at hk; cases hk; exact hd hd'
        · rw [setE1_ne hki] at hne; exact hne rfl
  have ran : ∀ gs, Ran P c.H0 m e (fold (fun j => decide (j < i)) 0 es σ0) gs → o.wp P a w K' Q := by
    rintro gs ⟨f, k1, k2, k3, k4, k5⟩
    have hvals : m.ins.opds.map (·.ev (fold E 0 es σ0).env) = m.ins.opds.map (·.ev (fold (fun j => decide (j < i)) 0 es σ0).env) := ev_congr fun n hn => henv n (by rw [k3]; exact List.mem_append_right _ hn)
    rw [← hvals] at k2
    have k2' := stepV_ob (ob' := obOf (fold E 0 es σ0).heap) (fun id hid => (hheap id (by rw [k4, ← hvals]; exact hid)).symm) k2
    have hcl : ∀ n ∈ m.ins.creates m.d, Clean c (fold E 0 es σ0) n := fun n hn => by
      rw [← k5] at hn
      exact clean_fold (chkAll_clean hchk hi n hn) fun k e' hk hE f' hf' => by
        rw [Nat.zero_add] at hE
        exact part_nomen hanc hchk hl hp hi hk hE n hn f' hf'
    refine ins_sound m.ins (d := m.d) hins hR (fun id o h => h) hcl k2' fun eff he g' v w' hs hf hv => ?_
    have he' : eff = f := he.elim id id
    subst he'
    refine hK g' _ w' (one ?_)
    have : e.app (fold E 0 es σ0) = (fold E 0 es σ0).app m.dst eff := by unfold Ent.app; rw [k1, hdst]
    rw [this, ← hdd]
    exact hR.step hlt hs hf hv
  simp only [wpOp, ho]
  rcases hev with ⟨hg, hr⟩ | ⟨s, want, b, hg, hb, hsu, hr⟩ | ⟨s, want, hg, hb, hsu, hr⟩
  · rw [hg] at h3
    simp only [guard_none h3, if_true]
    exact .inl (ran _ hr)
  · rw [hg] at h3
    have hb' : get s (fold E 0 es σ0).env = .bool b := by rw [get_find, henv s hsu, ← get_find]; exact hb
    rw [guard_wanted h3 hR hb']
    rcases hr with ⟨rfl, hr⟩ | ⟨hbn, hr⟩
    · have hw : beqB b b = true := by cases b <;> rfl
      simp only [hw, if_true]
      exact .inl (ran _ hr)
    · have hw : beqB b want = false := by rw [hbn]; cases want <;> rfl
      simp only [hw, Bool.false_eq_true, if_false]
      refine hK g _ w (one ?_)
      have : e.app (fold E 0 es σ0) = ⟨delE m.dst (fold E 0 es σ0).env, (fold E 0 es σ0).heap⟩ := by unfold Ent.app; rw [hr, hdst]
      rw [this, ← hdd]
      exact hR.undef' hlt
  · rw [hg] at h3
    have hb' : get s (fold E 0 es σ0).env = .tup [] := by rw [get_find, henv s hsu, ← get_find]; exact hb
    rw [guard_tup h3 hR hb']
    simp only [Bool.false_eq_true, if_false]
    refine hK g _ w (one ?_)
    have : e.app (fold E 0 es σ0) = ⟨delE m.dst (fold E 0 es σ0).env, (fold E 0 es σ0).heap⟩ := by unfold Ent.app; rw [hr, hdst]
    rw [this, ← hdd]
    exact hR.undef' hlt

theorem any_sound (hok : mopsOK P c.nt ops ms ops.toList = true) (haft : aftOK aft ops.toList = true) (hanc : ancOK anc 0 aft anc = true) (hchk : chkAll c.H0 σ0 0 anc es = true) (hevs : Evs P c.H0 ms es σ0)
    (hK : ∀ g a w, Rel P c g (foldA es σ0) a w → Q .normal a w) : ∀ (fuel : Nat) (E : Nat → Bool) (listed : Array Bool) (g : Gh) (a : Act) (w : World), listed.size = ops.size → (∀ i, i < ops.size → listed.getD i true = E i ∧ listed.getD i false = E i) →
      (∀ k a, aft[k]? = some a → E k = true → ∀ x ∈ a, E x = true) → ((List.range ops.size).filter fun i => !E i).length ≤ fuel → Rel P c g (fold E 0 es σ0) a w → wpAny P .any ops Q fuel listed a w := by
  have hml : ms.length = ops.size := by rw [mopsOK_len hok, Array.length_toList]
  have hel : es.length = ops.size := by rw [evs_len hevs, hml]
  have hat : ∀ {i : Nat} {o : Oper}, ops[i]? = some o → ∃ b, aft[i]? = some b ∧ b = (o.after.toList.filter (Region.binds .any)).map (·.on) := fun ho => aftOK_at haft (by rw [Array.getElem?_toList]; exact ho)
  have hal : aft.length = ops.size := by
    have : ∀ {aft : List (List Nat)} {os : List Oper}, aftOK aft os = true → aft.length = os.length := by
      intro aft
      induction aft with
      | nil => intro os h; cases os with | nil => rfl | cons _ _ => cases h
      | cons a r ih =>
        intro os h
        cases os with
        | nil => cases h
        | cons o s => simp only [aftOK, Bool.and_eq_true] at h; simp only [List.length_cons, ih h.2]
    rw [this haft, Array.length_toList]
  -- where nothing is ready, all is done
  have done : ∀ (E : Nat → Bool) (listed : Array Bool), (∀ i, i < ops.size → listed.getD i true = E i ∧ listed.getD i false = E i) → Region.ready .any ops listed = [] → ∀ i, i < ops.size → E i = true := by
    intro E listed hls hr i
    induction i using Nat.strongRecOn with
    | _ i ih =>
      intro hi
      cases hE : E i with
      | true => rfl
      | false =>
        exfalso
        have ho : ops[i]? = some ops[i] := Array.getElem?_eq_getElem hi
        have : i ∈ Region.ready .any ops listed := by
          rw [mem_ready]
          refine ⟨by rw [(hls i hi).1]; exact hE, ops[i], ho, fun ed hed hb => ?_⟩
          obtain ⟨b, hb1, hb2⟩ := hat ho
          obtain ⟨_, _, hbel, _⟩ := ancOK_at hanc hb1
          have hmem : ed.on ∈ b := by rw [hb2]; exact List.mem_map.2 ⟨ed, List.mem_filter.2 ⟨by simpa using hed, hb⟩, rfl⟩
          have hlt := below_inv hbel _ hmem
          rw [Nat.zero_add] at hlt
          rw [(hls ed.on (by omega)).2]
          exact ih ed.on hlt (by omega)
        rw [hr] at this; cases this
  have fin : ∀ (E : Nat → Bool) (listed : Array Bool) g a w, (∀ i, i < ops.size → listed.getD i true = E i ∧ listed.getD i false = E i) → Rel P c g (fold E 0 es σ0) a w → Region.ready .any ops listed = [] → Q .normal a w := fun E listed g a w hls hR hr => by
    have hall := done E listed hls hr
    rw [fold_all fun k hk => by rw [Nat.zero_add]; exact hall k (by omega)] at hR
    exact hK g a w hR
  intro fuel
  induction fuel with
  | zero =>
    intro E listed g a w hsz hls hdown hcard hR
    have hr : Region.ready .any ops listed = [] := by
      cases hrr : Region.ready .any ops listed with
      | nil => rfl
      | cons i r =>
        exfalso
        have hmem : i ∈ Region.ready .any ops listed := by rw [hrr]; exact List.mem_cons_self
        obtain ⟨h1, o, ho, _⟩ := mem_ready.1 hmem
        have hi := (Array.getElem?_eq_some_iff.1 ho).1
        rw [(hls i hi).1] at h1
        have : i ∈ (List.range ops.size).filter fun i => !E i := List.mem_filter.2 ⟨List.mem_range.2 hi, by simp [h1]⟩
        rw [List.eq_nil_of_length_eq_zero (Nat.le_zero.1 hcard)] at this
        cases this
    exact ⟨hr, fin E listed g a w hls hR hr⟩
  | succ fuel ih =>
    intro E listed g a w hsz hls hdown hcard hR
    refine ⟨fun hr => fin E listed g a w hls hR hr, fun i hmem => ?_⟩
    obtain ⟨h1, o, ho, hedges⟩ := mem_ready.1 hmem
    have hi := (Array.getElem?_eq_some_iff.1 ho).1
    rw [(hls i hi).1] at h1
    obtain ⟨m, hms, hmok⟩ := mopsOK_at hok (by rw [Array.getElem?_toList]; exact ho)
    have hie : es[i]? = some es[i] := List.getElem?_eq_getElem (by omega)
    obtain ⟨b, hb1, hb2⟩ := hat ho
    obtain ⟨_, _, hbel, _⟩ := ancOK_at hanc hb1
    have hbE : ∀ x ∈ b, E x = true := fun x hx => by
      have hlt := below_inv hbel _ hx
      rw [Nat.zero_add] at hlt
      rw [hb2] at hx
      obtain ⟨ed, hed, rfl⟩ := List.mem_map.1 hx
      obtain ⟨hed1, hed2⟩ := List.mem_filter.1 hed
      rw [← (hls ed.on (by omega)).2]
      exact hedges ed (by simpa using hed1) hed2
    have hp : Part aft E i := ⟨hdown, h1, fun a' ha' => by rw [hb1] at ha'; cases ha'; exact hbE⟩
    have hev := evs_at (i := 0) (k := i) hevs hms hie
    rw [Nat.zero_add] at hev
    refine step_any hanc hchk (by omega) hp ho hmok hie hev hR fun g' a' w' hR' => ?_
    refine ih (setE1 E i) _ g' a' w' (by simpa using hsz) (fun k hk => ?_) (fun k a' ha' hE x hx => ?_) ?_ hR'
    · by_cases hki : k = i
      · subst hki
        rw [setE1_same]
        have : k < listed.size := by omega
        simp [this]
      · rw [setE1_ne hki, getD_set_ne true (Ne.symm hki), getD_set_ne false (Ne.symm hki)]
        exact hls k hk
    · by_cases hki : k = i
      · subst hki
        rw [hb1] at ha'; cases ha'
        have hne : x ≠ k := fun h => by have := hbE x hx; rw [h, h1] at this; cases this
        rw [setE1_ne hne]; exact hbE x hx
      · rw [setE1_ne hki] at hE
        have := hdown k a' ha' hE x hx
        by_cases hxi : x = i
        · rw [hxi]; exact setE1_same
        · rw [setE1_ne hxi]; exact this
    · have hlt : ((List.range ops.size).filter fun k => !setE1 E i k).length < ((List.range ops.size).filter fun k => !E k).length := by
        have hsub : ((List.range ops.size).filter fun k => !setE1 E i k) = (((List.range ops.size).filter fun k => !E k).filter fun k => !Nat.beq k i) := by
          rw [List.filter_filter]
          refine List.filter_congr fun k _ => ?_
          unfold setE1
          cases Nat.beq k i <;> cases E k <;> rfl
        rw [hsub]
        refine List.length_filter_lt_length_iff_exists.2 ⟨i, List.mem_filter.2 ⟨List.mem_range.2 hi, by simp [h1]⟩, by simp⟩
      omega

theorem regionD_ops {K : St → Prop} {g : Gh} {a : Act} {w : World} (hmix : P.follows .mixedOrders = true) (hK : ∀ σ' g' a' w', K σ' → Rel P c g' σ' a' w' → Q .normal a' w') (hok : mopsOK P c.nt ops ms ops.toList = true) (haft : aftOK aft ops.toList = true)
    (hanc : ancOK anc 0 aft anc = true) (hR : Rel P c g σ0 a w) (h : runD P c.H0 ms [] σ0 fun log σ' => chkAll c.H0 σ0 0 anc log.reverse = true ∧ K σ') (t : Nat) : wpOps P ops Q (Region.schedule (P.follows .mixedOrders) ops t) a { w with drawn := w.drawn + 1 } := by
  obtain ⟨es, hevs, hchk, hk⟩ := runD_evs h
  rw [List.append_nil, List.reverse_reverse] at hchk
  simp only [Region.schedule, hmix, Bool.true_or, if_true]
  refine wpAny_sound ops.size t _ a _ (any_sound hok haft hanc hchk hevs (fun g a w hr => hK _ g a w hk hr) ops.size (fun _ => false) _ g a _ (by simp) (fun i hi => by simp [hi]) (fun _ _ _ h => by cases h) ?_ ?_)
  · exact Nat.le_trans (List.length_filter_le _ _) (by simp)
  · rw [fold_none (fun _ => rfl)]
    exact hR.drew
end
end Go.Ab
