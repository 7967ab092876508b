/- The abstract layer: a row out of a map that a callee made is taken back by the function that appends to it. -/
import Derived.Test.YtlcclnfjeinggaaAbFun
set_option linter.all false
set_option linter.unusedVariables false
namespace Go.Ab
open Go.RowKit
section
variable {P : Program}
def V.ib : V → Bool
 | .int _ _ | .bool _ => true
 | _ => false
def keepE (env : List (Nat × V)) : List Nat → List (Nat × V)
 | [] => []
 | t :: r => match find t env with
  | some x => bif x.ib then (t, x) :: keepE env r else keepE env r
  | none => keepE env r
theorem keepE_find {env : List (Nat × V)} {s : Nat} {x : V} : ∀ {l : List Nat}, find s (keepE env l) = some x → find s env = some x ∧ x.ib = true
 | [], h => by cases h
 | t :: r, h => by
  simp only [keepE] at h
  cases hf : find t env with
  | none => rw [hf] at h; exact keepE_find (l := r) h
  | some y =>
   rw [hf] at h
   cases hi : y.ib with
   | false => simp only [hi, cond_false] at h; exact keepE_find (l := r) h
   | true =>
    simp only [hi, cond_true, find] at h
    cases hb : Nat.beq s t with
    | true => rw [hb] at h; cases h; rw [Nat.eq_of_beq_eq_true hb]; exact ⟨hf, hi⟩
    | false => rw [hb] at h; exact keepE_find (l := r) h
theorem VR.ib {g g' : Gh} {w : World} {v : Value} {x : V} (h : VR g w v x) (hi : x.ib = true) : VR g' w v x := by
 cases h <;> first | (simp [V.ib] at hi; done) | skip
 rename_i h
 cases h <;> first | (simp [V.ib] at hi; done) | skip
 ·exact .rd (.bool _)
 ·rename_i hr; exact .rd (.int _ _ hr)
theorem Rd.ib {S S' : Nat → Prop} {w : World} {v : Value} {x : V} (h : Rd S w v x) (hi : x.ib = true) : Rd S' w v x := by
 cases h <;> first | (simp [V.ib] at hi; done) | skip
 ·exact .bool _
 ·rename_i hr; exact .int _ _ hr
def Cov (P : Program) (c : Ctx) (z : Nat) : Prop := (∃ o, find z c.H0 = some o) ∧ (∀ b, c.g0.S b ∨ c.gp.S b → (c.gp.base z).testBit b = true) ∧ ∀ w', Keep c.gp.S c.wp w' → Tabs P w'
theorem Cov.le {c c' : Ctx} {z : Nat} (h : Cov P c z) (hl : c.le c') : Cov P c' z := by
 unfold Cov at *
 rw [hl.H0, hl.g0, hl.gp, hl.wp]; exact h
def allIb (xs : List V) : Prop := ∀ x ∈ xs, ∀ c ∈ x.cells, c.ib = true
def unsT (s z id k : Nat) (keep : List Nat) (σ : St) (K : St → Prop) : Prop :=
 match get s σ.env with
 | .nsl z' k' xs => bif Nat.beq z' z && Nat.beq k' k && !Nat.beq id z then allIb xs ∧ K ⟨(s, .osl id k 0 xs.length) :: keepE σ.env keep, [(id, .arr k xs none)]⟩ else False
 | _ => False
theorem uns_ok {c : Ctx} {s z id k : Nat} {keep : List Nat} (hc : Cov P c z) (hH : ∀ n o, find n c.H0 = some o → n = z) (K : St → Prop) (c' : Ctx) (g : Gh) (σ : St) (a : Act) (w : World) (hl : c.le c') (hR : Rel P c' g σ a w) (hT : unsT s z id k keep σ K) :
  ∃ g' σ', K σ' ∧ Rel P c' g' σ' a w := by
 replace hc := hc.le hl
 have hH : ∀ n o, find n c'.H0 = some o → n = z := by rw [hl.H0]; exact hH
 obtain ⟨⟨oz, hz⟩, hcov, htab⟩ := hc
 unfold unsT at hT
 split at hT
 case h_2 => exact hT.elim
 rename_i z' k' xs hget
 cases hb : Nat.beq z' z && Nat.beq k' k && !Nat.beq id z with
 | false => rw [hb] at hT; exact hT.elim
 | true =>
 rw [hb] at hT
 obtain ⟨hib, hK⟩ := hT
 simp only [Bool.and_eq_true, Bool.not_eq_true'] at hb
 obtain ⟨⟨hb1, hb2⟩, hb3⟩ := hb
 have e1 := Nat.eq_of_beq_eq_true hb1; subst e1
 have e2 := Nat.eq_of_beq_eq_true hb2; subst e2
 have hidz : id ≠ z' := fun e => by rw [e, Nat.beq_refl] at hb3; cases hb3
 obtain ⟨hfs, hlt, hv⟩ : find s σ.env = some (.nsl z' k' xs) ∧ s < c'.nt ∧ VR g w (a.tmps.getD s undef) (.nsl z' k' xs) := by
  rw [get_find] at hget
  cases hf : find s σ.env with
  | none => rw [hf] at hget; cases hget
  | some x =>
   rw [hf] at hget
   simp only [Option.getD_some] at hget
   subst hget
   exact ⟨rfl, hR.env s _ hf⟩
 have hnr : NewRow g.S (g.base z') k' w (a.tmps.getD s undef) xs := by
  generalize a.tmps.getD s undef = v at hv
  cases hv with
  | rd h => cases h
  | nsl _ _ _ _ h => exact h
 have hbz : g.base z' = c'.gp.base z' := (hR.fr.par z' _ hz).2.1
 have gpg : ∀ b, c'.gp.S b → g.S b := fun b hb => hR.fr.sup b (.inr hb)
 have keepW : ∀ (S' : Nat → Prop), (∀ b, c'.gp.S b → S' b) → ∀ w', Keep S' w w' → Tabs P w' := fun S' hS w' hk => htab w' fun b hb => (hk b (hS b hb)).trans (hR.dfr.2.2 b hb)
 have agr : ∀ (g' : Gh) n, n ≠ id → g'.ρ n = g.ρ n → g'.base n = g.base n → g'.cap n = g.cap n → (g'.nil n ↔ g.nil n) → g.agree g' n := fun g' n _ h1 h2 h3 h4 => ⟨h1, h2, h3, h4⟩
 rcases hnr with ⟨hve, rfl⟩ | ⟨b, o, base, cap, cc, hve, ho, hlc, hcc, hcm, hbit, hSb, harr⟩
 · -- nil
  refine ⟨{ g with nil := fun n => n = id ∨ g.nil n }, _, hK, hR.size, hR.dfr, fun t x hx => ?_, ⟨fun n o' hn => ?_, fun i j o1 o2 hi hj hni => ?_, fun n o' hn hnn => ?_, hR.hp.lt, hR.hp.tabs⟩, hR.fr.os, hR.fr.tape, hR.fr.output, hR.fr.size, hR.fr.old, fun n o' hn hnn => ?_, hR.fr.sup, hR.fr.sub, fun n o' hn => ?_⟩
  ·simp only [find] at hx
   cases hts : Nat.beq t s with
   | true =>
    rw [hts] at hx; cases hx
    rw [Nat.eq_of_beq_eq_true hts, hve]
    exact ⟨hlt, .oslnil id k' 0 (.inl rfl)⟩
   | false =>
    rw [hts] at hx
    obtain ⟨q1, q2⟩ := keepE_find hx
    exact ⟨(hR.env t x q1).1, (hR.env t x q1).2.ib q2⟩
  ·simp only [find] at hn
   cases hni : Nat.beq n id with
   | false => rw [hni] at hn; cases hn
   | true => rw [hni] at hn; cases hn; rw [Nat.eq_of_beq_eq_true hni]; exact .inl ⟨.inl rfl, rfl⟩
  ·simp only [find] at hi
   cases hni' : Nat.beq i id with
   | false => rw [hni'] at hi; cases hi
   | true => exact absurd (.inl (Nat.eq_of_beq_eq_true hni')) hni
  ·simp only [find] at hn
   cases hni' : Nat.beq n id with
   | false => rw [hni'] at hn; cases hn
   | true => exact absurd (.inl (Nat.eq_of_beq_eq_true hni')) hnn
  ·simp only [find] at hn
   cases hni' : Nat.beq n id with
   | false => rw [hni'] at hn; cases hn
   | true => exact absurd (.inl (Nat.eq_of_beq_eq_true hni')) hnn
  ·have e := hH n o' hn; subst e
   exact (hR.fr.par _ _ hn).trans (agr _ _ (Ne.symm hidz) rfl rfl rfl ⟨fun h => h.resolve_left (Ne.symm hidz), .inr⟩)
 · -- a block
  have hng : ¬ c'.g0.S b := fun h => by rw [hbz, hcov b (.inl h)] at hbit; cases hbit
  have hngp : ¬ c'.gp.S b := fun h => by rw [hbz, hcov b (.inr h)] at hbit; cases hbit
  obtain ⟨S', hS'⟩ : ∃ S' : Nat → Prop, S' = fun n => g.S n ∧ n ≠ b := ⟨_, rfl⟩
  have hnl : ¬ g.nil id ∨ g.nil id := (Classical.em _).symm
  obtain ⟨g', hg'⟩ : ∃ g' : Gh, g' = ⟨S', fun n => if n = id then b else g.ρ n, fun n => if n = id then base else g.base n, fun n => if n = id then cap else g.cap n, fun n => if n = id then False else g.nil n⟩ := ⟨_, rfl⟩
  have i1 : g'.ρ id = b := by rw [hg']; simp
  have i2 : g'.base id = base := by rw [hg']; simp
  have i3 : g'.cap id = cap := by rw [hg']; simp
  have i4 : ¬ g'.nil id := by rw [hg']; simp
  have i5 : ∀ n, g'.S n ↔ (g.S n ∧ n ≠ b) := fun n => by rw [hg', hS']
  have only : ∀ {n : Nat} {o' : Obj'}, find n [(id, Obj'.arr k' xs none)] = some o' → n = id ∧ o' = .arr k' xs none := fun {n o'} hn => by
   simp only [find] at hn
   cases hni : Nat.beq n id with
   | false => rw [hni] at hn; cases hn
   | true => rw [hni] at hn; cases hn; exact ⟨Nat.eq_of_beq_eq_true hni, rfl⟩
  refine ⟨g', _, hK, hR.size, hR.dfr, fun t x hx => ?_, ⟨fun n o' hn => ?_, fun i j o1 o2 hi hj _ _ _ => ?_, fun n o' hn hnn hs => ?_, fun n hn => hR.hp.lt n ((i5 n).1 hn).1, keepW _ fun n hn => (i5 n).2 ⟨gpg n hn, fun e => hngp (e ▸ hn)⟩⟩,
   hR.fr.os, hR.fr.tape, hR.fr.output, hR.fr.size, hR.fr.old, fun n o' hn hnn => ?_, fun n hn => (i5 n).2 ⟨hR.fr.sup n hn, fun e => hn.elim (fun h => hng (e ▸ h)) fun h => hngp (e ▸ h)⟩, fun n hn => hR.fr.sub n ((i5 n).1 hn).1, fun n o' hn => ?_⟩
  ·simp only [find] at hx
   cases hts : Nat.beq t s with
   | true =>
    rw [hts] at hx; cases hx
    rw [Nat.eq_of_beq_eq_true hts, hve, ← i1]
    refine ⟨hlt, .osl id k' 0 xs.length o cc i4 ?_ (by rw [i3]; omega) hlc hcm⟩
    rw [i2, Nat.add_zero]; exact ho
   | false =>
    rw [hts] at hx
    obtain ⟨q1, q2⟩ := keepE_find hx
    exact ⟨(hR.env t x q1).1, (hR.env t x q1).2.ib q2⟩
  ·obtain ⟨rfl, rfl⟩ := only hn
   refine .inr ⟨i4, ?_⟩
   rw [i1, i2, i3]
   obtain ⟨k1, ⟨cur, e, fz, h2, h3, h4, h5⟩, h6, h7, h8⟩ := harr
   exact ⟨k1, ⟨cur, e, fz, h2, h3, h4, fun i j x y hx hy => (h5 i j x y hx hy).ib (hib x (List.mem_of_getElem? hx) y (List.mem_of_getElem? hy))⟩, h6, h7, h8⟩
  ·obtain ⟨rfl, rfl⟩ := only hi
   exact (only hj).1.symm
  ·obtain ⟨rfl, rfl⟩ := only hn
   rw [i1] at hs
   exact ((i5 b).1 hs).2 rfl
  ·obtain ⟨rfl, rfl⟩ := only hn
   rw [i1]
   obtain ⟨h1, h2⟩ := hR.fr.sub b hSb
   exact ⟨h1.resolve_left hng, h2⟩
  ·have e := hH n o' hn; subst e
   refine (hR.fr.par _ _ hn).trans (agr _ _ (Ne.symm hidz) ?_ ?_ ?_ ?_) <;> rw [hg'] <;> simp [Ne.symm hidz]
theorem only_mark {c : Ctx} {z : Nat} (hc : c.H0 = [(z, .mark)]) : ∀ n o, find n c.H0 = some o → n = z := fun n o hn => by
 rw [hc] at hn
 simp only [find] at hn
 cases hni : Nat.beq n z with
 | false => rw [hni] at hn; cases hn
 | true => exact Nat.eq_of_beq_eq_true hni
theorem ibs_map {α : Type} {f : α → V} {l : List α} (h : ∀ a, ∀ c ∈ (f a).cells, c.ib = true) : allIb (l.map f) := fun x hx => by
 obtain ⟨a, _, rfl⟩ := List.mem_map.1 hx; exact h a
theorem mask_of (S : Nat → Prop) : ∀ n : Nat, ∃ m : Nat, ∀ b, m.testBit b = true ↔ (S b ∧ b < n)
 | 0 => ⟨0, fun b => by simp⟩
 | n + 1 => by
  obtain ⟨m, hm⟩ := mask_of S n
  by_cases hS : S n
  ·refine ⟨m ||| 1 <<< n, fun b => ?_⟩
   rw [Nat.testBit_or, Bool.or_eq_true, hm, Nat.one_shiftLeft, Nat.testBit_two_pow]
   simp only [decide_eq_true_eq]
   constructor
   ·rintro (⟨h1, h2⟩ | rfl)
    ·exact ⟨h1, by omega⟩
    ·exact ⟨hS, by omega⟩
   ·rintro ⟨h1, h2⟩
    by_cases e : n = b
    ·exact .inr e
    ·exact .inl ⟨h1, by omega⟩
  ·refine ⟨m, fun b => (hm b).trans ⟨fun ⟨h1, h2⟩ => ⟨h1, by omega⟩, fun ⟨h1, h2⟩ => ⟨h1, ?_⟩⟩⟩
   have : b ≠ n := fun e => hS (e ▸ h1)
   omega
theorem acall_mk {f : Nat} {fn : Func} {code : Code} {mc : MC} {args : List V} {Q : V → Heap → Prop} (z : Nat) (ns : List Note) (rs : List RS) (hf : P.funcs[f]? = some fn) (hb : fn.body = some code) (hc : callable P f = true)
  (hN : ∀ c : Ctx, c.H0 = [(z, .mark)] → Cov P c z → HNOK P c mc) (hok : mc.ok P fn.ntmps code = true) (hrs : resOK P rs fn.results.toList = true) (hn : Nat.ble args.length fn.ntmps = true) (hg : St.good ⟨enumE 0 args, [(z, .mark)]⟩ = true)
  (hz : V.hasL z args = false) (hQ : ∀ r H', Q r H' → r.within [] = true ∧ H' = [])
  (h : factsSt ⟨enumE 0 args, [(z, .mark)]⟩ → MWP P [(z, .mark)] mc (atEndN [(z, .mark)] ns [] rs Q) (fun _ _ => False) (atEndN [(z, .mark)] ns [] rs Q) ⟨enumE 0 args, [(z, .mark)]⟩) : ACall P f args [] Q := by
 refine ⟨hc, fun g w vals hH hl hv => ?_⟩
 obtain ⟨m, hm⟩ := mask_of g.S w.heap.size
 obtain ⟨g1, hg1⟩ : ∃ g1 : Gh, g1 = { g with base := fun n => if n = z then m else g.base n, nil := fun n => if n = z then True else g.nil n } := ⟨_, rfl⟩
 have j1 : g1.S = g.S := by rw [hg1]
 have j2 : g1.base z = m := by rw [hg1]; simp
 have j3 : g1.nil z := by rw [hg1]; simp
 have only : ∀ {n : Nat} {o' : Obj'}, find n [(z, Obj'.mark)] = some o' → n = z ∧ o' = .mark := fun {n o'} hn => by
  simp only [find] at hn
  cases hni : Nat.beq n z with
  | false => rw [hni] at hn; cases hn
  | true => rw [hni] at hn; cases hn; exact ⟨Nat.eq_of_beq_eq_true hni, rfl⟩
 have hH1 : HRel P g1 w [(z, .mark)] := by
  refine ⟨fun n o hn => ?_, fun i j o1 o2 hi _ hni => ?_, fun n o hn hnn => ?_, fun b hb => hH.lt b (by rw [← j1]; exact hb), by rw [j1]; exact hH.tabs⟩
  ·obtain ⟨rfl, rfl⟩ := only hn
   exact ⟨j3, fun b hb => by rw [j2] at hb; rw [j1]; exact ((hm b).1 hb).1⟩
  ·obtain ⟨rfl, rfl⟩ := only hi; exact absurd j3 hni
  ·obtain ⟨rfl, rfl⟩ := only hn; exact absurd j3 hnn
 have hv1 : ∀ (i : Nat) (x : V), args[i]? = some x → VR g1 w (vals.getD i undef) x := fun i x hx =>
  (hv i x hx).mono (fun _ _ => rfl) (fun b hb => by rw [j1]; exact hb) fun id hid => by
   have hne : id ≠ z := fun e => by rw [e, V.hasL_mem (List.mem_of_getElem? hx) hz] at hid; cases hid
   rw [hg1]; simp [Gh.agree, hne]
 have hcov : Cov P ⟨w, g1, [(z, .mark)], fn.ntmps, [], [], [(z, .mark)], g1, w⟩ z := by
  refine ⟨⟨.mark, by simp [find]⟩, fun b hb => ?_, by show ∀ w', Keep g1.S w w' → _; rw [j1]; exact hH.tabs⟩
  show (g1.base z).testBit b = true
  rw [j2]
  have hb : g.S b := by rcases hb with hb | hb <;> (rw [← j1]; exact hb)
  exact (hm b).2 ⟨hb, hH.lt b hb⟩
 refine (calls_of ns [] rs hf hb (hN _ rfl hcov) hok hrs hn hg h hH1 hl hv1).mono ?_
 rintro e w' ⟨v, r, H', g', rfl, hq, hh, hvr, hfr, _⟩
 obtain ⟨hw, rfl⟩ := hQ r H' hq
 have noM : ∀ b, ¬ (⟨w, g1, [(z, .mark)], 0, [], [], [(z, .mark)], g1, w⟩ : Ctx).M b := fun b ⟨id, o, ho, hnn, _⟩ => by obtain ⟨rfl, rfl⟩ := only ho; exact hnn j3
 obtain ⟨g2, hg2⟩ : ∃ g2 : Gh, g2 = ⟨g'.S, g.ρ, g.base, g.cap, g.nil⟩ := ⟨_, rfl⟩
 have hvr2 : VR g2 w' v r := VR.mono (g := g') (fun _ _ => rfl) (fun b hb => by rw [hg2]; exact hb) hvr fun id hid => absurd (within_has hw hid) (by simp)
 rw [hg2] at hvr2
 refine ⟨v, r, [], ⟨g'.S, g.ρ, g.base, g.cap, g.nil⟩, rfl, hq, ⟨fun _ _ hn => (by cases hn), fun _ _ _ _ hn => (by cases hn), fun _ _ hn => (by cases hn), hh.lt, hh.tabs⟩, hvr2,
  ⟨hfr.os, hfr.tape, hfr.output, hfr.size, fun b hlt _ => hfr.old b hlt (noM b), fun _ _ hn => (by cases hn), fun b hb => hfr.sup b (by show g1.S b ∨ g1.S b; rw [j1]; exact hb), fun b hb => ?_, fun _ _ hn => (by cases hn)⟩, fun id _ => .refl _ _⟩
 obtain ⟨h1, h2⟩ := hfr.sub b hb
 refine ⟨?_, fun _ hn => by cases hn⟩
 rcases h1 with h1 | h1 | h1
 ·exact .inl (by have : g1.S b := h1; rw [j1] at this; exact this)
 ·exact .inr (.inl h1)
 ·exact absurd h1 (noM b)
theorem acallK {f : Nat} {fn : Func} {args : List V} {Q : V → Heap → Prop} (mc : MC) (z : Nat) (ns : List Note) (rs : List RS) (hf : P.funcs[f]? = some fn)
  (hN : ∀ c : Ctx, c.H0 = [(z, .mark)] → Cov P c z → HNOK P c mc) (hQ : ∀ r H', Q r H' → r.within [] = true ∧ H' = [])
  (h : ∀ M : Mach, M.go ⟨P, [(z, .mark)], atEndN [(z, .mark)] ns [] rs Q, fun _ _ => False, atEndN [(z, .mark)] ns [] rs Q⟩ mc [] ⟨enumE 0 args, [(z, .mark)]⟩) (hb : fn.body = some (fn.body.getD .skip) := by rfl) (hc : callable P f = true := by kernel_rfl)
  (hok : mc.ok P fn.ntmps (fn.body.getD .skip) = true := by kernel_rfl) (hrs : resOK P rs fn.results.toList = true := by kernel_rfl) (hn : Nat.ble args.length fn.ntmps = true := by rfl) (hg : St.good ⟨enumE 0 args, [(z, .mark)]⟩ = true := by rfl)
  (hz : V.hasL z args = false := by rfl) : ACall P f args [] Q := by
 refine acall_mk z ns rs hf hb hc hN hok hrs hn hg hz hQ fun _ => ?_
 have this : go ⟨P, [(z, .mark)], atEndN [(z, .mark)] ns [] rs Q, fun _ _ => False, atEndN [(z, .mark)] ns [] rs Q⟩ mc [] ⟨enumE 0 args, [(z, .mark)]⟩ := h mach
 unfold go at this
 have e1 : kN ⟨P, [(z, .mark)], atEndN [(z, .mark)] ns [] rs Q, fun _ _ => False, atEndN [(z, .mark)] ns [] rs Q⟩ [] = atEndN [(z, .mark)] ns [] rs Q := by funext σ; simp only [kN]
 have e2 : kX ⟨P, [(z, .mark)], atEndN [(z, .mark)] ns [] rs Q, fun _ _ => False, atEndN [(z, .mark)] ns [] rs Q⟩ [] = fun _ _ => False := by funext n σ; simp only [kX]
 rw [e1, e2] at this
 exact this
theorem acall_unmark {f : Nat} {args : List V} {z k : Nat} {kd : KD} {es : List (V × V)} (h : ACall P f args [(z, .mark)] (fun r H' => r = .nsmap z k kd es ∧ H' = [(z, .mark)])) (hz : V.hasL z args = false) :
  ACall P f args [] (fun r H' => r = .smap kd es ∧ H' = []) := by
 refine ⟨h.1, fun g w vals hH hl hv => ?_⟩
 obtain ⟨g1, hg1⟩ : ∃ g1 : Gh, g1 = { g with base := fun n => if n = z then 0 else g.base n, nil := fun n => if n = z then True else g.nil n } := ⟨_, rfl⟩
 have j1 : g1.S = g.S := by rw [hg1]
 have j2 : g1.base z = 0 := by rw [hg1]; simp
 have j3 : g1.nil z := by rw [hg1]; simp
 have only : ∀ {n : Nat} {o' : Obj'}, find n [(z, Obj'.mark)] = some o' → n = z ∧ o' = .mark := fun {n o'} hn => by
  simp only [find] at hn
  cases hni : Nat.beq n z with
  | false => rw [hni] at hn; cases hn
  | true => rw [hni] at hn; cases hn; exact ⟨Nat.eq_of_beq_eq_true hni, rfl⟩
 have hH1 : HRel P g1 w [(z, .mark)] := by
  refine ⟨fun n o hn => ?_, fun i j o1 o2 hi _ hni => ?_, fun n o hn hnn => ?_, fun b hb => hH.lt b (by rw [← j1]; exact hb), by rw [j1]; exact hH.tabs⟩
  ·obtain ⟨rfl, rfl⟩ := only hn
   exact ⟨j3, fun b hb => by rw [j2] at hb; simp at hb⟩
  ·obtain ⟨rfl, rfl⟩ := only hi; exact absurd j3 hni
  ·obtain ⟨rfl, rfl⟩ := only hn; exact absurd j3 hnn
 have hv1 : ∀ (i : Nat) (x : V), args[i]? = some x → VR g1 w (vals.getD i undef) x := fun i x hx =>
  (hv i x hx).mono (fun _ _ => rfl) (fun b hb => by rw [j1]; exact hb) fun id hid => by
   have hne : id ≠ z := fun e => by rw [e, V.hasL_mem (List.mem_of_getElem? hx) hz] at hid; cases hid
   rw [hg1]; simp [Gh.agree, hne]
 refine (h.2 g1 w vals hH1 hl hv1).mono ?_
 rintro e w' ⟨v, r, H', g', rfl, ⟨rfl, rfl⟩, hh, hvr, hfr, _⟩
 have noM : ∀ b, ¬ (⟨w, g1, [(z, .mark)], 0, [], [], [(z, .mark)], g1, w⟩ : Ctx).M b := fun b ⟨id, o, ho, hnn, _⟩ => by obtain ⟨rfl, rfl⟩ := only ho; exact hnn j3
 have hrd : VR ⟨g'.S, g.ρ, g.base, g.cap, g.nil⟩ w' v (.smap kd es) := by
  cases hvr with
  | rd h => cases h
  | nsmap _ _ _ _ _ _ _ hr _ _ _ => exact .rd hr
 refine ⟨v, _, [], ⟨g'.S, g.ρ, g.base, g.cap, g.nil⟩, rfl, ⟨rfl, rfl⟩, ⟨fun _ _ hn => (by cases hn), fun _ _ _ _ hn => (by cases hn), fun _ _ hn => (by cases hn), hh.lt, hh.tabs⟩, hrd,
  ⟨hfr.os, hfr.tape, hfr.output, hfr.size, fun b hlt _ => hfr.old b hlt (noM b), fun _ _ hn => (by cases hn), fun b hb => hfr.sup b (by show g1.S b ∨ g1.S b; rw [j1]; exact hb), fun b hb => ?_, fun _ _ hn => (by cases hn)⟩, fun id _ => .refl _ _⟩
 obtain ⟨h1, h2⟩ := hfr.sub b hb
 refine ⟨?_, fun _ hn => by cases hn⟩
 rcases h1 with h1 | h1 | h1
 ·exact .inl (by have : g1.S b := h1; rw [j1] at this; exact this)
 ·exact .inr (.inl h1)
 ·exact absurd h1 (noM b)
theorem lkn_l {α : Type} {f : α → V} {m p : Nat} {o : Option (List α)} : lknRes true m p (o.map (slV f)) = .tup [.nsl m p ((o.getD []).map f), .bool o.isSome] := by cases o <;> rfl
attribute [go_sem] Mach.go_hnote lkn_l V.isNilS unsT keepE V.ib
end
end Go.Ab
