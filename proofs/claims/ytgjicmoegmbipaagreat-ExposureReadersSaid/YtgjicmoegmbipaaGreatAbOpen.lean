/- The abstract layer, part 22: what comes in, read as data. -/
import Derived.Test.YtgjicmoegmbipaaGreatAbSwap
import Derived.ChangeArms
import Derived.ChangeShapes
set_option linter.all false
set_option linter.unusedVariables false
namespace Go.Ab
open Go.RowKit
inductive Sh where
 | bool
 | int (k : IntKind)
 | str
 | sl (agg : Bool) (cs : List Sh)
mutual
def Sh.has : Sh → V → Prop
 | .bool, x => ∃ b, x = .bool b
 | .int k, x => ∃ n, x = .int k n ∧ rng k n
 | .str, x => ∃ s, x = .str s
 | .sl agg cs, x => ∃ ys, x = .sl ys ∧ ∀ y ∈ ys, bif agg then ∃ zs, y = .agg zs ∧ Sh.hasL cs zs else Sh.hasL cs [y]
def Sh.hasL : List Sh → List V → Prop
 | [], [] => True
 | s :: r, x :: q => s.has x ∧ Sh.hasL r q
 | _, _ => False
end
mutual
def shT (P : Program) : Nat → TypeId → Option (Bool × List Sh)
 | 0, _ => none
 | n + 1, t => match P.underlying t with
  | some .bool => some (false, [.bool])
  | some (.int k) => some (false, [.int k])
  | some .string => some (false, [.str])
  | some (.slice e) => match shT P n e with
   | some (b, cs) => bif Nat.beq (P.cellsOf e) cs.length && Nat.blt 0 cs.length && (b || Nat.beq cs.length 1) then some (false, [.sl b cs]) else none
   | none => none
  | some (.struct fs) => match shFs P n 0 fs.toList with
   | some cs => bif Nat.beq (P.cellsOf t) cs.length then some (true, cs) else none
   | none => none
  | _ => none
def shFs (P : Program) : Nat → Nat → List Field → Option (List Sh)
 | 0, _, _ => none
 | _ + 1, _, [] => some []
 | n + 1, off, f :: r => match shT P n f.type with
  | some (_, cs) => bif Nat.beq f.offset off && Nat.beq (P.cellsOf f.type) cs.length then (match shFs P n (off + cs.length) r with | some q => some (cs ++ q) | none => none) else none
  | none => none
end
theorem hasL_append : ∀ {a b : List Sh} {x y : List V}, Sh.hasL a x → Sh.hasL b y → Sh.hasL (a ++ b) (x ++ y)
 | [], b, [], y, _, h => h
 | s :: r, b, z :: q, y, h, h' => ⟨h.1, hasL_append h.2 h'⟩
 | [], _, _ :: _, _, h, _ => h.elim
 | _ :: _, _, [], _, h, _ => h.elim
theorem hasL_len : ∀ {a : List Sh} {x : List V}, Sh.hasL a x → x.length = a.length
 | [], [], _ => rfl
 | s :: r, z :: q, h => by simp [hasL_len h.2]
 | [], _ :: _, h => h.elim
 | _ :: _, [], h => h.elim
section
variable {H : Type} {enc : TypeId × Value → H} {P : Program} {w : World} {base : Nat} {sp : Nat → Bool} {held : Bool}
abbrev Old (w : World) : Nat → Prop := fun b => b < w.heap.size
structure Reads (w : World) (off : Nat) (cs : List Value) (shs : List Sh) (xs : List V) : Prop where
 has : Sh.hasL shs xs
 rd : ∀ (i : Nat) (x : V), xs[i]? = some x → Rd (Old w) w (cs.getD (off + i) undef) x
 sc : ∀ x ∈ xs, x.one = true ∧ x.sc = true
theorem wf_rng {k : IntKind} {n : Int} (h : (Lit.int k n).wf = true) : rng k n := by
 rw [← rng_iff]
 simpa [Lit.wf, inR] using h
theorem sl_reads {a : Addr} {len cap k : Nat} {b : Bool} {shs : List Sh} (hk : 0 < k) (hks : shs.length = k) (hb : b = true ∨ k = 1) (hl : len ≤ cap) (hm : cap ≤ maxLen)
  (h : ∀ i, i < len → ∃ cs xs, w.cells? base (a.add (i * k)) k = some cs ∧ Reads w 0 cs shs xs) : ∃ ys, Sh.has (.sl b shs) (.sl ys) ∧ Rd (Old w) w (.slice (some a) len cap) (.sl ys) := by
 by_cases h0 : len = 0
 ·subst h0
  exact ⟨[], ⟨[], rfl, fun y hy => by cases hy⟩, .slz a cap⟩
 obtain ⟨cs0, xs0, hc0, _⟩ := h 0 (by omega)
 obtain ⟨_, _, hcell0⟩ := World.cells?_some hc0
 have hsz := World.cells?_block hc0 hk
 rw [show (a.add (0 * k)).block = a.block from by simp [Addr.add]] at hsz
 have hblk : ∃ cur e fz, w.heap[a.block]? = some (.cells cur e fz) ∧ a.spot = none := by
  have := hcell0 0 hk
  have hlen := (World.cells?_some hc0).2.1
  have hs : cs0[0]? = some cs0[0] := List.getElem?_eq_getElem (by omega)
  rw [hs] at this
  have e0 : (a.add (0 * k)).add 0 = a := by simp [Addr.add]
  rw [e0] at this
  unfold World.cell? at this
  split at this
  ·rename_i cur e fz hh
   refine ⟨cur, e, fz, hh, ?_⟩
   split at this
   ·cases this
   ·rename_i hsp; simpa using hsp
  ·cases this
 obtain ⟨cur, e, fz, hh, hspot⟩ := hblk
 obtain ⟨bl, o, spot⟩ := a
 simp only at hh hspot hsz
 subst hspot
 have sp' : ∀ i, ∃ y : V, i < len → ∃ cs xs, w.cells? base ((⟨bl, o, none⟩ : Addr).add (i * k)) k = some cs ∧ Reads w 0 cs shs xs ∧ y.cells = xs ∧ (bif b then y = .agg xs else xs = [y]) := by
  intro i
  by_cases hi : i < len
  ·obtain ⟨cs, xs, h1, h2⟩ := h i hi
   have hl := hasL_len h2.has
   cases b with
   | true => exact ⟨.agg xs, fun _ => ⟨cs, xs, h1, h2, rfl, rfl⟩⟩
   | false =>
    have hk1 : k = 1 := by
     rcases hb with hb | hb
     ·cases hb
     ·exact hb
    match xs, h2, hl with
    | [x], h2, _ =>
     have := (h2.sc x (by simp)).1
     refine ⟨x, fun _ => ⟨cs, [x], h1, h2, ?_, rfl⟩⟩
     cases x <;> first | rfl | simp [V.one] at this
    | [], _, hl => simp at hl; omega
    | _ :: _ :: _, _, hl => simp at hl; omega
  ·exact ⟨.any, fun h => absurd h hi⟩
 obtain ⟨pick, sp⟩ : ∃ pick : Nat → V, ∀ i, i < len → ∃ cs xs, w.cells? base ((⟨bl, o, none⟩ : Addr).add (i * k)) k = some cs ∧ Reads w 0 cs shs xs ∧ (pick i).cells = xs ∧ (bif b then pick i = .agg xs else xs = [pick i]) :=
  ⟨fun i => (sp' i).choose, fun i => (sp' i).choose_spec⟩
 have hcc : ∀ (i j : Nat) (x c : V), ((List.range len).map pick)[i]? = some x → x.cells[j]? = some c → i < len ∧ j < k ∧ o + i * k + j < cur.size ∧ Rd (Old w) w (cur.getD (o + i * k + j) undef) c := by
  intro i j x c hx hc
  rw [List.getElem?_map] at hx
  have hi : i < len := by
   cases hr : (List.range len)[i]? with
   | none => rw [hr] at hx; cases hx
   | some z => have := (List.getElem?_eq_some_iff.1 hr).1; simpa using this
  rw [List.getElem?_range hi] at hx
  simp at hx; subst hx
  obtain ⟨cs, xs, h1, h2, h3, _⟩ := sp i hi
  rw [h3] at hc
  have hj : j < k := by rw [← hks, ← hasL_len h2.has]; exact (List.getElem?_eq_some_iff.1 hc).1
  obtain ⟨_, hlen, hcell⟩ := World.cells?_some h1
  have := hcell j hj
  have e1 : ((⟨bl, o, none⟩ : Addr).add (i * k)).add j = ⟨bl, o + i * k + j, none⟩ := by rw [Addr.add_lit, Addr.add_lit]
  rw [e1] at this
  have hs : cs[j]? = some cs[j] := List.getElem?_eq_getElem (by omega)
  rw [hs] at this
  simp only [World.cell?, hh, Option.isSome_none, Bool.false_eq_true, if_false] at this
  have hlt := (Array.getElem?_eq_some_iff.1 this).1
  refine ⟨hi, hj, hlt, ?_⟩
  have hr := h2.rd j c hc
  rw [Nat.zero_add] at hr
  have e2 : cs.getD j undef = cs[j] := by simp [List.getD, hs]
  have e3 : cur.getD (o + i * k + j) undef = cs[j] := by simp [Array.getD_eq_getD_getElem?, this]
  rw [e2] at hr
  rw [e3]; exact hr
 have hmem : ∀ y ∈ (List.range len).map pick, ∃ i, i < len ∧ y = pick i := by
  intro y hy
  obtain ⟨i, hi, rfl⟩ := List.mem_map.1 hy
  exact ⟨i, by simpa using hi, rfl⟩
 refine ⟨(List.range len).map pick, ⟨_, rfl, fun y hy => ?_⟩, .sl bl o len cap k cur e fz _ hsz hh (by simp) (by omega) hl (.inr ?_) (fun y hy => ?_) fun i j x c hx hc => (hcc i j x c hx hc).2.2.2⟩
 ·obtain ⟨i, hi, rfl⟩ := hmem y hy
  obtain ⟨cs, xs, h1, h2, h3, h4⟩ := sp i hi
  cases b with
  | true => exact ⟨xs, h4, h2.has⟩
  | false => simp only [cond_false] at h4 ⊢; rw [← h4]; exact h2.has
 · -- the row is long enough
  obtain ⟨cs, xs, h1, h2, h3, _⟩ := sp (len - 1) (by omega)
  have hxl := hasL_len h2.has
  have hlast : (pick (len - 1)).cells[k - 1]? = some ((pick (len - 1)).cells[k - 1]'(by rw [h3, hxl, hks]; omega)) := List.getElem?_eq_getElem _
  have := hcc (len - 1) (k - 1) (pick (len - 1)) _ (by rw [List.getElem?_map, List.getElem?_range (by omega)]; rfl) hlast
  have e1 : (len - 1) * k + k = len * k := by
   rw [← Nat.succ_mul]; congr 1; omega
  omega
 ·obtain ⟨i, hi, rfl⟩ := hmem y hy
  obtain ⟨cs, xs, h1, h2, h3, h4⟩ := sp i hi
  refine ⟨by rw [h3, hasL_len h2.has, hks], fun c hc => (h2.sc c (by rw [← h3]; exact hc)).1, ?_⟩
  cases b with
  | true => simp only [cond_true] at h4; rw [h4]; simp only [V.sealed, List.all_eq_true]; exact fun c hc => (h2.sc c hc).2
  | false =>
   simp only [cond_false] at h4
   have := (h2.sc (pick i) (by rw [h4]; simp))
   have hs := this.2
   generalize pick i = z at hs this
   cases z <;> first | exact hs | simp [V.one] at this
theorem trod_sh : ∀ (n : Nat), (∀ (fuel : Nat) (t : TypeId) (cs : List Value) (x : DataW H × List MemPlace) (b : Bool) (shs : List Sh), shT P n t = some (b, shs) → DataW.trod enc P w base sp held fuel t cs = some x → ∃ xs, Reads w 0 cs shs xs ∧ cs.length = shs.length) ∧
  (∀ (fuel off : Nat) (fs : List Field) (cs : List Value) (shs : List Sh), shFs P n off fs = some shs → (∀ f ∈ fs, ∃ x, DataW.trod enc P w base sp held fuel f.type ((cs.drop f.offset).take (P.cellsOf f.type)) = some x) → ∃ xs, Reads w off cs shs xs)
 | 0 => ⟨fun _ _ _ _ _ _ h => by simp [shT] at h, fun _ _ _ _ _ h => by simp [shFs] at h⟩
 | n + 1 => by
  obtain ⟨ih1, ih2⟩ := trod_sh n
  refine ⟨fun fuel t cs x b shs h ht => ?_, fun fuel off fs cs shs h ht => ?_⟩
  ·simp only [shT] at h
   split at h
   ·rename_i hu
    cases h
    obtain ⟨v, rfl, rfl⟩ := DataW.trod_bool hu ht
    exact ⟨[.bool v], ⟨⟨⟨v, rfl⟩, trivial⟩, fun i x hx => (by cases i <;> simp at hx; subst hx; exact .bool v), fun x hx => by simp at hx; subst hx; exact ⟨rfl, rfl⟩⟩, rfl⟩
   ·rename_i k hu
    cases h
    obtain ⟨v, rfl, rfl, hw⟩ := DataW.trod_int hu ht
    have hr := wf_rng hw
    exact ⟨[.int k v], ⟨⟨⟨v, rfl, hr⟩, trivial⟩, fun i x hx => (by cases i <;> simp at hx; subst hx; exact .int k v (rng_iff.2 hr)), fun x hx => by simp at hx; subst hx; exact ⟨rfl, rfl⟩⟩, rfl⟩
   ·rename_i hu
    cases h
    obtain ⟨s, rfl, rfl, hs⟩ := DataW.trod_string hu ht
    exact ⟨[.str s.data.toList], ⟨⟨⟨_, rfl⟩, trivial⟩, fun i x hx => (by cases i <;> simp at hx; subst hx; exact .str s hs), fun x hx => by simp at hx; subst hx; exact ⟨rfl, rfl⟩⟩, rfl⟩
   ·rename_i e hu
    split at h
    ·rename_i b' cs' he
     cases hc : (Nat.beq (P.cellsOf e) cs'.length && Nat.blt 0 cs'.length && (b' || Nat.beq cs'.length 1)) with
     | false => rw [hc] at h; cases h
     | true =>
      rw [hc] at h; cases h
      simp only [Bool.and_eq_true, Bool.or_eq_true] at hc
      have hce := Nat.eq_of_beq_eq_true hc.1.1
      have hpos : 0 < cs'.length := by have := hc.1.2; simp [Nat.blt] at this; omega
      rcases DataW.trod_slice hu ht with ⟨rfl, _⟩ | ⟨a, len, cap, elems, rest, m, _, rfl, _, _, hl, hm, hel, hall, _⟩
      ·exact ⟨[.sl []], ⟨⟨⟨[], rfl, fun y hy => by cases hy⟩, trivial⟩, fun i x hx => (by cases i <;> simp at hx; subst hx; exact .nilsl), fun x hx => by simp at hx; subst hx; exact ⟨rfl, rfl⟩⟩, rfl⟩
      ·obtain ⟨ys, h1, h2⟩ := sl_reads (w := w) (base := base) (a := a) (len := len) (cap := cap) (k := P.cellsOf e) (b := b') (shs := cs') (by omega) hce.symm (by rcases hc.2 with h | h; exact .inl h; exact .inr (by rw [hce]; exact Nat.eq_of_beq_eq_true h)) hl hm (fun i hi => by
        have := hall i hi
        have hs : elems[i]? = some elems[i] := List.getElem?_eq_getElem (by omega)
        rw [hs] at this
        obtain ⟨cs, h3, h4⟩ := Option.bind_eq_some_iff.1 this
        obtain ⟨xs, h5, _⟩ := ih1 _ _ _ _ _ _ he h4
        exact ⟨cs, xs, h3, h5⟩)
       exact ⟨[.sl ys], ⟨⟨h1, trivial⟩, fun i x hx => (by cases i <;> simp at hx; subst hx; exact h2), fun x hx => by simp at hx; subst hx; exact ⟨rfl, rfl⟩⟩, rfl⟩
    ·cases h
   ·rename_i fs hu
    split at h
    ·rename_i cs' hf
     cases hc : Nat.beq (P.cellsOf t) cs'.length with
     | false => rw [hc] at h; cases h
     | true =>
      rw [hc] at h
      simp only [cond_true, Option.some.injEq, Prod.mk.injEq] at h
      obtain ⟨_, rfl⟩ := h
      obtain ⟨xs, m, _, _, hl, hxl, hall⟩ := DataW.trod_struct hu ht
      obtain ⟨ys, hy⟩ := ih2 m 0 fs.toList cs cs' hf (fun f hfm => by
       obtain ⟨i, hi⟩ := List.mem_iff_getElem?.1 hfm
       have hi' : fs[i]? = some f := by simpa using hi
       have := hall i f hi'
       have hlt : i < xs.length := by rw [hxl]; exact (Array.getElem?_eq_some_iff.1 hi').1
       rw [List.getElem?_eq_getElem hlt] at this
       exact ⟨_, this⟩)
      exact ⟨ys, hy, by rw [hl]; exact Nat.eq_of_beq_eq_true hc⟩
    ·cases h
   ·cases h
  ·cases fs with
   | nil => simp [shFs] at h; subst h; exact ⟨[], trivial, fun i x hx => by simp at hx, fun x hx => by cases hx⟩
   | cons f r =>
    simp only [shFs] at h
    split at h
    ·rename_i b' cs' he
     cases hc : (Nat.beq f.offset off && Nat.beq (P.cellsOf f.type) cs'.length) with
     | false => rw [hc] at h; cases h
     | true =>
      rw [hc] at h
      simp only [cond_true] at h
      simp only [Bool.and_eq_true] at hc
      have ho := Nat.eq_of_beq_eq_true hc.1
      have hce := Nat.eq_of_beq_eq_true hc.2
      split at h
      ·rename_i q hq
       cases h
       obtain ⟨x, hx⟩ := ht f (by simp)
       obtain ⟨xs, h1, hxl⟩ := ih1 _ _ _ _ _ _ he hx
       obtain ⟨ys, h2⟩ := ih2 fuel _ r cs q hq fun f' hf' => ht f' (by simp [hf'])
       have hlx := hasL_len h1.has
       refine ⟨xs ++ ys, hasL_append h1.has h2.has, fun i z hz => ?_, fun z hz => ?_⟩
       ·by_cases hi : i < xs.length
        ·rw [List.getElem?_append_left hi] at hz
         have := h1.rd i z hz
         rw [Nat.zero_add] at this
         have e1 : ((cs.drop f.offset).take (P.cellsOf f.type)).getD i undef = cs.getD (off + i) undef := by
          have hi' : i < P.cellsOf f.type := by omega
          simp [List.getD, List.getElem?_take, hi', ho]
         rw [e1] at this; exact this
        ·rw [List.getElem?_append_right (by omega)] at hz
         have := h2.rd (i - xs.length) z hz
         rw [← hlx] at this
         rw [show off + i = off + xs.length + (i - xs.length) by omega]
         exact this
       ·rcases List.mem_append.1 hz with hz | hz
        ·exact h1.sc z hz
        ·exact h2.sc z hz
      ·cases h
    ·cases h
end
end Go.Ab
