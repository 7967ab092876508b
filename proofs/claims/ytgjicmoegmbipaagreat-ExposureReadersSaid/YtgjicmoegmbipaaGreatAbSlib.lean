/- The abstract layer: slices.Insert ahead of the first element, slices.DeleteFunc of one number, at ints. -/
import Derived.Test.YtgjicmoegmbipaaGreatAbRows
import Derived.Lib.Overlaps
import Derived.Shelf.SlicesE.DeleteFunc
set_option linter.all false
set_option linter.unusedVariables false
namespace Go.Ab
open Go.RowKit
section
variable {P : Program}
theorem heap_push_of {w w' : World} {B : Obj} (h1 : w'.heap.size = w.heap.size + 1) (h2 : ∀ b, b < w.heap.size → w'.heap[b]? = w.heap[b]?) (h3 : w'.heap[w.heap.size]? = some B) : w'.heap = w.heap.push B := by
 apply Array.ext_getElem?
 intro i
 rw [Array.getElem?_push]
 by_cases hi : i = w.heap.size
 ·subst hi; rw [if_pos rfl, h3]
 ·rw [if_neg hi]
  by_cases hlt : i < w.heap.size
  ·exact h2 i hlt
  ·rw [Array.getElem?_eq_none (by omega), Array.getElem?_eq_none (by omega)]
theorem setCell_facts {b o : Nat} {v : Value} {w : World} {cur : Array Value} {e : TypeId} {fz : Nat × Nat} (h : w.heap[b]? = some (.cells cur e fz)) :
  (w.setCell ⟨b, o, none⟩ v).os = w.os ∧ (w.setCell ⟨b, o, none⟩ v).tape = w.tape ∧ (w.setCell ⟨b, o, none⟩ v).output = w.output ∧ (w.setCell ⟨b, o, none⟩ v).heap.size = w.heap.size ∧ (∀ k, k ≠ b → (w.setCell ⟨b, o, none⟩ v).heap[k]? = w.heap[k]?) ∧
  (w.setCell ⟨b, o, none⟩ v).heap[b]? = some (.cells (cur.setIfInBounds o v) e fz) := by
 refine ⟨rfl, rfl, rfl, ?_, fun k hk => ?_, ?_⟩
 ·rw [Go.Sort.setCell_eq]; simp [Go.Sort.mapBlock]
 ·rw [Go.Sort.setCell_eq]; simp [Go.Sort.mapBlock, Array.getElem?_modify, Ne.symm hk]
 ·rw [Go.Sort.setCell_eq]; simp [Go.Sort.mapBlock, Array.getElem?_modify, h, Go.Sort.onCells]
theorem arr3 {vals : Array Value} (h : vals.size = 3) : vals = #[vals.getD 0 undef, vals.getD 1 undef, vals.getD 2 undef] := by
 apply Array.ext
 ·simp [h]
 ·intro i h1 h2
  have : i = 0 ∨ i = 1 ∨ i = 2 := by omega
  rcases this with rfl | rfl | rfl <;> simp [Array.getD_eq_getD_getElem?, h1]
theorem arr2' {vals : Array Value} (h : vals.size = 2) : vals = #[vals.getD 0 undef, vals.getD 1 undef] := by
 apply Array.ext
 ·simp [h]
 ·intro i h1 h2
  have : i = 0 ∨ i = 1 := by omega
  rcases this with rfl | rfl <;> simp [Array.getD_eq_getD_getElem?, h1]
theorem row_intsN {g : Gh} {w : World} {xs : List Int} {id : Nat} {t : Option TypeId} (hO : OR g w id (.arr 1 (xs.map (V.int .i64)) t)) (hn : ¬ g.nil id) :
  ∃ (cur : Array Value) (e : TypeId) (fz : Nat × Nat), w.heap[g.ρ id]? = some (.cells cur e fz) ∧ cur.size = g.base id + g.cap id ∧ g.base id + g.cap id ≤ maxLen ∧ xs.length ≤ g.cap id ∧ unfrozen fz cur.size ∧ tyOK t e fz ∧ (∀ j, j < xs.length → cur[g.base id + j]? = some (.int .i64 (xs.getD j 0))) ∧ ∀ x ∈ xs, inR .i64 x := by
 rcases hO with ⟨h, _⟩ | ⟨_, ha⟩
 ·exact absurd h hn
 obtain ⟨cur, e, fz, k1, k2, k3, k4⟩ := ha.row
 have hlen := ha.len
 simp only [List.length_map] at hlen
 have hrd : ∀ j, (hj : j < xs.length) → cur.getD (g.base id + j) undef = .int .i64 xs[j] ∧ inR .i64 xs[j] := fun j hj => by
  have := k4 j 0 (.int .i64 xs[j]) (.int .i64 xs[j]) (by simp [hj]) rfl
  have h2 : Rd g.S w (cur.getD (g.base id + j) undef) (.int .i64 xs[j]) := by simpa using this
  exact (VR.rd (g := g) h2).int_inv
 refine ⟨cur, e, fz, k1, by rw [k2]; omega, ha.big, hlen, k3.1, k3.2, fun j hj => ?_, fun x hx => ?_⟩
 ·have := (hrd j hj).1
  have hlt : g.base id + j < cur.size := by rw [k2]; omega
  rw [Array.getD_eq_getD_getElem?, Array.getElem?_eq_getElem hlt] at this
  rw [Array.getElem?_eq_getElem hlt]
  simp at this
  simp [this, hj]
 ·obtain ⟨j, hj, rfl⟩ := List.getElem_of_mem hx
  exact (hrd j hj).2
theorem acall_insertI {f : Nat} {te : TypeId} (hc : callable P f = true)
  (hs : ∀ (b off n c vb voff vc : Nat) (cs vs : List Value) (w : World), 0 < n → n + 1 ≤ c → c ≤ 9223372036854775807 → vb ≠ b → cs.length = n → vs.length = 1 →
   (∀ j v, cs[j]? = some v → w.cell? ⟨b, off + j, none⟩ = some v) → (∀ j, j < n + 1 → (w.cell? ⟨b, off + j, none⟩).isSome = true) → (∀ j, j < n + 1 → w.frozen? ⟨b, off + j, none⟩ = false) →
   (∀ j v, vs[j]? = some v → w.cell? ⟨vb, voff + j, none⟩ = some v) → (∀ v ∈ cs, v.oneCell' = true) → (∀ v ∈ vs, v.oneCell' = true) →
   ∀ (tA tB : TypeId) (kA kB : Nat), w.shape? vb = some (tA, kA) → w.shape? b = some (tB, kB) → kB ≠ 0 → w.frozen? ⟨vb, voff, none⟩ = false → w.frozen? ⟨vb, kA, none⟩ = false →
   Calls P f #[.slice (some ⟨b, off, none⟩) n c, .int .i64 (0 : Nat), .slice (some ⟨vb, voff, none⟩) 1 vc] w fun e w' =>
    e = .returned (.slice (some ⟨b, off, none⟩) (n + 1) c) ∧ w' = (w.drew.setCells b (off + (0 + 1)) (cs.drop 0)).setCells b (off + 0) vs)
  (hg : ∀ (b off n c vb voff vc : Nat) (cs vs : List Value) (w : World), 0 < n → n ≤ c → c < n + 1 → (n + 1) * 8 ≤ 140737488355328 → cs.length = n → vs.length = 1 →
   (∀ j v, cs[j]? = some v → w.cell? ⟨b, off + j, none⟩ = some v) → (∀ j v, vs[j]? = some v → w.cell? ⟨vb, voff + j, none⟩ = some v) → (∀ v ∈ cs, v.oneCell' = true) → (∀ v ∈ vs, v.oneCell' = true) →
   Calls P f #[.slice (some ⟨b, off, none⟩) n c, .int .i64 (0 : Nat), .slice (some ⟨vb, voff, none⟩) 1 vc] w fun e w' =>
    e = .returned (.slice (some ⟨w.heap.size, 0, none⟩) (n + 1) (grownCap w (n + 1) c te)) ∧
    w' = (((w.alloc (.cells ((cs.take 0).toArray ++ Builtin.zeroCells (Value.int .i64 0).cells (n + 1 - 0) ++ Builtin.zeroCells (Value.int .i64 0).cells (grownCap w (n + 1) c te - (n + 1))) te)).drew.setCells w.heap.size 0 vs).drew).setCells w.heap.size (0 + 1) (cs.drop 0))
  (xs : List Int) (v : Int) (hx : xs ≠ []) (hb : (xs.length + 1) * 8 ≤ 140737488355328) :
  ACall P f [.osl 1000 1 0 xs.length, .int .i64 0, .osl 1001 1 0 1] [(1000, .arr 1 (xs.map (V.int .i64))), (1001, .arr 1 [.int .i64 v] (some tyUV))]
   (fun r H' => r = .osl 1900 1 0 (xs.length + 1) ∧ H' = [(1001, .arr 1 [.int .i64 v] (some tyUV)), (1900, .arr 1 ((v :: xs).map (V.int .i64)))]) := by
 refine acall_step ⟨.osl 1900 1 0 (xs.length + 1), [1000], [(1900, .arr 1 ((v :: xs).map (V.int .i64)))]⟩ hc fun g w vals hH hsz hv => ?_
 have hf0 : find 1000 [(1000, Obj'.arr 1 (xs.map (V.int .i64))), (1001, .arr 1 [.int .i64 v] (some tyUV))] = some (.arr 1 (xs.map (V.int .i64))) := rfl
 have hf1 : find 1001 [(1000, Obj'.arr 1 (xs.map (V.int .i64))), (1001, .arr 1 [.int .i64 v] (some tyUV))] = some (.arr 1 ([v].map (V.int .i64)) (some tyUV)) := rfl
 have hO0 := hH.obj 1000 _ hf0
 have hO1 := hH.obj 1001 _ hf1
 have v0 := hv 0 _ rfl
 have v1 := (hv 1 _ rfl).int_inv.1
 have v2 := hv 2 _ rfl
 have hlen : 0 < xs.length := List.length_pos_iff.2 hx
 rw [arr3 hsz, v1]
 rcases v0.osl_inv with ⟨_, _, e⟩ | ⟨hn0, o, cc, ev, ho, hcap, hlc, hmx⟩
 ·omega
 rcases v2.osl_inv with ⟨_, _, e⟩ | ⟨hn1, o1, c1, ev1, ho1, hcap1, hlc1, hmx1⟩
 ·omega
 obtain rfl : o = g.base 1000 := by
  rcases ho with h | h
  ·omega
  ·simpa using h
 obtain rfl : o1 = g.base 1001 := by
  rcases ho1 with h | h
  ·omega
  ·simpa using h
 rw [ev, ev1]
 obtain ⟨cur, e, fz, k1, k2, k3, k4, k5, _, k6, k7⟩ := row_intsN hO0 hn0
 obtain ⟨cur1, e1, fz1, q1, q2, q3, q4, q5, q6, q7, q8⟩ := row_intsN hO1 hn1
 have hUV : fz1.1 = fz1.2 := q6
 have hne : g.ρ 1001 ≠ g.ρ 1000 := fun h => by have := hH.inj _ _ _ _ hf1 hf0 hn1 hn0 h; omega
 have hblk := hO0.block hn0
 have hmax : maxLen ≤ 9223372036854775807 := by unfold maxLen; decide
 have hinr : ∀ x ∈ v :: xs, inR .i64 x := fun x hx => by
  rcases List.mem_cons.1 hx with rfl | hx
  ·exact q8 _ (by simp)
  ·exact k7 x hx
 have hcs : ∀ j u, (xs.map (Value.int .i64))[j]? = some u → w.cell? ⟨g.ρ 1000, g.base 1000 + j, none⟩ = some u := fun j u hu => by
  rw [List.getElem?_map] at hu
  have hj : j < xs.length := by
   cases h : xs[j]? with
   | none => rw [h] at hu; cases hu
   | some z => exact (List.getElem?_eq_some_iff.1 h).1
  simp only [World.cell?, k1]
  rw [k6 j hj, ← hu]
  simp [hj]
 have hvs : ∀ j u, [Value.int .i64 v][j]? = some u → w.cell? ⟨g.ρ 1001, g.base 1001 + j, none⟩ = some u := fun j u hu => by
  cases j with
  | succ j => simp at hu
  | zero =>
   simp at hu; subst hu
   simp only [World.cell?, q1]
   rw [q7 0 (by simp)]; rfl
 have h1c : ∀ u ∈ xs.map (Value.int .i64), u.oneCell' = true := fun u hu => by
  obtain ⟨z, _, rfl⟩ := List.mem_map.1 hu
  rfl
 have h1v : ∀ u ∈ [Value.int .i64 v], u.oneCell' = true := fun u hu => by simp at hu; subst hu; rfl
 have hrow : ∀ (c2 : Array Value) (bs : Nat), (∀ j, j < xs.length + 1 → c2[bs + j]? = some (.int .i64 ((v :: xs).getD j 0))) → ∀ (w2 : World) (i j : Nat) (x c : V), ((v :: xs).map (V.int .i64))[i]? = some x → x.cells[j]? = some c → Rd g.S w2 (c2.getD ((bs + i) * 1 + j) undef) c := fun c2 bs h w2 i j x c hi hj => by
  rw [List.getElem?_map] at hi
  cases hz : (v :: xs)[i]? with
  | none => rw [hz] at hi; cases hi
  | some z =>
   rw [hz] at hi
   simp only [Option.map_some, Option.some.injEq] at hi
   subst hi
   have hlt := (List.getElem?_eq_some_iff.1 hz).1
   cases j with
   | succ j => simp [V.cells] at hj
   | zero =>
    simp [V.cells] at hj
    subst hj
    have := h i (by simpa using hlt)
    rw [Nat.mul_one, Nat.add_zero, Array.getD_eq_getD_getElem?, this, List.getD_eq_getElem?_getD, hz]
    exact .int _ _ (hinr z (List.mem_of_getElem? hz))
 have helem : ∀ x ∈ (v :: xs).map (V.int .i64), x.cells.length = 1 ∧ (∀ c ∈ x.cells, c.one = true) ∧ x.sealed = true := ints_elem
 by_cases hroom : xs.length + 1 ≤ cc
 ·refine (hs (g.ρ 1000) (g.base 1000) xs.length cc (g.ρ 1001) (g.base 1001) c1 (xs.map (Value.int .i64)) [.int .i64 v] w hlen hroom (by omega) hne (by simp) rfl hcs (fun j hj => ?_) (fun j hj => ?_) hvs h1c h1v e1 e cur1.size cur.size (by simp [World.shape?, q1]) (by simp [World.shape?, k1]) (by omega) ?_ ?_).mono ?_
  ·simp only [World.cell?, k1]
   rw [Array.getElem?_eq_getElem (by omega)]; rfl
  ·simp only [World.frozen?, k1]
   exact k5.at (by omega)
  ·simp only [World.frozen?, q1, Bool.and_eq_false_iff, decide_eq_false_iff_not]; omega
  ·simp only [World.frozen?, q1, Bool.and_eq_false_iff, decide_eq_false_iff_not]; omega
  rintro en w' ⟨rfl, rfl⟩
  obtain ⟨a1, a2, a3, a4, a5, cur', a6, a7, a8, a9⟩ := setCells_facts (b := g.ρ 1000) (xs.map (Value.int .i64)) (g.base 1000 + 1) w.drew cur (by exact k1) (by simp; omega)
  obtain ⟨b1, b2, b3, b4, b5, b6⟩ := setCell_facts (o := g.base 1000) (v := .int .i64 v) a6
  have he : ((w.drew.setCells (g.ρ 1000) (g.base 1000 + (0 + 1)) ((xs.map (Value.int .i64)).drop 0)).setCells (g.ρ 1000) (g.base 1000 + 0) [.int .i64 v]) = (w.drew.setCells (g.ρ 1000) (g.base 1000 + 1) (xs.map (Value.int .i64))).setCell ⟨g.ρ 1000, g.base 1000, none⟩ (.int .i64 v) := rfl
  rw [he]
  generalize (w.drew.setCells (g.ρ 1000) (g.base 1000 + 1) (xs.map (Value.int .i64))).setCell ⟨g.ρ 1000, g.base 1000, none⟩ (.int .i64 v) = w2 at *
  have e1' : (g.set 1900 (g.ρ 1000) (g.base 1000) (g.cap 1000)).ρ 1900 = g.ρ 1000 := by simp [Gh.set]
  have e2' : (g.set 1900 (g.ρ 1000) (g.base 1000) (g.cap 1000)).base 1900 = g.base 1000 := by simp [Gh.set]
  have e3' : (g.set 1900 (g.ρ 1000) (g.base 1000) (g.cap 1000)).cap 1900 = g.cap 1000 := by simp [Gh.set]
  have e4' : ¬ (g.set 1900 (g.ρ 1000) (g.base 1000) (g.cap 1000)).nil 1900 := by simp [Gh.set]
  refine ⟨_, g.set 1900 (g.ρ 1000) (g.base 1000) (g.cap 1000), rfl, StepOK.pass _ 1900 1000 (g.base 1000) (g.cap 1000) _ _ hH hf0 hn0 (b1.trans a1) (b2.trans a2) (b3.trans a3) (b4.trans a4) (fun b hb => (b5 b hb).trans (a5 b hb)) ?_, ?_, ?_⟩
  ·refine .inr ⟨e4', ?_⟩
   rw [e1', e2', e3']
   refine ⟨by omega, ⟨cur'.setIfInBounds (g.base 1000) (.int .i64 v), e, fz, b6, by simp; omega, ⟨by simp [a7]; exact k5, trivial⟩, ?_⟩, by simp; omega, by omega, helem⟩
   refine hrow _ _ (fun j hj => ?_) _
   cases j with
   | zero => rw [Nat.add_zero, Array.getElem?_setIfInBounds_self_of_lt (by omega)]; rfl
   | succ j =>
    rw [Array.getElem?_setIfInBounds_ne (by omega)]
    have := a8 j (.int .i64 (xs.getD j 0)) (by rw [List.getElem?_map, List.getD_eq_getElem?_getD, List.getElem?_eq_getElem (by omega)]; rfl)
    rw [show g.base 1000 + (j + 1) = g.base 1000 + 1 + j by omega, this]; rfl
  ·intro id o' ho'
   simp only [List.mem_singleton, Prod.mk.injEq] at ho'
   obtain ⟨rfl, rfl⟩ := ho'
   refine .inr ⟨rfl, fun s x hx => by simp [find] at hx, fun n o' hn' _ => ?_⟩
   have := mem_of_find hn'
   simp only [List.mem_cons, Prod.mk.injEq, List.not_mem_nil, or_false] at this
   rcases this with ⟨_, rfl⟩ | ⟨_, rfl⟩ <;> rfl
  ·have := VR.osl (g := g.set 1900 (g.ρ 1000) (g.base 1000) (g.cap 1000)) (w := w2) 1900 1 0 (xs.length + 1) (g.base 1000) cc e4' (.inr (by rw [e2']; simp)) (by rw [e3']; exact hcap) hroom hmx
   rw [e1'] at this
   exact this
 ·refine (hg (g.ρ 1000) (g.base 1000) xs.length cc (g.ρ 1001) (g.base 1001) c1 (xs.map (Value.int .i64)) [.int .i64 v] w hlen hlc (by omega) hb (by simp) rfl hcs hvs h1c h1v).mono ?_
  rintro en w' ⟨rfl, rfl⟩
  have hG := grownCap_ge w (xs.length + 1) cc te
  have hGm := grownCap_le_maxLen w (xs.length + 1) cc te (by unfold maxLen; omega)
  generalize grownCap w (xs.length + 1) cc te = G at hG hGm ⊢
  generalize hROW : (((xs.map (Value.int .i64)).take 0).toArray ++ Builtin.zeroCells (Value.int .i64 0).cells (xs.length + 1 - 0) ++ Builtin.zeroCells (Value.int .i64 0).cells (G - (xs.length + 1))) = ROW
  have hRs : ROW.size = G := by
   rw [← hROW]
   simp [Builtin.zeroCells, Value.cells]
   omega
  have hnew : (w.alloc (.cells ROW te)).drew.heap[w.heap.size]? = some (.cells ROW te (0, 0)) := World.alloc_heap_new w _
  obtain ⟨b1, b2, b3, b4, b5, b6⟩ := setCell_facts (o := 0) (v := .int .i64 v) hnew
  obtain ⟨a1, a2, a3, a4, a5, cur', a6, a7, a8, a9⟩ := setCells_facts (b := w.heap.size) (xs.map (Value.int .i64)) 1 (((w.alloc (.cells ROW te)).drew.setCell ⟨w.heap.size, 0, none⟩ (.int .i64 v)).drew) _ (by exact b6) (by simp; omega)
  have he : (((w.alloc (.cells ROW te)).drew.setCells w.heap.size 0 [.int .i64 v]).drew).setCells w.heap.size (0 + 1) ((xs.map (Value.int .i64)).drop 0) = (((w.alloc (.cells ROW te)).drew.setCell ⟨w.heap.size, 0, none⟩ (.int .i64 v)).drew).setCells w.heap.size 1 (xs.map (Value.int .i64)) := rfl
  rw [he]
  generalize (((w.alloc (.cells ROW te)).drew.setCell ⟨w.heap.size, 0, none⟩ (.int .i64 v)).drew).setCells w.heap.size 1 (xs.map (Value.int .i64)) = w2 at *
  have hsz2 : w2.heap.size = w.heap.size + 1 := by rw [a4]; exact b4.trans (by simp)
  have hold : ∀ b, b < w.heap.size → w2.heap[b]? = w.heap[b]? := fun b hb => (a5 b (by omega)).trans ((b5 b (by omega)).trans (Below.heap_alloc w _ b hb))
  have hpush : w2.heap = w.heap.push (.cells cur' te (0, 0)) := heap_push_of hsz2 hold a6
  have e1' : (g.set 1900 w.heap.size 0 G).ρ 1900 = w.heap.size := by simp [Gh.set]
  have e2' : (g.set 1900 w.heap.size 0 G).base 1900 = 0 := by simp [Gh.set]
  have e3' : (g.set 1900 w.heap.size 0 G).cap 1900 = G := by simp [Gh.set]
  have e4' : ¬ (g.set 1900 w.heap.size 0 G).nil 1900 := by simp [Gh.set]
  refine ⟨_, g.set 1900 w.heap.size 0 G, rfl, StepOK.allocDrop _ 1900 0 G _ [1000] (.cells cur' te (0, 0)) hH.lt (a1.trans b1) (a2.trans b2) (a3.trans b3) hpush ?_, ?_, ?_⟩
  ·refine .inr ⟨e4', ?_⟩
   rw [e1', e2', e3']
   have hc' : cur'.size = G := by rw [a7]; simp [hRs]
   refine ⟨by omega, ⟨cur', te, (0, 0), a6, by omega, ⟨unfrozen_zero _, trivial⟩, ?_⟩, by simp; omega, by omega, helem⟩
   refine hrow _ _ (fun j hj => ?_) _
   cases j with
   | zero => rw [a9 0 (by omega), Array.getElem?_setIfInBounds_self_of_lt (by omega)]; rfl
   | succ j =>
    have := a8 j (.int .i64 (xs.getD j 0)) (by rw [List.getElem?_map, List.getD_eq_getElem?_getD, List.getElem?_eq_getElem (by omega)]; rfl)
    rw [show 0 + (j + 1) = 1 + j by omega, this]; rfl
  ·intro id o' ho'
   simp only [List.mem_singleton, Prod.mk.injEq] at ho'
   obtain ⟨rfl, rfl⟩ := ho'
   refine .inr ⟨rfl, fun s x hx => by simp [find] at hx, fun n o' hn' _ => ?_⟩
   have := mem_of_find hn'
   simp only [List.mem_cons, Prod.mk.injEq, List.not_mem_nil, or_false] at this
   rcases this with ⟨_, rfl⟩ | ⟨_, rfl⟩ <;> rfl
  ·have := VR.osl (g := g.set 1900 w.heap.size 0 G) (w := w2) 1900 1 0 (xs.length + 1) 0 G e4' (.inr (by rw [e2'])) (by rw [e3']; omega) hG hGm
   rw [e1'] at this
   exact this
def insI (xs vs : List Int) : Option (List Int) := chk (decide (xs ≠ []) && decide (vs.length = 1) && decide ((xs.length + 1) * 8 ≤ 140737488355328)) (some (vs ++ xs))
theorem acall_deleteI {f gg : Nat} (hc : callable P f = true)
  (h1 : ∀ (blk off cap : Nat) (zs : List Int) (w : World) (B : Nat) (q : Int), B ≠ blk → B < w.heap.size → w.cell? ⟨B, 0, none⟩ = some (.int .i64 q) → Go.Sort.Holds (Value.int .i64) w blk off zs.toArray → zs.length ≤ 9223372036854775807 → zs.length ≤ cap →
   Calls P f #[.slice (some ⟨blk, off, none⟩) zs.length cap, .func (.func gg) #[] #[.pointer (some ⟨B, 0, none⟩)]] w fun e w' => e = .returned (.slice (some ⟨blk, off, none⟩) (zs.filter fun x => !decide (x = q)).length cap) ∧
    ∃ n, w' = Go.Sort.putRow (Value.int .i64) (Go.Sort.ahead w n) blk off ((zs.filter fun x => !decide (x = q)) ++ List.replicate (zs.length - (zs.filter fun x => !decide (x = q)).length) 0).toArray)
  (xs : List Int) (q : Int) (hx : xs ≠ []) :
  ACall P f [.osl 1000 1 0 xs.length, .fn (.func gg) [.ptr 1001 0]] [(1000, .arr 1 (xs.map (V.int .i64))), (1001, .cells [.int .i64 q])]
   (fun r H' => r = .osl 1000 1 0 (xs.filter fun x => !decide (x = q)).length ∧
    H' = [(1000, .arr 1 (((xs.filter fun x => !decide (x = q)) ++ List.replicate (xs.length - (xs.filter fun x => !decide (x = q)).length) 0).map (V.int .i64))), (1001, .cells [.int .i64 q])]) := by
 generalize hys : (xs.filter fun x => !decide (x = q)) ++ List.replicate (xs.length - (xs.filter fun x => !decide (x = q)).length) 0 = ys
 have hle : (xs.filter fun x => !decide (x = q)).length ≤ xs.length := List.length_filter_le _ _
 have hyl : ys.length = xs.length := by rw [← hys]; simp; omega
 refine acall_step ⟨.osl 1000 1 0 (xs.filter fun x => !decide (x = q)).length, [], [(1000, .arr 1 (ys.map (V.int .i64)))]⟩ hc fun g w vals hH hsz hv => ?_
 have hf0 : find 1000 [(1000, Obj'.arr 1 (xs.map (V.int .i64))), (1001, .cells [.int .i64 q])] = some (.arr 1 (xs.map (V.int .i64))) := rfl
 have hf1 : find 1001 [(1000, Obj'.arr 1 (xs.map (V.int .i64))), (1001, .cells [.int .i64 q])] = some (.cells [.int .i64 q]) := rfl
 have hO0 := hH.obj 1000 _ hf0
 have hO1 := hH.obj 1001 _ hf1
 have v0 := hv 0 _ rfl
 obtain ⟨lb, ev1, hlb, hlv⟩ := (hv 1 _ rfl).fn_inv
 have hptr := (hlv 0 _ rfl).ptr_inv
 have hlb' : lb = #[.pointer (some ⟨g.ρ 1001, 0, none⟩)] := by
  rw [← hptr]
  have : lb.size = 1 := hlb
  apply Array.ext
  ·simp [this]
  ·intro i h1 h2
   have : i = 0 := by omega
   subst this
   simp [Array.getD_eq_getD_getElem?, h1]
 subst hlb'
 have hlen : 0 < xs.length := List.length_pos_iff.2 hx
 rw [arr2' hsz, ev1]
 rcases v0.osl_inv with ⟨_, _, e⟩ | ⟨hn0, o, cc, ev, ho, hcap, hlc, hmx⟩
 ·omega
 obtain rfl : o = g.base 1000 := by
  rcases ho with h | h
  ·omega
  ·simpa using h
 rw [ev]
 obtain ⟨cur, e, fz, k1, k2, k3, k4, k5, _, k6, k7⟩ := row_intsN hO0 hn0
 obtain ⟨hn1, cur1, e1, fz1, q1, q2, _, q4⟩ := hO1
 have hne : g.ρ 1001 ≠ g.ρ 1000 := fun h => by have := hH.inj _ _ _ _ hf1 hf0 hn1 hn0 h; omega
 have hmax : maxLen ≤ 9223372036854775807 := by unfold maxLen; decide
 have hq := (q4 0 _ rfl).int_inv
 have hcell : w.cell? ⟨g.ρ 1001, 0, none⟩ = some (.int .i64 q) := by
  simp only [World.cell?, q1]
  have h2 : 0 < cur1.size := by rw [q2]; simp
  have := hq.1
  rw [Array.getD_eq_getD_getElem?, Array.getElem?_eq_getElem h2, Option.getD_some] at this
  rw [Array.getElem?_eq_getElem h2, this]; rfl
 have hB : g.ρ 1001 < w.heap.size := (Array.getElem?_eq_some_iff.1 q1).1
 have hHo : Go.Sort.Holds (Value.int .i64) w (g.ρ 1000) (g.base 1000) xs.toArray := fun j hj => by
  have hj' : j < xs.length := by simpa using hj
  refine ⟨?_, ?_⟩
  ·simp only [World.cell?, k1]
   rw [k6 j hj']
   simp [hj']
  ·simp only [World.frozen?, k1]
   exact k5.at (by omega)
 refine (h1 _ _ cc xs w (g.ρ 1001) q hne hB hcell hHo (by omega) hlc).mono ?_
 rw [hys]
 rintro en w' ⟨rfl, n, rfl⟩
 have hinr : ∀ y ∈ ys, inR .i64 y := fun y hy => by
  rw [← hys] at hy
  rcases List.mem_append.1 hy with h | h
  ·exact k7 y (List.mem_filter.1 h).1
  ·rw [(List.mem_replicate.1 h).2]; simp [inR, IntKind.min, IntKind.max, IntKind.signed, IntKind.bits]
 have hnew : (Go.Sort.putRow (Value.int .i64) (Go.Sort.ahead w n) (g.ρ 1000) (g.base 1000) ys.toArray).heap[g.ρ 1000]? = some (.cells (Go.Sort.putCells (Value.int .i64) (g.base 1000) ys.toArray cur) e fz) := by
  simp [Go.Sort.putRow, Go.Sort.mapBlock, Array.getElem?_modify, Go.Sort.ahead, k1, Go.Sort.onCells]
 refine ⟨_, g, rfl, StepOK.upd _ 1000 _ _ hH hf0 hn0 rfl rfl rfl (by simp [Go.Sort.putRow, Go.Sort.mapBlock, Go.Sort.ahead]) (fun b hb => by simp [Go.Sort.putRow, Go.Sort.mapBlock, Array.getElem?_modify, hb.symm, Go.Sort.ahead]) ?_, Fresh.upd _, ?_⟩
 ·refine .inr ⟨hn0, ⟨by omega, ⟨_, e, fz, hnew, by simp [Go.Sort.putCells]; omega, ⟨by simpa [Go.Sort.putCells] using k5, trivial⟩, fun i j x c hi hj => ?_⟩, by simp; omega, by omega, ints_elem⟩⟩
  rw [List.getElem?_map] at hi
  cases hz : ys[i]? with
  | none => rw [hz] at hi; cases hi
  | some z =>
   rw [hz] at hi
   simp only [Option.map_some, Option.some.injEq] at hi
   subst hi
   obtain ⟨hlt, hzz⟩ := List.getElem?_eq_some_iff.1 hz
   cases j with
   | succ j => simp [V.cells] at hj
   | zero =>
    simp [V.cells] at hj
    subst hj
    have hlt2 : g.base 1000 + i < cur.size := by omega
    have : (Go.Sort.putCells (Value.int .i64) (g.base 1000) ys.toArray cur).getD ((g.base 1000 + i) * 1 + 0) undef = .int .i64 z := by
     rw [Nat.mul_one, Nat.add_zero, Array.getD_eq_getD_getElem?]
     simp [Go.Sort.putCells, Array.getElem?_mapIdx, hlt2, hlt, hzz]
    rw [this]
    exact .int _ _ (hinr z (List.mem_of_getElem? hz))
 ·exact .osl 1000 1 0 _ _ cc hn0 (.inr (by simp)) hcap (by omega) hmx
def delI (xs : List Int) (q : Int) : Option (Nat × List Int) :=
 chk (decide (xs ≠ [])) (some ((xs.filter fun x => !decide (x = q)).length, (xs.filter fun x => !decide (x = q)) ++ List.replicate (xs.length - (xs.filter fun x => !decide (x = q)).length) 0))
theorem delI_inv {xs : List Int} {q : Int} {y : Nat × List Int} (h : delI xs q = some y) : xs ≠ [] ∧ y = ((xs.filter fun x => !decide (x = q)).length, (xs.filter fun x => !decide (x = q)) ++ List.replicate (xs.length - (xs.filter fun x => !decide (x = q)).length) 0) := by
 unfold delI at h
 by_cases c : xs = []
 ·simp [c, chk] at h
 ·rw [chk_true (decide_eq_true c)] at h
  exact ⟨c, (Option.some.inj h).symm⟩
theorem delI_len {xs : List Int} {q : Int} {y : Nat × List Int} (h : delI xs q = some y) : y.1 ≤ y.2.length ∧ y.2.length = xs.length := by
 obtain ⟨_, rfl⟩ := delI_inv h
 have := List.length_filter_le (fun x => !decide (x = q)) xs
 simp only [List.length_append, List.length_replicate]
 omega
theorem insI_inv {xs vs ys : List Int} (h : insI xs vs = some ys) : ∃ v, vs = [v] ∧ xs ≠ [] ∧ (xs.length + 1) * 8 ≤ 140737488355328 ∧ ys = v :: xs := by
 unfold insI at h
 by_cases c : (decide (xs ≠ []) && decide (vs.length = 1) && decide ((xs.length + 1) * 8 ≤ 140737488355328)) = true
 ·rw [chk_true c] at h
  simp only [Bool.and_eq_true, decide_eq_true_eq] at c
  obtain ⟨v, rfl⟩ := List.length_eq_one_iff.1 c.1.2
  exact ⟨v, rfl, c.1.1, c.2, (Option.some.inj h).symm⟩
 ·rw [Bool.not_eq_true] at c
  rw [c] at h; simp [chk] at h
theorem sl_rd {g : Gh} {w : World} {v : Value} {xs : List V} (h : VR g w v (.sl xs)) : Rd g.S w v (.sl xs) := by
 cases h with
 | rd h => exact h
theorem acall_repeatI {f : Nat} {te : TypeId} (hc : callable P f = true)
  (h1 : ∀ (n b o vc : Nat) (v : Int) (w : World), 8 * n ≤ 140737488355328 → w.cell? ⟨b, o, none⟩ = some (.int .i64 v) →
   Calls P f #[.slice (some ⟨b, o, none⟩) 1 vc, .int .i64 n] w fun e w' => e = .returned (.slice (some ⟨w.heap.size, 0, none⟩) n n) ∧ w.Since w.heap.size w' ∧ w'.heap.size = w.heap.size + 1 ∧ w'.rowIs w.heap.size te n (fun _ => .int .i64 v))
  (v : Int) (n : Nat) (hn : 8 * n ≤ 140737488355328) :
  ACall P f [.sl [.int .i64 v], .int .i64 n] [] (fun r H' => r = .osl 1900 1 0 n ∧ H' = [(1900, .arr 1 ((List.replicate n v).map (V.int .i64)))]) := by
 refine acall_step ⟨.osl 1900 1 0 n, [], [(1900, .arr 1 ((List.replicate n v).map (V.int .i64)))]⟩ hc fun g w vals hH hsz hv => ?_
 have v1 := (hv 1 _ rfl).int_inv.1
 have hrd : Rd g.S w (vals.getD 0 undef) (.sl [.int .i64 v]) := sl_rd (hv 0 _ rfl)
 rw [arr2' hsz, v1]
 generalize vals.getD 0 undef = v0 at hrd
 cases hrd with
 | sl bb o len cap k cur e fz xs hS hg hl hm hc' hb hk hr =>
  obtain rfl : len = 1 := by simpa using hl.symm
  have hk1 : k = 1 := by have := (hk _ (List.mem_singleton.2 rfl)).1; simpa [V.cells] using this.symm
  subst hk1
  have h0 := hr 0 0 (.int .i64 v) (.int .i64 v) rfl rfl
  have hint := (VR.rd (g := g) h0).int_inv
  have hlt : o < cur.size := by omega
  have hcell : w.cell? ⟨bb, o, none⟩ = some (.int .i64 v) := by
   simp only [World.cell?, hg]
   have := hint.1
   simp only [Nat.zero_mul, Nat.add_zero] at this
   rw [Array.getD_eq_getD_getElem?, Array.getElem?_eq_getElem hlt, Option.getD_some] at this
   rw [Array.getElem?_eq_getElem hlt, this]; rfl
  refine (h1 n bb o cap v w hn hcell).mono ?_
  rintro en w' ⟨rfl, hs, hsz', c, hb', hcs, hcell'⟩
  have hpush : w'.heap = w.heap.push (.cells c te (0, 0)) := heap_push_of hsz' (fun b hb => hs.block b hb) hb'
  have hmax : n ≤ maxLen := by unfold maxLen; omega
  have e1' : (g.set 1900 w.heap.size 0 n).ρ 1900 = w.heap.size := by simp [Gh.set]
  have e2' : (g.set 1900 w.heap.size 0 n).base 1900 = 0 := by simp [Gh.set]
  have e3' : (g.set 1900 w.heap.size 0 n).cap 1900 = n := by simp [Gh.set]
  have e4' : ¬ (g.set 1900 w.heap.size 0 n).nil 1900 := by simp [Gh.set]
  refine ⟨_, g.set 1900 w.heap.size 0 n, rfl, StepOK.allocDrop _ 1900 0 n _ [] (.cells c te (0, 0)) hH.lt hs.os hs.tape hs.output hpush ?_, ?_, ?_⟩
  ·refine .inr ⟨e4', ?_⟩
   rw [e1', e2', e3']
   refine ⟨by omega, ⟨c, te, (0, 0), hb', by omega, ⟨unfrozen_zero _, trivial⟩, fun i j x y hi hj => ?_⟩, by simp, by omega, ints_elem⟩
   rw [List.getElem?_map, List.getElem?_replicate] at hi
   split at hi
   ·simp only [Option.map_some, Option.some.injEq] at hi
    subst hi
    cases j with
    | succ j => simp [V.cells] at hj
    | zero =>
     simp [V.cells] at hj
     subst hj
     have := hcell' i (by assumption)
     rw [Nat.mul_one, Nat.add_zero, Nat.zero_add, Array.getD_eq_getD_getElem?, this]
     exact .int _ _ hint.2
   ·cases hi
  ·intro id o' ho'
   simp only [List.mem_singleton, Prod.mk.injEq] at ho'
   obtain ⟨rfl, rfl⟩ := ho'
   exact .inr ⟨rfl, fun s x hx => by simp [find] at hx, fun n o' hn' _ => by simp [find] at hn'⟩
  ·have := VR.osl (g := g.set 1900 w.heap.size 0 n) (w := w') 1900 1 0 n 0 n e4' (.inr (by rw [e2'])) (by rw [e3']; omega) (Nat.le_refl _) hmax
   rw [e1'] at this
   exact this
def repI (vs : List Int) (n : Int) : Option (List Int) := chk (decide (vs.length = 1) && decide (0 ≤ n) && decide (8 * n ≤ 140737488355328)) (some (List.replicate n.toNat (vs.getD 0 0)))
theorem repI_inv {vs ys : List Int} {n : Int} (h : repI vs n = some ys) : ∃ (v : Int) (m : Nat), vs = [v] ∧ n = m ∧ 8 * m ≤ 140737488355328 ∧ ys = List.replicate m v := by
 unfold repI at h
 by_cases c : (decide (vs.length = 1) && decide (0 ≤ n) && decide (8 * n ≤ 140737488355328)) = true
 ·rw [chk_true c] at h
  simp only [Bool.and_eq_true, decide_eq_true_eq] at c
  obtain ⟨v, rfl⟩ := List.length_eq_one_iff.1 c.1.1
  exact ⟨v, n.toNat, rfl, by omega, by omega, (Option.some.inj h).symm⟩
 ·rw [Bool.not_eq_true] at c
  rw [c] at h; simp [chk] at h
end
end Go.Ab
