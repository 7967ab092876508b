/- The abstract layer, part 19: functions of Go's library, by contracts that speak of worlds. -/
import Derived.Test.YtgjicmoegmbipaaGreatAbMach
import Derived.Lib.Builder
import Derived.Lib.UnsafeStr
import Derived.Sort.Grow
import Derived.Deep.Draws
import Derived.Shelf.RegionOpenPlain
set_option linter.all false
set_option linter.unusedVariables false
namespace Go.Ab
open Go.RowKit Go.Sort
variable {P : Program}
theorem cells_bool {b : Bool} : (V.bool b).cells = [.bool b] := rfl
theorem cells_int {k : IntKind} {n : Int} : (V.int k n).cells = [.int k n] := rfl
theorem cells_str {s : List UInt8} : (V.str s).cells = [.str s] := rfl
theorem cells_nils : V.nils.cells = [.nils] := rfl
theorem cells_nilp : V.nilp.cells = [.nilp] := rfl
theorem cells_nilm : V.nilm.cells = [.nilm] := rfl
theorem cells_nilf : V.nilf.cells = [.nilf] := rfl
theorem cells_nili : V.nili.cells = [.nili] := rfl
theorem cells_agg {cs : List V} : (V.agg cs).cells = cs := rfl
theorem cells_sl {xs : List V} : (V.sl xs).cells = [.sl xs] := rfl
theorem cells_ptr {a b : Nat} : (V.ptr a b).cells = [.ptr a b] := rfl
theorem cells_eptr {x : V} {b : Nat} : (V.eptr x b).cells = [.eptr x b] := rfl
theorem cells_osl {a b c d : Nat} : (V.osl a b c d).cells = [.osl a b c d] := rfl
theorem cells_optr {a b c d : Nat} : (V.optr a b c d).cells = [.optr a b c d] := rfl
theorem cells_omap {a : Nat} : (V.omap a).cells = [.omap a] := rfl
theorem cells_fn {f : Fn} {c : List V} : (V.fn f c).cells = [.fn f c] := rfl
theorem cells_byteV {c : UInt8} : (byteV c).cells = [byteV c] := rfl
theorem forall_one {p : V → Prop} {a : V} : (∀ y ∈ [a], p y) ↔ p a := by simp
theorem forall_none {p : V → Prop} : (∀ y ∈ ([] : List V), p y) ↔ True := by simp
theorem bytes_ok {l : List UInt8} : (∀ y ∈ l.map byteV, y.cells.length = 1) ↔ True := by simp [byteV, V.cells]
theorem ints_ok {k : IntKind} {l : List Int} : (∀ y ∈ l.map (fun n => V.int k n), y.cells.length = 1) ↔ True := by simp [V.cells]
theorem VR.nilp_inv {g : Gh} {w : World} {v : Value} (h : VR g w v .nilp) : v = .pointer none := by
 cases h with
 | rd h => cases h; rfl
theorem arr1 {vals : Array Value} (h : vals.size = 1) : vals = #[vals.getD 0 undef] := by
 refine Array.ext (by simpa using h) fun i h1 h2 => ?_
 simp at h2; subst h2
 simp [Array.getD_eq_getD_getElem?, h]
theorem arr2 {vals : Array Value} (h : vals.size = 2) : vals = #[vals.getD 0 undef, vals.getD 1 undef] := by
 refine Array.ext (by simpa using h) fun i h1 h2 => ?_
 simp at h2
 match i, h2 with
 | 0, _ => simp [Array.getD_eq_getD_getElem?, h]
 | 1, _ => simp [Array.getD_eq_getD_getElem?, h]
theorem acall_step {f : Nat} {args : List V} {H : Heap} (e : Eff) (hc : callable P f = true)
   (h : ∀ g w (vals : Array Value), HRel P g w H → vals.size = args.length → (∀ (i : Nat) (x : V), args[i]? = some x → VR g w (vals.getD i undef) x) →
     Calls P f vals w fun en w' => ∃ v g', en = .returned v ∧ StepOK g H w e g' w' ∧ Fresh H g g' ⟨[], H⟩ e ∧ VR g' w' v e.val) : ACall P f args H (fun r H' => r = e.val ∧ H' = e.heap H) := by
 refine ⟨hc, fun g w vals hH hl hv => (h g w vals hH hl hv).mono ?_⟩
 rintro en w' ⟨v, g', rfl, hs, hf, hvr⟩
 have h1 := HRel.step (σ := ⟨[], H⟩) hH hs hf
 have h0 : Frm ⟨w, g, H, 0, [], [], H, g, w⟩ g w H := ⟨rfl, rfl, rfl, Nat.le_refl _, fun _ _ _ => rfl, fun id o ho hn => ⟨.inr ⟨id, o, ho, hn, rfl⟩, fun _ h => by cases h⟩, fun _ h => h.elim id id, fun _ h => ⟨.inl h, fun _ h => by cases h⟩, fun id _ _ => Gh.agree.refl g id⟩
 refine ⟨v, e.val, e.heap H, g', rfl, ⟨rfl, rfl⟩, h1.2.1, hvr, Frm.step (c := ⟨w, g, H, 0, [], [], H, g, w⟩) (σ := ⟨[], H⟩) (ds := []) ⟨rfl, fun _ _ h => (by cases h), fun _ _ => rfl⟩ h0 hs hf, fun id hid => hs.agree id fun o ho => ?_⟩
 have : ∀ {l : List (Nat × Obj')} {G : Heap}, (id, o) ∈ l → find id (puts l G) ≠ none := by
   intro l
   induction l with
   | nil => intro G h; cases h
   | cons p r ih =>
     intro G hm
     obtain ⟨n, q⟩ := p
     rw [puts]
     by_cases hr : ∃ o', (id, o') ∈ r
     · obtain ⟨o', ho'⟩ := hr
       have aux : ∀ {l : List (Nat × Obj')} {G : Heap} {o' : Obj'}, (id, o') ∈ l → find id (puts l G) ≠ none := by
         intro l
         induction l with
         | nil => intro G o' h; cases h
         | cons p r ih =>
           intro G o' hm
           obtain ⟨n, q⟩ := p
           rw [puts]
           by_cases hr : ∃ o', (id, o') ∈ r
           · obtain ⟨o'', h''⟩ := hr; exact ih h''
           · rw [find_puts_not fun o h => hr ⟨o, h⟩, find_put]
             rcases List.mem_cons.1 hm with hm | hm
             · cases hm; simp
             · exact absurd ⟨_, hm⟩ hr
       exact aux ho'
     · rw [find_puts_not fun o h => hr ⟨o, h⟩, find_put]
       rcases List.mem_cons.1 hm with hm | hm
       · cases hm; simp
       · exact absurd ⟨_, hm⟩ hr
 exact this ho hid
theorem StepOK.grown {g : Gh} {H : Heap} {w w' : World} (x : V) (dr : List Nat) (hlt : ∀ b, g.S b → b < w.heap.size) (h1 : w'.os = w.os) (h2 : w'.tape = w.tape) (h3 : w'.output = w.output) (h4 : w.heap.size ≤ w'.heap.size)
   (h5 : ∀ b, b < w.heap.size → (∀ id o, id ∈ dr → find id H = some o → ¬ g.nil id → g.ρ id ≠ b) → w'.heap[b]? = w.heap[b]?) : StepOK g H w ⟨x, dr, []⟩ g w' :=
 ⟨h1, h2, h3, h4, fun b hb hn => h5 b hb fun id o hd => hn id o (by simpa [Eff.ids] using hd), fun _ h => h, fun b hb => .inl hb, fun b hb => Nat.lt_of_lt_of_le (hlt b hb) h4,
   fun id _ => Gh.agree.refl _ _, fun _ _ h => by simp at h, fun _ _ h => by simp at h, fun _ _ _ _ h => by simp at h, fun _ _ h => by simp at h⟩
theorem Fresh.none {H0 : Heap} {g : Gh} {σ : St} (x : V) (dr : List Nat) : Fresh H0 g g σ ⟨x, dr, []⟩ := fun _ _ h => by simp at h
theorem str_vr {g : Gh} {w : World} (l : List UInt8) (h : l.length ≤ 9223372036854775807) : VR g w (.string ⟨l.toArray⟩) (.str l) := by
 have := Rd.str (S := g.S) (w := w) ⟨l.toArray⟩ (by
   have : (ByteArray.mk l.toArray).size = l.length := by simp [ByteArray.size]
   rw [this]; unfold maxLen; omega)
 exact .rd (by simpa using this)
theorem acall_grow {f : Nat} {args : List V} {r : V} (hc : callable P f = true)
   (h : ∀ g w (vals : Array Value), HRel P g w [] → vals.size = args.length → (∀ (i : Nat) (x : V), args[i]? = some x → VR g w (vals.getD i undef) x) →
     Calls P f vals w fun en w' => ∃ v, en = .returned v ∧ (∀ g w', VR g w' v r) ∧ ∃ k os, w' = grow (w.drewN k) os) : ACall P f args [] (fun r' H' => r' = r ∧ H' = []) := by
 refine acall_step ⟨r, [], []⟩ hc fun g w vals hH hl hv => (h g w vals hH hl hv).mono ?_
 rintro en w' ⟨v, rfl, hvr, k, os, rfl⟩
 refine ⟨v, g, rfl, StepOK.grown r [] hH.lt rfl rfl rfl ?_ ?_, Fresh.none _ _, hvr g _⟩
 · simp [World.drewN]
 · intro b hb _
   exact heap_grow_old (w.drewN k) os hb
theorem liesAt_bytes' {e : TypeId} (hc : P.cellsOf e = 1) (count off n : Nat) (hn : off + n ≤ count) : liesAt P P.depth e count off e n = true := by
 have hd : P.depth = (2 * (P.types.size + Made.depth) + 1) + 1 := rfl
 rw [hd]
 simp only [liesAt, Bool.or_eq_true]
 left
 rw [hd]
 simp only [rowAt, hc, sameLayout]
 simp [Nat.mod_one, hn]
theorem run_unsafeString_at (w : World) (pt it ty e : TypeId) (hp : P.underlying pt = some (.pointer e)) (hc : P.cellsOf e = 1) (g o cells : Nat) (hsh : w.shape? g = some (e, cells)) (l : List UInt8) (h0 : l ≠ []) (hn : o + l.length ≤ cells)
   (h63 : l.length ≤ 9223372036854775807) (hcell : ∀ j x, l[j]? = some x → w.cell? ((⟨g, o, none⟩ : Addr).add j) = some (.int .u8 x.toNat)) :
   (Builtin.unsafeString_ #[pt, it] ty #[.pointer (some ⟨g, o, none⟩), .int .i64 l.length]).run P w = .ok (.string ⟨l.toArray⟩) (w.freeze ⟨g, o, none⟩ l.length) := by
 have hl : l.length ≠ 0 := by simpa using h0
 have hlb := Lib.run_loadBytes (P := P) w l ⟨g, o, none⟩ .empty hcell
 have hlies := liesAt_bytes' (P := P) hc (cells / P.cellsOf e) o l.length (by rw [hc]; simpa using hn)
 have h63' : ¬ (9223372036854775807 : Int) < (l.length : Int) := by omega
 have hneg : ¬ (l.length : Int) < 0 := by omega
 have hmax : IntKind.i64.max = 9223372036854775807 := rfl
 obtain ⟨x1,x2,x3,body⟩:∃ x1 x2 x3,Builtin.unsafeString_ #[pt, it] ty #[.pointer (some ⟨g, o, none⟩), .int .i64 l.length] = (do
     let n ← asInt (.int .i64 l.length)
     if n < 0 then x1
     if n > IntKind.i64.max then x2
     if n = 0 then pure (.string .empty)
     else if ← variablesAt ⟨g, o, none⟩ (← elemOf pt) n.toNat then do
       let s ← loadBytes ⟨g, o, none⟩ .empty n.toNat
       freeze ⟨g, o, none⟩ n.toNat
       pure (.string s)
     else x3) :=⟨_,_,_,rfl⟩
 rw [body]
 simp [asInt, asIntOf, hmax, h63', hneg, hl, variablesAt, hsh, elemOf, run_underlying hp, hlies, hlb]
end Go.Ab
