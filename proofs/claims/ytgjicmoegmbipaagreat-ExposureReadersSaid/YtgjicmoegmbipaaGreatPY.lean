/- Who may read what, in plain words. -/
import Derived.Test.YtgjicmoegmbipaaGreatPX
import Derived.Test.YtgjicmoegmbipaaGreatLC
set_option linter.all false
set_option linter.all false
namespace Go.Ab
open Go.Proofs
def dlk (d : GDirectory) (t : Int) : Nat → Nat → Bool := zk (ev4 (d.Events.map fun e => (e.Time, e.Kind, e.Principal, e.Group))) t d.Events.length
open Classical in
noncomputable def upl (d : GDirectory) (p t : Int) : List Int := ((List.range d.Kinds.length).filter fun i => decide (RT (dlk d t) d.Kinds.length p.toNat i)).map fun i : Nat => (i : Int)
theorem at_eq {d : GDirectory} (g : GoodD d) (t : Int) : atF d.Kinds.length (d.Events.map fun e => (e.Time, e.Kind, e.Principal, e.Group)) t = some ((List.range d.Kinds.length).map fun j => (List.range d.Kinds.length).map fun i => dlk d t j i) := by
 have hk := g.kl
 unfold atF
 rw [chk_true (by simp; omega), chk_true]
 ·simp [dlk]
 ·simp only [List.all_eq_true, List.mem_map]
  rintro _ ⟨e, he, rfl⟩
  obtain ⟨_, _, _, h4, h5, _⟩ := g.ev e he
  have e1 : inb e.Principal d.Kinds.length = true := inb_iff.2 h4
  have e2 : inb e.Group d.Kinds.length = true := inb_iff.2 ⟨h5.1, h5.2.1⟩
  simp [e1, e2]
theorem those_eq (l : List Bool) (h : l.length ≤ 24) : F_1g l = some (((List.range l.length).filter (gt l)).map fun i : Nat => (i : Int)) := by
 refine Ok.eq ?_
 unfold F_1g
 refine Ok.bind (Ok.foldI (all := l) (fun pre s => s = ((List.range pre.length).filter (gt l)).map fun i : Nat => (i : Int)) l [] 0 [] rfl rfl rfl (fun pre x r s hw hs => ?_) fun s hs => hs) fun s hs => Ok.ret hs
 subst hs
 unfold F_2k
 have hp : pre.length < l.length := by rw [hw]; simp
 have hx : gt l pre.length = x := by rw [hw]; simp [gt]
 have hlen : (((List.range pre.length).filter (gt l)).map fun i : Nat => (i : Int)).length ≤ pre.length := by
  rw [List.length_map]; exact Nat.le_trans (List.length_filter_le _ _) (by simp)
 simp only [List.length_append, List.length_singleton, List.range_succ, List.filter_append, List.map_append]
 cases x
 ·simp only [cond_false]
  exact Ok.ret (by simp [hx])
 ·simp only [cond_true]
  exact Ok.chk (room_smD (by simp only [List.length_map] at hlen ⊢; omega)) (Ok.ret (by simp [hx]))
theorem upward_eq {d : GDirectory} (g : GoodD d) {p : Int} (t : Int) (h0 : 0 ≤ p) (h1 : p < d.Kinds.length) : F_n d p t = some (upl d p t) := by
 have hk : decide (0 ≤ p ∧ p < (d.Kinds.length : Int)) = true := decide_eq_true ⟨h0, h1⟩
 simp only [F_n, dknown_eq g, hk, Option.bind_some, Bool.not_true, cond_false, at_eq g]
 obtain ⟨o, ho, ho1, ho2⟩ := upward_ok (L := dlk d t) (n := d.Kinds.length) (p := p.toNat) g.kl (by omega) ((List.range d.Kinds.length).map fun j => (List.range d.Kinds.length).map fun i => dlk d t j i) (by simp) fun a ha => by
  have e : ((List.range d.Kinds.length).map fun j => (List.range d.Kinds.length).map fun i => dlk d t j i).getD a default = (List.range d.Kinds.length).map fun i => dlk d t a i := by simp [List.getD_eq_getElem?_getD, ha]
  rw [e]
  exact ⟨by simp, fun i hi => by simp [List.getD_eq_getElem?_getD, hi]⟩
 rw [show ((p.toNat : Nat) : Int) = p by omega] at ho
 rw [ho]
 have hl := g.kl
 simp only [Option.bind_some, those_eq o (by rw [ho1]; exact hl)]
 simp only [upl, ho1]
 congr 2
 refine List.filter_congr fun i hi => ?_
 have := ho2 i (List.mem_range.1 hi)
 cases e : gt o i with
 | true => simp [this.1 e]
 | false =>
  have h : ¬ RT (dlk d t) d.Kinds.length p.toNat i := fun h => by rw [this.2 h] at e; cases e
  simp [h]
theorem mem_upl {d : GDirectory} {p t x : Int} : x ∈ upl d p t ↔ 0 ≤ x ∧ x < d.Kinds.length ∧ RT (dlk d t) d.Kinds.length p.toNat x.toNat := by
 simp only [upl, List.mem_map, List.mem_filter, List.mem_range, decide_eq_true_eq]
 constructor
 ·rintro ⟨i, ⟨h1, h2⟩, rfl⟩
  exact ⟨by omega, by omega, h2⟩
 ·rintro ⟨h1, h2, h3⟩
  exact ⟨x.toNat, ⟨by omega, h3⟩, by omega⟩
def rdr (d : GDirectory) (p : Int) : Prop := 0 ≤ p ∧ p < d.Kinds.length ∧ d.Kinds.getD p.toNat default ≠ 2
theorem reader_eq (d : GDirectory) (p : Int) [Decidable (rdr d p)] : F_1r d p = some (decide (rdr d p)) := by
 simp only [F_1r, grp, jn]
 by_cases c : 0 ≤ p ∧ p < (d.Kinds.length : Int)
 ·have e : (decide (0 ≤ p) && decide (p < (d.Kinds.length : Int))) = true := by simpa using c
  simp only [e, cond_true, chk_true (inb_iff.2 c), Option.bind_some]
  congr 1
  by_cases q : d.Kinds.getD p.toNat default = 2
  ·rw [decide_eq_true q, decide_eq_false (fun h : rdr d p => h.2.2 q)]; rfl
  ·rw [decide_eq_false q, decide_eq_true (show rdr d p from ⟨c.1, c.2, q⟩)]; rfl
 ·have e : (decide (0 ≤ p) && decide (p < (d.Kinds.length : Int))) = false := by
   cases h : (decide (0 ≤ p) && decide (p < (d.Kinds.length : Int)))
   ·rfl
   ·exact absurd (by simpa using h) c
  simp only [e, cond_false, Option.bind_some]
  rw [decide_eq_false (fun h : rdr d p => c ⟨h.1, h.2.1⟩)]
open Classical in
theorem fine_eq {d : GDirectory} {a : GEstate} (g : GoodD d) (h : Good a) (p pl : Int) : F_11 d a p pl = some (decide (rdr d p ∧ 0 ≤ pl ∧ pl ≤ a.Places - 1)) := by
 simp only [F_11, F_10, dcheck_eq, check_eq, if_pos g, if_pos h, Option.bind_some, jn, reader_eq, place_eq a pl h.lo h.hi]
 by_cases c : rdr d p <;> simp [c]
theorem rgr_go (U : List Int) : ∀ (xs : List Int) (k : Int), forL F_2n xs k U = some (match xs.find? (fun x => decide (x ∈ U)) with | some x => .ex (x, true) | none => .nx U)
 | [], k => rfl
 | x :: r, k => by
  simp only [forL, F_2n, dcont_eq, Option.bind_some, List.find?_cons]
  by_cases c : x ∈ U
  ·simp [c, Fl_ex]
  ·simp [c, Fl_nx, rgr_go U r (k + 1)]
def fst0 (o : Option Int) : Int × Bool := match o with | some x => (x, true) | none => (0, false)
theorem rgrant_eq {d : GDirectory} {a : GEstate} {p pl t : Int} {U G : List Int} (h1 : F_n d p t = some U) (h2 : F_o a pl t = some G) : F_q d a p pl t = some (fst0 (G.find? fun x => decide (x ∈ U))) := by
 simp only [F_q, h1, h2, Option.bind_some, rgr_go]
 cases G.find? (fun x => decide (x ∈ U)) <;> simp [fst0, Fl_nx, Fl_ex]
def mayP (d : GDirectory) (a : GEstate) (p pl t : Int) : Prop :=
 (rdr d p ∧ 0 ≤ pl ∧ pl ≤ a.Places - 1) ∧ ((lkf pl t a.Events 0 (0, false)).2 = true ∨ ∃ x ∈ keysf pl t a.Events, x ∈ upl d p t)
open Classical in
theorem may_eq {d : GDirectory} {a : GEstate} (g : GoodD d) (h : Good a) (p pl t : Int) : F_13 d a p pl t = some (decide (mayP d a p pl t)) := by
 simp only [F_13, fine_eq g h, Option.bind_some, grp]
 by_cases c : rdr d p ∧ 0 ≤ pl ∧ pl ≤ a.Places - 1
 ·have hk := known_of h c.2.1 c.2.2
  rw [linked_eq t hk, rgrant_eq (upward_eq g t c.1.1 c.1.2.1) (granted_eq t h.len hk)]
  simp only [decide_eq_true c, Bool.not_true, cond_false, Option.bind_some]
  congr 1
  by_cases q : ∃ x ∈ keysf pl t a.Events, x ∈ upl d p t
  ·have : (fst0 ((srtI (keysf pl t a.Events)).find? fun x => decide (x ∈ upl d p t))).2 = true := by
    obtain ⟨x, hx, hu⟩ := q
    cases e : (srtI (keysf pl t a.Events)).find? fun x => decide (x ∈ upl d p t) with
    | some y => rfl
    | none =>
     have := List.find?_eq_none.1 e x (srtI_mem.2 hx)
     simp [hu] at this
   rw [this, Bool.or_true]
   exact (decide_eq_true (show mayP d a p pl t from ⟨c, .inr q⟩)).symm
  ·have : (fst0 ((srtI (keysf pl t a.Events)).find? fun x => decide (x ∈ upl d p t))).2 = false := by
    cases e : (srtI (keysf pl t a.Events)).find? fun x => decide (x ∈ upl d p t) with
    | none => rfl
    | some y =>
     refine absurd ⟨y, srtI_mem.1 (List.mem_of_find?_eq_some e), ?_⟩ q
     have := List.find?_some e
     simpa using this
   rw [this, Bool.or_false]
   cases e : (lkf pl t a.Events 0 (0, false)).2 with
   | true => exact (decide_eq_true (show mayP d a p pl t from ⟨c, .inl e⟩)).symm
   | false =>
    refine (decide_eq_false fun hm : mayP d a p pl t => ?_).symm
    rcases hm.2 with h | h
    ·rw [e] at h; cases h
    ·exact q h
 ·simp only [decide_eq_false c, Bool.not_false, cond_true]
  congr 1
  exact (decide_eq_false fun hm : mayP d a p pl t => c hm.1).symm
end Go.Ab
namespace Go.Ab
open Go.Proofs
theorem compactUpTo_memG (d : Array Int) : ∀ (m i : Nat), i < m → d[i]! ∈ Go.Lib.compactUpTo d m
 | 0, i, h => by omega
 | m + 1, i, h => by
  rw [Go.Lib.compactUpTo_succ, List.mem_append]
  rcases Nat.lt_or_ge i m with h1 | h1
  ·exact .inl (compactUpTo_memG d m i h1)
  ·have e : i = m := by omega
   subst e
   cases hk : Go.Lib.keeps d i with
   | true => right; simp [hk]
   | false =>
    left
    cases i with
    | zero => simp [Go.Lib.keeps] at hk
    | succ i =>
     have h2 : d[i + 1]! = d[i]! := by
      by_cases c : d[i + 1]! = d[i]!
      ·exact c
      ·have := Go.Lib.keeps_pos (d := d) (m := i + 1) (by simpa using c)
       rw [hk] at this; cases this
     rw [h2]
     exact compactUpTo_memG d (i + 1) i (by omega)
theorem compact_allG (xs : List Int) : ∀ x ∈ xs, x ∈ Go.Lib.compact xs := by
 intro x hx
 obtain ⟨i, hi, rfl⟩ := List.mem_iff_getElem.1 hx
 have := compactUpTo_memG xs.toArray xs.length i hi
 simpa [Go.Lib.compact, hi] using this
theorem compact_iff {xs : List Int} {x : Int} : x ∈ Go.Lib.compact xs ↔ x ∈ xs := ⟨compact_mem xs x, compact_allG xs x⟩
theorem compact_sub (xs : List Int) : (Go.Lib.compact xs).Sublist xs := by
 have h : (List.range xs.length).map (fun i => xs.toArray[i]!) = xs := by
  apply List.ext_getElem
  ·simp
  ·intro i h1 h2
   simp [h2]
 have := (List.filter_sublist (p := Go.Lib.keeps xs.toArray) (l := List.range xs.length)).map (fun i => xs.toArray[i]!)
 rw [h] at this
 exact this
theorem times_eqG {a : GEstate} (g : Good a) : F_1u a = some (Go.Lib.compact (a.Events.map GAccess.Time)) := by
 simp only [F_1u, check_eq, if_pos g, Option.bind_some, decide_true, Bool.not_true, cond_false]
 have h := g.len
 rw [foldL_push (body := F_38) (g := GAccess.Time) (b := 8) (n := 120) (by omega) (fun k x s => rfl) a.Events 0 [] (by simpa using h)]
 simp only [Option.bind_some, compactI, List.nil_append, List.drop_zero]
 rw [List.take_left']
 rfl
def tms (d : GDirectory) (a : GEstate) : List Int := Go.Lib.compact (srtI (Go.Lib.compact (a.Events.map GAccess.Time) ++ d.Events.map GMember.Time))
theorem mem_tms {d : GDirectory} {a : GEstate} {t : Int} : t ∈ tms d a ↔ (∃ x ∈ a.Events, x.Time = t) ∨ ∃ x ∈ d.Events, x.Time = t := by
 simp only [tms, compact_iff, srtI_mem, List.mem_append, List.mem_map]
theorem tms_sorted (d : GDirectory) (a : GEstate) : (tms d a).Pairwise fun x y => x ≤ y := (srtI_sorted _).sublist (compact_sub _)
theorem etimes_eq {d : GDirectory} {a : GEstate} (g : GoodD d) (h : Good a) : F_1v d a = some (tms d a) := by
 have h1 := h.len
 have h2 := g.el
 have h3 := (compact_sub (a.Events.map GAccess.Time)).length_le
 rw [List.length_map] at h3
 simp only [F_1v, times_eqG h, Option.bind_some]
 rw [foldL_push (body := F_39) (g := GMember.Time) (b := 8) (n := 240) (by omega) (fun k x s => rfl) d.Events 0 _ (by omega)]
 simp only [Option.bind_some, sortI, List.length_append, List.length_map]
 rw [if_pos (by omega)]
 simp only [Option.bind_some, compactI, List.drop_zero]
 rw [List.take_left']
 ·rfl
 ·rfl
theorem bit_eq {c : Int} (h0 : 0 ≤ c) (h1 : c ≤ 63) : F_r c = some (IntKind.wrap .u64 (1 * 2 ^ c.toNat)) := by
 unfold F_r
 have : shok c 64 = true := by rw [← shok_and64]; omega
 rw [chk_true this]
theorem happen_ok {P : Int} {s : List Int} {x : GAccess} (h : xok P x) (hs : (s.length : Int) = P) : Ok (F_h s x) fun s' => s'.length = s.length := by
 obtain ⟨_, _, h3, h4, h5⟩ := h
 have hp : inb x.Place s.length = true := inb_iff.2 ⟨h3, by omega⟩
 unfold F_h
 refine Ok.ite (fun c => ?_) fun c => Ok.ite (fun c2 => ?_) fun c2 => Ok.ite (fun c3 => ?_) fun c3 => Ok.ret rfl
 ·have c : x.Kind = 5 := by simpa using c
  exact Ok.chk hp (Ok.bind (P := fun _ => True) (Ok.of (bit_eq (by omega) (by omega)) trivial) fun _ _ => Ok.chk hp (Ok.ret (by simp)))
 ·have c2 : x.Kind = 6 := by simpa using c2
  exact Ok.chk hp (Ok.bind (P := fun _ => True) (Ok.of (bit_eq (by omega) (by omega)) trivial) fun _ _ => Ok.chk hp (Ok.ret (by simp)))
 ·have c3 : x.Kind = 7 := by simpa using c3
  have hf : inb x.From s.length = true := inb_iff.2 ⟨by omega, by omega⟩
  exact Ok.chk hp (Ok.chk hf (Ok.chk hp (Ok.ret (by simp))))
theorem cat_ok {a : GEstate} (g : Good a) (t : Int) : Ok (F_14 a t) fun s => (s.length : Int) = a.Places := by
 have h1 := g.lo
 have h2 := g.hi
 unfold F_14
 refine Ok.chk (roomI_iff.2 ⟨by omega, by omega, by omega⟩) (Ok.bind (Ok.foldI (all := a.Events) (fun _ s => (s.length : Int) = a.Places) a.Events [] 0 _ rfl rfl (by simp; omega) (fun pre x r s hw hs => ?_) fun s hs => hs) fun s hs => Ok.ret hs)
 unfold F_2p
 refine Ok.ite (fun _ => Ok.bind (happen_ok (g.ev x (by rw [hw]; simp)) hs) fun y hy => Ok.ret ?_) fun _ => Ok.ret hs
 rw [hy]; exact hs
theorem where_ok {a : GEstate} (g : Good a) {c : Int} (h0 : 0 ≤ c) (h1 : c ≤ 63) (t : Int) : Ok (F_s a c t) fun W => ∀ x ∈ W, 0 ≤ x ∧ x ≤ a.Places - 1 := by
 have hc : F_2 c = some true := by simp [F_2, among_eq, h0, h1]
 have h2 := g.hi
 simp only [F_s, check_eq, if_pos g, Option.bind_some, decide_true, Bool.not_true, cond_false, hc]
 refine Ok.bind (cat_ok g t) fun s hs => Ok.bind (Ok.foldI (all := s) (fun pre W => W.length ≤ pre.length ∧ ∀ x ∈ W, 0 ≤ x ∧ x ≤ a.Places - 1) s [] 0 _ rfl rfl ⟨by simp, by simp⟩ (fun pre x r W hw hW => ?_) fun W hW => hW.2) fun W hW => Ok.ret hW
 unfold F_2q
 have hp : pre.length < s.length := by rw [hw]; simp
 refine Ok.bind (P := fun _ => True) (Ok.of (bit_eq h0 h1) trivial) fun b _ => Ok.ite (fun _ => Ok.chk (room_smD (by simp; omega)) (Ok.ret ⟨by simp; omega, fun y hy => ?_⟩)) fun _ => Ok.ret ⟨by simp; omega, hW.2⟩
 simp only [List.mem_append, List.mem_singleton] at hy
 rcases hy with hy | rfl
 ·exact hW.2 y hy
 ·omega
def whr (a : GEstate) (c t : Int) : List Int := (F_s a c t).getD []
theorem where_eq {a : GEstate} (g : Good a) {c : Int} (h0 : 0 ≤ c) (h1 : c ≤ 63) (t : Int) : F_s a c t = some (whr a c t) := by
 obtain ⟨W, h, _⟩ := where_ok g h0 h1 t
 simp [whr, h]
theorem whr_mem {a : GEstate} (g : Good a) {c : Int} (h0 : 0 ≤ c) (h1 : c ≤ 63) (t : Int) : ∀ x ∈ whr a c t, 0 ≤ x ∧ x ≤ a.Places - 1 := (where_ok g h0 h1 t).val (where_eq g h0 h1 t)
open Classical in
noncomputable def see (d : GDirectory) (a : GEstate) (p t x : Int) : Bool :=
 if p = -1 then (lkf x t a.Events 0 (0, false)).2 else decide (mayP d a p x t)
theorem plgo {d : GDirectory} {a : GEstate} (g : GoodD d) (h : Good a) (p t : Int) (xs : List Int) (hx : ∀ x ∈ xs, 0 ≤ x ∧ x ≤ a.Places - 1) (k : Int) :
  forL (F_2r d a p t) xs k () = some (flO (findL (fun x => if see d a p t x then some (x, true) else none) xs)) := by
 refine forL_find _ xs k fun k x hm => ?_
 simp only [F_2r, linked_eq t (known_of h (hx x hm).1 (hx x hm).2), Option.bind_some, grp, may_eq g h]
 by_cases c : p = -1
 ·simp only [c, decide_true, Bool.true_and, Bool.not_true, cond_false, see, if_true]
  cases (lkf x t a.Events 0 (0, false)).2 <;> simp [flO]
 ·simp only [c, decide_false, Bool.false_and, Bool.not_false, cond_false, cond_true, see, if_false]
  by_cases q : mayP d a p x t <;> simp [q, flO]
theorem findL_find {α ρ : Type} (p : α → Bool) (f : α → ρ) : ∀ xs : List α, findL (fun x => if p x then some (f x) else none) xs = (xs.find? p).map f
 | [] => rfl
 | x :: r => by
  simp only [findL, List.find?_cons]
  cases h : p x with
  | true => simp
  | false => simp [findL_find p f r]
noncomputable def pla (d : GDirectory) (a : GEstate) (c p t : Int) : Option Int := (whr a c t).find? (see d a p t)
theorem place_eqX {d : GDirectory} {a : GEstate} (g : GoodD d) (h : Good a) {c : Int} (h0 : 0 ≤ c) (h1 : c ≤ 63) (p t : Int) : F_15 d a c p t = some (fst0 (pla d a c p t)) := by
 simp only [F_15, where_eq h h0 h1, Option.bind_some, plgo g h p t _ (whr_mem h h0 h1 t), elim_flO, findL_find, pla]
 cases (whr a c t).find? (see d a p t) <;> rfl
noncomputable def sin (d : GDirectory) (a : GEstate) (c p : Int) : Option Int := (tms d a).find? fun t => (pla d a c p t).isSome
theorem since_eq {d : GDirectory} {a : GEstate} (g : GoodD d) (h : Good a) {c : Int} (h0 : 0 ≤ c) (h1 : c ≤ 63) (p : Int) : F_16 d a c p = some (fst0 (sin d a c p)) := by
 simp only [F_16, etimes_eq g h, Option.bind_some]
 rw [forL_find (fun t => if (pla d a c p t).isSome then some (t, true) else none) (tms d a) 0 fun k t _ => by
  simp only [F_3a, place_eqX g h h0 h1, Option.bind_some]
  cases pla d a c p t <;> simp [fst0, flO]]
 simp only [Option.bind_some, elim_flO, findL_find, sin]
 cases (tms d a).find? (fun t => (pla d a c p t).isSome) <;> rfl
theorem echeck_eq {d : GDirectory} {a : GEstate} (g : GoodD d) (h : Good a) {c : Int} (h0 : 0 ≤ c) (h1 : c ≤ 63) : F_g d a c = some 0 := by
 simp [F_g, F_10, dcheck_eq, check_eq, g, h, F_2, among_eq, h0, h1]
theorem Since_eq {d : GDirectory} {a : GEstate} (g : GoodD d) (h : Good a) {c : Int} (h0 : 0 ≤ c) (h1 : c ≤ 63) (p : Int) : F_1w d a c p = some (fst0 (sin d a c p)) := by
 simp [F_1w, echeck_eq g h h0 h1, since_eq g h h0 h1]
theorem find_first {T : List Int} {q : Int → Bool} (hs : T.Pairwise fun x y => x ≤ y) {t : Int} (ht : t ∈ T) (hq : q t = true) : ∃ t', T.find? q = some t' ∧ t' ≤ t := by
 induction T with
 | nil => simp at ht
 | cons x r ih =>
  rw [List.pairwise_cons] at hs
  cases hx : q x with
  | true =>
   refine ⟨x, by simp [hx], ?_⟩
   rcases List.mem_cons.1 ht with rfl | ht
   ·omega
   ·exact hs.1 t ht
  | false =>
   rcases List.mem_cons.1 ht with rfl | ht
   ·rw [hq] at hx; cases hx
   ·obtain ⟨t', h1, h2⟩ := ih hs.2 ht
    exact ⟨t', by simp [hx, h1], h2⟩
end Go.Ab
namespace Go.Ab
open Go.Proofs
theorem dir_ok {t : GTape} (h : TOK t) : Ok (F_24 t) fun y => GoodD y.1 ∧ 1 ≤ y.1.Kinds.length ∧ y.1.Kinds.length ≤ 7 ∧ y.1.Events.length ≤ 11 ∧ (∀ x ∈ y.1.Events, x.Time ≤ 25) ∧ TOK y.2 := by
 unfold F_24
 refine Ok.bind (between_ok h (by omega) (by omega) (by omega)) fun y hy => ?_
 refine Ok.bind (Ok.loop (Q := fun y : List Int × GTape => 1 ≤ y.1.length ∧ y.1.length ≤ 7 ∧ (∀ k ∈ y.1,1 ≤ k ∧ k ≤ 3) ∧ TOK y.2) (fun x => 0 ≤ x.1 ∧ (x.2.1.length : Int) + x.1 ≤ 7 ∧ 1 ≤ x.2.1.length ∧ (∀ k ∈ x.2.1,1 ≤ k ∧ k ≤ 3) ∧ TOK x.2.2) (fun x => x.1.toNat) (fun x hx => ?_) _ ?_) fun r hr => ?_
 ·obtain ⟨k, out, t⟩ := x
  obtain ⟨h1, h2, h3, h3', h4⟩ := hx
  simp only at h1 h2 h3 h3' h4
  unfold F_41
  refine Ok.ite (fun c => ?_) fun c => ?_
  ·have c : 0 < k := by simpa using c
   refine Ok.bind (pick_ok h4 (by simp)) fun y hy => ?_
   refine Ok.chk (room_sm (by simp; omega)) (Ok.chk (in64_sm (by simp only; omega) (by simp only; omega)) (Ok.ret ?_))
   simp only [Fl.elim]
   have hm := hy.1
   simp only [List.mem_cons, List.not_mem_nil, or_false] at hm
   refine ⟨⟨by omega, by simp; omega, by simp, fun q hq => ?_, hy.2⟩, by omega⟩
   simp only [List.mem_append, List.mem_singleton] at hq
   rcases hq with hq | rfl
   ·exact h3' q hq
   ·omega
  ·refine Ok.ret ?_
   simp only [Fl.elim]
   exact ⟨h3, by omega, h3', h4⟩
 ·exact ⟨by show 0 ≤ y.1; omega, by show ((1 : Nat) : Int) + y.1 ≤ 7; omega, by simp, by simp, hy.2.2⟩
 ·obtain ⟨r1, r2, r2', r3⟩ := hr
  refine Ok.bind (Ok.foldI (all := r.1) (Q := fun x : List Int => x.length ≤ 7 ∧ ∀ k ∈ x, 0 ≤ k ∧ k < r.1.length ∧ r.1.getD k.toNat default = 2) (fun pre x => x.length ≤ pre.length ∧ ∀ k ∈ x, 0 ≤ k ∧ k < r.1.length ∧ r.1.getD k.toNat default = 2) r.1 [] 0 [] rfl rfl (by simp) (fun pre x q s hw hs => ?_) fun s hs => ⟨by omega, hs.2⟩) fun gs hg => ?_
  ·unfold F_3k
   have hp : pre.length < r.1.length := by rw [hw]; simp
   have hx : r.1.getD pre.length default = x := by rw [hw]; simp
   refine Ok.ite (fun c => Ok.chk (room_sm (by simp; omega)) (Ok.ret ⟨by simp; omega, fun k hk => ?_⟩)) fun c => Ok.ret ⟨by simp; omega, hs.2⟩
   simp only [List.mem_append, List.mem_singleton] at hk
   rcases hk with hk | rfl
   ·exact hs.2 k hk
   ·refine ⟨by omega, by omega, ?_⟩
    rw [Int.toNat_natCast, hx]; simpa using c
  ·have gd0 : GoodD ⟨r.1,[]⟩ := ⟨by show r.1.length ≤ 24; omega, by simp, r2', by simp, List.Pairwise.nil⟩
   refine Ok.ite (fun c => Ok.ret ⟨gd0, r1, r2, by simp, by simp, r3⟩) fun c => ?_
   have c : ¬ (gs.length : Int) = 0 := by simpa using c
   refine Ok.bind (next_ok r3 (by omega)) fun y hy => Ok.bind (clock_ok hy.2.2 hy.1 (by omega)) fun z hz => ?_
   obtain ⟨z1, z2, z3, z4⟩ := hz
   refine Ok.bind (Ok.foldI (all := z.1) (Q := fun x : List GMember × GTape => x.1.length ≤ z.1.length ∧ (∀ e ∈ x.1, mok ⟨r.1,[]⟩ e ∧ e.Time ∈ z.1) ∧ x.1.Pairwise (fun a b => a.Time ≤ b.Time) ∧ TOK x.2)
    (fun pre x => x.1.length ≤ pre.length ∧ (∀ e ∈ x.1, mok ⟨r.1,[]⟩ e ∧ e.Time ∈ pre) ∧ x.1.Pairwise (fun a b => a.Time ≤ b.Time) ∧ TOK x.2) z.1 [] 0 _ rfl rfl ⟨by simp, by simp, List.Pairwise.nil, z4⟩ (fun pre x q s hw hs => ?_) fun s hs => hs) fun s hs => Ok.ret ?_
   ·unfold F_3l
    obtain ⟨s1, s2, s3, s4⟩ := hs
    have hc := z3 x (by rw [hw]; simp)
    have hpre : ∀ e ∈ pre, e ≤ x := fun e he => by rw [hw, List.pairwise_append] at z2; exact z2.2.2 e he x (by simp)
    have hp : pre.length ≤ 30 := by have := congrArg List.length hw; simp at this; omega
    refine Ok.bind (next_ok s4 (by omega)) fun a ha => Ok.bind (next_ok ha.2.2 (by omega)) fun b hb => Ok.chk (inb_iff.2 ⟨hb.1, hb.2.1⟩) ?_
    have hgm : gs.getD b.1.toNat default ∈ gs := by
     have h1 : b.1.toNat < gs.length := by have := hb.1; have := hb.2.1; omega
     simp [List.getD_eq_getElem?_getD, h1]
    obtain ⟨g1, g2, g3⟩ := hg.2 _ hgm
    refine Ok.jn (P := fun j : GMember × GTape => (j.1.Kind = 1 ∨ j.1.Kind = 2) ∧ j.1.Time = x ∧ j.1.Principal = a.1 ∧ j.1.Group = gs.getD b.1.toNat default ∧ TOK j.2) (Ok.bind (next_ok hb.2.2 (by omega)) fun d hd => Ok.ite (fun _ => Ok.ret ⟨.inr rfl, rfl, rfl, rfl, hd.2.2⟩) fun _ => Ok.ret ⟨.inl rfl, rfl, rfl, rfl, hd.2.2⟩) fun j hj => ?_
    obtain ⟨j1, j2, j3, j4, j5⟩ := hj
    refine Ok.ite (fun c => Ok.chk (room_sm (by simp; omega)) (Ok.ret ⟨by simp; omega, fun e he => ?_, ?_, j5⟩)) fun c => Ok.ret ⟨by simp; omega, fun e he => ⟨(s2 e he).1, by simp [(s2 e he).2]⟩, s3, j5⟩
    ·have c : ¬ j.1.Principal = j.1.Group := by simpa using c
     simp only [List.mem_append, List.mem_singleton] at he ⊢
     rcases he with he | rfl
     ·exact ⟨(s2 e he).1, .inl (s2 e he).2⟩
     ·refine ⟨⟨j1, by omega, by omega, ?_, ?_, c⟩, .inr j2⟩
      ·show 0 ≤ j.1.Principal ∧ j.1.Principal < r.1.length
       rw [j3]; exact ⟨ha.1, ha.2.1⟩
      ·show 0 ≤ j.1.Group ∧ j.1.Group < r.1.length ∧ r.1.getD j.1.Group.toNat default = 2
       rw [j4]; exact ⟨g1, g2, g3⟩
    ·rw [List.pairwise_append]
     refine ⟨s3, by simp, fun e he w hw2 => ?_⟩
     simp only [List.mem_singleton] at hw2
     subst hw2
     rw [j2]; exact hpre _ (s2 e he).2
   ·obtain ⟨s1, s2, s3, s4⟩ := hs
    have ht : ∀ e ∈ s.1, e.Time ≤ 25 := fun e he => by have := z3 _ (s2 e he).2; omega
    exact ⟨⟨by show r.1.length ≤ 24; omega, by show s.1.length ≤ 120; omega, r2', fun e he => (s2 e he).1, s3⟩, r1, r2, by show s.1.length ≤ 11; omega, ht, s4⟩
end Go.Ab
namespace Go.Ab
open Go.Proofs
def d0 : GDirectory := ⟨[1],[]⟩
def a0 : GEstate := ⟨1,[⟨3,5,0,0,0,2,0⟩, ⟨7,1,0,0,0,0,0⟩]⟩
theorem gd0 : GoodD d0 := ⟨by simp [d0], by simp [d0], by simp [d0], by simp [d0], List.Pairwise.nil⟩
theorem ga0 : Good a0 := by
 rw [good_iff]
 refine ⟨by simp [a0], by simp [a0], ?_⟩
 simp [a0, chain, xok]
theorem tms0 : tms d0 a0 = [3,7] := by
 have h1 : Go.Lib.compact (a0.Events.map GAccess.Time) ++ d0.Events.map GMember.Time = [3,7] := by rfl
 have h2 : srtI [3,7] = [3,7] := sorted_unique (srtI_perm _) (srtI_sorted _) (by simp)
 have h3 : Go.Lib.compact [(3 : Int),7] = [3,7] := by rfl
 simp only [tms, h1, h2, h3]
theorem whr3 : whr a0 2 3 = [0] := by kernel_rfl
theorem whr7 : whr a0 2 7 = [0] := by kernel_rfl
theorem lk3 : lkf 0 3 a0.Events 0 (0, false) = (0, false) := by kernel_rfl
theorem lk7 : lkf 0 7 a0.Events 0 (0, false) = (0, false) := by kernel_rfl
theorem ks3 : keysf 0 3 a0.Events = [] := by kernel_rfl
theorem ks7 : keysf 0 7 a0.Events = [0] := by kernel_rfl
theorem up7 : (0 : Int) ∈ upl d0 0 7 := mem_upl.2 ⟨Int.le_refl 0, by simp [d0], .refl⟩
theorem rdr0 : rdr d0 0 := ⟨Int.le_refl 0, by simp [d0], by simp [d0]⟩
theorem may3 : ¬ mayP d0 a0 0 0 3 := fun h => by
 have := h.2
 rw [lk3, ks3] at this
 simp at this
theorem may7 : mayP d0 a0 0 0 7 := ⟨⟨rdr0, Int.le_refl 0, by simp [a0]⟩, .inr ⟨0, by rw [ks7]; simp, up7⟩⟩
theorem sinA : sin d0 a0 2 (-1) = none := by
 simp [sin, tms0, pla, whr3, whr7, see, lk3, lk7]
theorem sin0 : sin d0 a0 2 0 = some 7 := by
 simp [sin, tms0, pla, whr3, whr7, see, may3, may7]
theorem all0 : F_i d0 a0 2 = some ([⟨0,7⟩],0) := by
 simp only [F_i, echeck_eq gd0 ga0 (show (0 : Int) ≤ 2 by omega) (show (2 : Int) ≤ 63 by omega), Option.bind_some, decide_true, Bool.not_true, cond_false]
 have e1 : F_t d0 a0 2 (-1,[]) = some (.nx (0,[])) := by
  simp only [F_t, since_eq gd0 ga0 (show (0 : Int) ≤ 2 by omega) (show (2 : Int) ≤ 63 by omega), sinA, fst0]
  kernel_rfl
 have e2 : F_t d0 a0 2 (0,[]) = some (.nx (1,[⟨0,7⟩])) := by
  simp only [F_t, since_eq gd0 ga0 (show (0 : Int) ≤ 2 by omega) (show (2 : Int) ≤ 63 by omega), sin0, fst0]
  kernel_rfl
 have e3 : F_t d0 a0 2 (1,[⟨0,7⟩]) = some (.ex [⟨0,7⟩]) := by
  simp only [F_t]
  rfl
 rw [loop_eq, e1]; simp only [Option.bind_some, Fl_nx]
 rw [loop_eq, e2]; simp only [Option.bind_some, Fl_nx]
 rw [loop_eq, e3]; simp only [Option.bind_some, Fl_ex]
theorem rwhy0 : F_17 d0 a0 0 0 7 = some (⟨0,7, -1,1,[0]⟩, true) := by
 have hk := known_of ga0 (Int.le_refl 0) (show (0 : Int) ≤ a0.Places - 1 by simp [a0])
 have hg : F_u a0 0 0 7 = some (1, true) := by kernel_rfl
 have hs : srtI [0] = [0] := sorted_unique (srtI_perm _) (srtI_sorted _) (by simp)
 have hr : F_q d0 a0 0 0 7 = some (0, true) := by
  rw [rgrant_eq (upward_eq gd0 7 (Int.le_refl 0) (by simp [d0])) (granted_eq 7 ga0.len hk), ks7, hs]
  simp [up7, fst0]
 simp [F_17, may_eq gd0 ga0, may7, linked_eq 7 hk, lk7, hr, hg, jn]
theorem why0 : F_c d0 a0 2 0 = some (⟨[0], ⟨0,7, -1,1,[0]⟩⟩, true) := by
 have hw : F_1h a0 2 0 7 = some ([0], true) := by kernel_rfl
 have hp : pla d0 a0 2 0 7 = some 0 := by simp [pla, whr7, see, may7]
 simp [F_c, Since_eq gd0 ga0 (show (0 : Int) ≤ 2 by omega) (show (2 : Int) ≤ 63 by omega), sin0, place_eqX gd0 ga0 (show (0 : Int) ≤ 2 by omega) (show (2 : Int) ≤ 63 by omega), hp, fst0, hw, rwhy0]
theorem hap0 : F_l a0 7 = some 2 := by
 have e0 : F_21 a0 7 0 = some (.nx 1) := by kernel_rfl
 have e1 : F_21 a0 7 1 = some (.nx 2) := by kernel_rfl
 have e2 : F_21 a0 7 2 = some (.ex 2) := by kernel_rfl
 unfold F_l
 rw [loop_eq, e0]; simp only [Option.bind_some, Fl_nx]
 rw [loop_eq, e1]; simp only [Option.bind_some, Fl_nx]
 rw [loop_eq, e2]; simp only [Option.bind_some, Fl_ex]
theorem prov0 : F_1i a0 2 0 7 [0] = some true := by
 have e : F_22 a0 2 7 [0] 0 0 () = some (.nx ()) := by
  unfold F_22
  rw [hap0]
  kernel_rfl
 have e2 : forL (F_22 a0 2 7 [0]) [0] 0 () = some (.nx ()) := by simp only [forL, e, Option.bind_some, Fl_nx]
 unfold F_1i
 rw [e2]
 have q1 : F_v a0 2 = some true := by kernel_rfl
 have q2 : F_4 a0 0 = some true := by kernel_rfl
 simp only [q1, q2, Option.bind_some]
 show _ = _
 kernel_rfl
theorem awake30 : F_1b = some true := by
 have h1 := all0
 have h2 := why0
 simp only [d0, a0] at h1 h2
 have h3 : F_2u [⟨0,7⟩] [⟨0,7⟩] = some true := by kernel_rfl
 have q1 : F_2w d0 a0 2 0 = some true := by kernel_rfl
 have q2 : F_1i a0 2 0 7 [0] = some true := prov0
 have q3 : F_2y d0 a0 0 ⟨0,7, -1,1,[0]⟩ = some true := by kernel_rfl
 have h4 : F_23 d0 a0 2 ⟨0,7⟩ ⟨[0], ⟨0,7, -1,1,[0]⟩⟩ = some true := by
  unfold F_23
  rw [q2]
  kernel_rfl
 simp only [d0, a0] at h4
 simp [F_1b, h1, h2, h3, h4, jn, grp]
end Go.Ab
namespace Go.Ab
open Go.Proofs
noncomputable def expo (d : GDirectory) (a : GEstate) (c : Int) : Nat → Int → List GExposure
 | 0, _ => []
 | n + 1, k => (match sin d a c k with | some t => [⟨k, t⟩] | none => []) ++ expo d a c n (k + 1)
theorem expo_snoc (d : GDirectory) (a : GEstate) (c : Int) : ∀ (n : Nat) (k : Int), expo d a c (n + 1) k = expo d a c n k ++ (match sin d a c (k + n) with | some t => [⟨k + n, t⟩] | none => [])
 | 0, k => by simp [expo]
 | n + 1, k => by
  rw [expo, expo_snoc d a c n (k + 1), expo, List.append_assoc]
  have : k + 1 + (n : Int) = k + ((n + 1 : Nat) : Int) := by simp; omega
  rw [this]
theorem expo_len (d : GDirectory) (a : GEstate) (c : Int) : ∀ (n : Nat) (k : Int), (expo d a c n k).length ≤ n
 | 0, k => by simp [expo]
 | n + 1, k => by
  have := expo_len d a c n (k + 1)
  simp only [expo, List.length_append]
  cases sin d a c k <;> simp <;> omega
noncomputable def exps (d : GDirectory) (a : GEstate) (c : Int) : List GExposure := expo d a c (d.Kinds.length + 1) (-1)
theorem All_eq {d : GDirectory} {a : GEstate} (g : GoodD d) (h : Good a) {c : Int} (h0 : 0 ≤ c) (h1 : c ≤ 63) : F_i d a c = some (exps d a c, 0) := by
 refine Ok.eq ?_
 have hk := g.kl
 simp only [F_i, echeck_eq g h h0 h1, Option.bind_some, decide_true, Bool.not_true, cond_false]
 refine Ok.bind (P := fun r => r = exps d a c) (Ok.loop (fun s : Int × List GExposure => ∃ n : Nat, n ≤ d.Kinds.length + 1 ∧ s.1 = (n : Int) - 1 ∧ s.2 = expo d a c n (-1)) (fun s => ((d.Kinds.length : Int) - s.1).toNat) (fun s hs => ?_) _ ⟨0, by omega, rfl, rfl⟩) fun r hr => Ok.ret (by rw [hr])
 obtain ⟨p, l⟩ := s
 obtain ⟨n, hn, e1, e2⟩ := hs
 simp only at e1 e2
 subst e1 e2
 unfold F_t
 refine Ok.ite (fun q => ?_) fun q => ?_
 ·have q : (n : Int) - 1 < d.Kinds.length := by simpa using q
  have hl := expo_len d a c n (-1)
  refine Ok.jn (P := fun j => j = expo d a c (n + 1) (-1)) (Ok.bind (Ok.of (since_eq g h h0 h1 _) rfl) fun y hy => ?_) fun j hj => Ok.chk (in64_smD (by omega) (by omega)) (Ok.ret ⟨⟨n + 1, by omega, by simp, hj⟩, ?_⟩)
  ·subst hy
   rw [expo_snoc, show (-1 : Int) + n = n - 1 by omega]
   cases sin d a c ((n : Int) - 1) with
   | none => exact Ok.ret (by simp)
   | some t => exact Ok.chk (room_smD (by simp; omega)) (Ok.ret rfl)
  ·show ((d.Kinds.length : Int) - ((n : Int) - 1 + 1)).toNat < ((d.Kinds.length : Int) - ((n : Int) - 1)).toNat
   omega
 ·have q : ¬ (n : Int) - 1 < d.Kinds.length := by simpa using q
  have : n = d.Kinds.length + 1 := by omega
  subst this
  exact Ok.ret rfl
end Go.Ab
namespace Go.Ab
open Go.Proofs
def tb (w : Int) (c : Nat) : Bool := (BitVec.ofInt 64 w).getLsbD c
theorem ofInt_toNat64 (b : BitVec 64) : BitVec.ofInt 64 (IntKind.wrap .u64 (b.toNat : Int)) = b := by
 apply BitVec.eq_of_toNat_eq
 have h := b.isLt
 simp only [IntKind.wrap, IntKind.bits, IntKind.signed, BitVec.toNat_ofInt]
 simp
 omega
theorem tb_or (x y : Int) (c : Nat) : tb (bits .or .u64 x y) c = (tb x c || tb y c) := by
 simp only [tb, bits, ofInt_toNat64, IntKind.bits]
 exact BitVec.getLsbD_or
theorem tb_andNot (x y : Int) {c : Nat} (hc : c < 64) : tb (bits .andNot .u64 x y) c = (tb x c && !tb y c) := by
 simp only [tb, bits, ofInt_toNat64, IntKind.bits]
 have : ∀ a b : BitVec 64, (a &&& ~~~b).getLsbD c = (a.getLsbD c && !b.getLsbD c) := fun a b => by rw [BitVec.getLsbD_and, BitVec.getLsbD_not]; simp [hc]
 exact this _ _
theorem tb_and (x y : Int) (c : Nat) : tb (bits .and .u64 x y) c = (tb x c && tb y c) := by
 simp only [tb, bits, ofInt_toNat64, IntKind.bits]
 exact BitVec.getLsbD_and
def msk (c : Int) : Int := IntKind.wrap .u64 (1 * 2 ^ c.toNat)
theorem msk_bv {c : Int} (h1 : c ≤ 63) : BitVec.ofInt 64 (msk c) = BitVec.twoPow 64 c.toNat := by
 have h : c.toNat < 64 := by omega
 have hp : 2 ^ c.toNat < 2 ^ 64 := Nat.pow_lt_pow_right (by omega) h
 have e : (1 * 2 ^ c.toNat : Int) = ((2 ^ c.toNat : Nat) : Int) := by simp
 apply BitVec.eq_of_toNat_eq
 rw [BitVec.toNat_twoPow, BitVec.toNat_ofInt]
 unfold msk
 rw [e]
 generalize 2 ^ c.toNat = m at hp
 simp only [IntKind.wrap, IntKind.bits, IntKind.signed]
 simp
 omega
theorem tb_msk {c : Int} (h0 : 0 ≤ c) (h1 : c ≤ 63) (i : Nat) (hi : i < 64) : tb (msk c) i = decide ((i : Int) = c) := by
 have h : c.toNat < 64 := by omega
 simp only [tb, msk_bv h1, BitVec.getLsbD_twoPow]
 by_cases e : (i : Int) = c
 ·have : c.toNat = i := by omega
  simp [e, this, hi]
 ·have : ¬ c.toNat = i := by omega
  simp [e, this]
theorem and_msk {c : Int} (h0 : 0 ≤ c) (h1 : c ≤ 63) (x : Int) : decide (bits .and .u64 x (msk c) = 0) = !tb x c.toNat := by
 have h : c.toNat < 64 := by omega
 have e1 : bits .and .u64 x (msk c) = ((BitVec.ofInt 64 x &&& BitVec.ofInt 64 (msk c)).toNat : Int) := by
  have h2 : bits .and .u64 x (msk c) = IntKind.wrap .u64 ((BitVec.ofInt 64 x &&& BitVec.ofInt 64 (msk c)).toNat : Int) := rfl
  have := (BitVec.ofInt 64 x &&& BitVec.ofInt 64 (msk c)).isLt
  rw [h2]
  generalize (BitVec.ofInt 64 x &&& BitVec.ofInt 64 (msk c)).toNat = n at this
  simp only [IntKind.wrap, IntKind.bits, IntKind.signed]
  simp
  omega
 have e2 : (bits .and .u64 x (msk c) = 0) ↔ BitVec.ofInt 64 x &&& BitVec.ofInt 64 (msk c) = 0#64 := by
  rw [e1]
  constructor
  ·intro h
   apply BitVec.eq_of_toNat_eq
   simp only [BitVec.toNat_ofNat]
   have : (BitVec.ofInt 64 x &&& BitVec.ofInt 64 (msk c)).toNat = 0 := by omega
   rw [this]
  ·intro h; rw [h]; rfl
 cases ht : tb x c.toNat with
 | true =>
  refine decide_eq_false fun h' => ?_
  have h2 := e2.1 h'
  have h3 : tb (bits .and .u64 x (msk c)) c.toNat = false := by rw [h']; simp [tb]
  rw [tb_and, ht, tb_msk h0 h1 _ h] at h3
  simp at h3
  omega
 | false =>
  refine decide_eq_true (e2.2 ?_)
  rw [msk_bv h1]
  apply BitVec.eq_of_getLsbD_eq
  intro i hi
  rw [BitVec.getLsbD_and, BitVec.getLsbD_twoPow]
  by_cases q : c.toNat = i
  ·subst q
   have : (BitVec.ofInt 64 x).getLsbD c.toNat = false := ht
   simp [this]
  ·simp [q]
def upd (s : Int → Bool) (p : Int) (b : Bool) : Int → Bool := fun i => if i = p then b else s i
def cst (c : Int) (x : GAccess) (s : Int → Bool) : Int → Bool :=
 if x.Kind = 5 then upd s x.Place (s x.Place || decide (x.Content = c))
 else if x.Kind = 6 then upd s x.Place (s x.Place && !decide (x.Content = c))
 else if x.Kind = 7 then upd s x.Place (s x.Place || s x.From)
 else s
def cfo (c t : Int) (E : List GAccess) (s : Int → Bool) : Int → Bool := E.foldl (fun s x => if x.Time ≤ t then cst c x s else s) s
def hld (a : GEstate) (c t : Int) : Int → Bool := cfo c t a.Events fun _ => false
def wof (c : Int) (l : List Int) (s : Int → Bool) : Prop := ∀ i : Int, 0 ≤ i → i < l.length → tb (l.getD i.toNat default) c.toNat = s i
theorem wof_set {c : Int} {l : List Int} {s : Int → Bool} (h : wof c l s) {p w : Int} {b : Bool} (hp : 0 ≤ p) (hl : p < l.length) (hb : tb w c.toNat = b) : wof c (l.set p.toNat w) (upd s p b) := by
 intro i h0 h1
 rw [List.length_set] at h1
 simp only [upd, List.getD_eq_getElem?_getD, List.getElem?_set]
 by_cases e : i = p
 ·subst e
  simp [show i.toNat < l.length by omega, hb]
 ·rw [if_neg (by omega), if_neg e]
  have := h i h0 h1
  rwa [List.getD_eq_getElem?_getD] at this
theorem happen_cst {P c : Int} {l : List Int} {s : Int → Bool} {x : GAccess} (h0 : 0 ≤ c) (h1 : c ≤ 63) (h : xok P x) (hl : (l.length : Int) = P) (hw : wof c l s) : Ok (F_h l x) fun l' => l'.length = l.length ∧ wof c l' (cst c x s) := by
 obtain ⟨_, _, h3, h4, h5⟩ := h
 have hp : inb x.Place l.length = true := inb_iff.2 ⟨h3, by omega⟩
 have hc : c.toNat < 64 := by omega
 have hP := hw x.Place h3 (by omega)
 unfold F_h
 refine Ok.ite (fun q => ?_) fun q => Ok.ite (fun q2 => ?_) fun q2 => Ok.ite (fun q3 => ?_) fun q3 => ?_
 ·have q : x.Kind = 5 := by simpa using q
  refine Ok.chk hp (Ok.bind (Ok.of (bit_eq (by omega) (by omega)) rfl) fun b hb => Ok.chk hp (Ok.ret ⟨by simp, ?_⟩))
  simp only [cst, if_pos q]
  refine wof_set hw h3 (by omega) ?_
  rw [tb_or, hP, ← hb]
  congr 1
  rw [show IntKind.wrap .u64 (1 * 2 ^ x.Content.toNat) = msk x.Content from rfl, tb_msk (by omega) (by omega) _ hc]
  exact decide_eq_decide.2 (by omega)
 ·have q : ¬ x.Kind = 5 := by simpa using q
  have q2 : x.Kind = 6 := by simpa using q2
  refine Ok.chk hp (Ok.bind (Ok.of (bit_eq (by omega) (by omega)) rfl) fun b hb => Ok.chk hp (Ok.ret ⟨by simp, ?_⟩))
  simp only [cst, if_neg q, if_pos q2]
  refine wof_set hw h3 (by omega) ?_
  rw [tb_andNot _ _ hc, hP, ← hb]
  congr 2
  rw [show IntKind.wrap .u64 (1 * 2 ^ x.Content.toNat) = msk x.Content from rfl, tb_msk (by omega) (by omega) _ hc]
  exact decide_eq_decide.2 (by omega)
 ·have q : ¬ x.Kind = 5 := by simpa using q
  have q2 : ¬ x.Kind = 6 := by simpa using q2
  have q3 : x.Kind = 7 := by simpa using q3
  have hf : inb x.From l.length = true := inb_iff.2 ⟨by omega, by omega⟩
  refine Ok.chk hp (Ok.chk hf (Ok.chk hp (Ok.ret ⟨by simp, ?_⟩)))
  simp only [cst, if_neg q, if_neg q2, if_pos q3]
  refine wof_set hw h3 (by omega) ?_
  rw [tb_or, hP, hw x.From (by omega) (by omega)]
 ·have q : ¬ x.Kind = 5 := by simpa using q
  have q2 : ¬ x.Kind = 6 := by simpa using q2
  have q3 : ¬ x.Kind = 7 := by simpa using q3
  simp only [cst, if_neg q, if_neg q2, if_neg q3]
  exact Ok.ret ⟨rfl, hw⟩
theorem cat_hld {a : GEstate} (g : Good a) {c : Int} (h0 : 0 ≤ c) (h1 : c ≤ 63) (t : Int) : Ok (F_14 a t) fun l => (l.length : Int) = a.Places ∧ wof c l (hld a c t) := by
 have h2 := g.lo
 have h3 := g.hi
 unfold F_14
 refine Ok.chk (roomI_iff.2 ⟨by omega, by omega, by omega⟩) (Ok.bind (Ok.foldI (all := a.Events) (fun pre l => (l.length : Int) = a.Places ∧ wof c l (cfo c t pre fun _ => false)) a.Events [] 0 _ rfl rfl ⟨by simp; omega, fun i hi hl => ?_⟩ (fun pre x r s hw hs => ?_) fun s hs => hs) fun s hs => Ok.ret hs)
 ·simp only [cfo, List.foldl_nil, List.length_replicate] at hl ⊢
  rw [List.getD_eq_getElem?_getD, List.getElem?_replicate, if_pos (by omega)]
  simp [tb]
 ·unfold F_2p
  have hx := g.ev x (by rw [hw]; simp)
  refine Ok.ite (fun q => Ok.bind (happen_cst h0 h1 hx hs.1 hs.2) fun y hy => Ok.ret ⟨by rw [hy.1]; exact hs.1, ?_⟩) fun q => Ok.ret ⟨hs.1, ?_⟩
  ·have q : x.Time ≤ t := by simpa using q
   simp only [cfo, List.foldl_append, List.foldl_cons, List.foldl_nil, if_pos q]
   exact hy.2
  ·have q : ¬ x.Time ≤ t := by simpa using q
   simp only [cfo, List.foldl_append, List.foldl_cons, List.foldl_nil, if_neg q]
   exact hs.2
theorem whr_eq {a : GEstate} (g : Good a) {c : Int} (h0 : 0 ≤ c) (h1 : c ≤ 63) (t : Int) : whr a c t = ((List.range a.Places.toNat).filter fun i : Nat => hld a c t i).map fun i : Nat => (i : Int) := by
 have hc : F_2 c = some true := by simp [F_2, among_eq, h0, h1]
 have h2 := g.hi
 have h3 := g.lo
 refine Ok.val (Q := fun W => W = ((List.range a.Places.toNat).filter fun i : Nat => hld a c t i).map fun i : Nat => (i : Int)) ?_ (where_eq g h0 h1 t)
 simp only [F_s, check_eq, if_pos g, Option.bind_some, decide_true, Bool.not_true, cond_false, hc]
 refine Ok.bind (cat_hld g h0 h1 t) fun s hs => Ok.bind (Ok.foldI (all := s) (fun pre W => W = ((List.range pre.length).filter fun i : Nat => hld a c t i).map fun i : Nat => (i : Int)) s [] 0 _ rfl rfl rfl (fun pre x r W hw hW => ?_) fun W hW => by rw [hW, show s.length = a.Places.toNat by omega]) fun W hW => Ok.ret hW
 subst hW
 unfold F_2q
 have hp : pre.length < s.length := by rw [hw]; simp
 have hx := hs.2 (pre.length : Int) (by omega) (by omega)
 rw [Int.toNat_natCast, show s.getD pre.length default = x by rw [hw]; simp] at hx
 have hlen : (((List.range pre.length).filter fun i : Nat => hld a c t i).map fun i : Nat => (i : Int)).length ≤ pre.length := by
  rw [List.length_map]; exact Nat.le_trans (List.length_filter_le _ _) (by simp)
 refine Ok.bind (Ok.of (bit_eq h0 h1) rfl) fun b hb => ?_
 rw [← hb, show IntKind.wrap .u64 (1 * 2 ^ c.toNat) = msk c from rfl, and_msk h0 h1, hx, Bool.not_not]
 simp only [List.length_append, List.length_singleton, List.range_succ, List.filter_append, List.map_append]
 cases q : hld a c t (pre.length : Int) with
 | false => simp only [cond_false]; exact Ok.ret (by simp [q])
 | true =>
  simp only [cond_true]
  exact Ok.chk (room_smD (by simp only [List.length_map] at hlen ⊢; omega)) (Ok.ret (by simp [q]))
theorem mem_whr {a : GEstate} (g : Good a) {c : Int} (h0 : 0 ≤ c) (h1 : c ≤ 63) {t x : Int} : x ∈ whr a c t ↔ (0 ≤ x ∧ x ≤ a.Places - 1) ∧ hld a c t x = true := by
 have h3 := g.lo
 rw [whr_eq g h0 h1]
 simp only [List.mem_map, List.mem_filter, List.mem_range]
 constructor
 ·rintro ⟨i, ⟨h1, h2⟩, rfl⟩
  exact ⟨by omega, h2⟩
 ·rintro ⟨⟨h1, h2⟩, h3⟩
  refine ⟨x.toNat, ⟨by omega, ?_⟩, by omega⟩
  rwa [show ((x.toNat : Nat) : Int) = x by omega]
end Go.Ab
namespace Go.Ab
open Go.Proofs
def cutA (a : GEstate) (t : Int) : GEstate := ⟨a.Places, a.Events.filter fun x => decide (x.Time ≤ t)⟩
def cutD (d : GDirectory) (t : Int) : GDirectory := ⟨d.Kinds, d.Events.filter fun x => decide (x.Time ≤ t)⟩
theorem Good.cut {a : GEstate} (g : Good a) (t : Int) : Good (cutA a t) := g.sub List.filter_sublist
theorem GoodD.cut {d : GDirectory} (g : GoodD d) (t : Int) : GoodD (cutD d t) :=
 ⟨g.kl, Nat.le_trans (List.length_filter_le _ _) g.el, g.kd, fun x hx => g.ev x (List.mem_filter.1 hx).1, g.srt.sublist List.filter_sublist⟩
def lk1 (p t : Int) (b : Bool) (x : GAccess) : Bool :=
 if t < x.Time ∨ x.Place ≠ p then b else if x.Kind = 4 then false else if x.Kind = 3 ∧ t < x.Until then true else b
theorem lkf_lk1 (p t : Int) : ∀ (l : List GAccess) (i : Int) (s : Int × Bool), (lkf p t l i s).2 = l.foldl (lk1 p t) s.2
 | [], i, s => rfl
 | x :: r, i, s => by
  simp only [lkf, List.foldl_cons, lkf_lk1 p t r]
  congr 1
  simp only [lst, lk1]
  split
  ·rfl
  ·split
   ·rfl
   ·split <;> rfl
def zst (t : Int) (Z : Nat → Nat → Bool) (x : GMember) : Nat → Nat → Bool := fun j i => if x.Time ≤ t ∧ (j : Int) = x.Principal ∧ (i : Int) = x.Group then decide (x.Kind = 1) else Z j i
theorem zk_fold (t : Int) (E : List GMember) : ∀ k, k ≤ E.length → zk (ev4 (E.map fun e => (e.Time, e.Kind, e.Principal, e.Group))) t k = (E.take k).foldl (zst t) (fun _ _ => false)
 | 0, _ => rfl
 | k + 1, h => by
  rw [zk, zk_fold t E k (by omega), List.take_succ, List.getElem?_eq_getElem (by omega)]
  simp only [Option.toList_some, List.foldl_append, List.foldl_cons, List.foldl_nil]
  funext j i
  have e : ((E.map fun e => (e.Time, e.Kind, e.Principal, e.Group)).getD k (0,0,0,0)) = (E[k].Time, E[k].Kind, E[k].Principal, E[k].Group) := by
   rw [List.getD_eq_getElem?_getD, List.getElem?_map, List.getElem?_eq_getElem (by omega)]
   rfl
  simp only [zstep, ev4, e, zst]
theorem dlk_fold (d : GDirectory) (t : Int) : dlk d t = d.Events.foldl (zst t) (fun _ _ => false) := by
 rw [dlk, zk_fold t d.Events _ (Nat.le_refl _), List.take_length]
open Classical in
noncomputable def upL (L : Nat → Nat → Bool) (n p : Nat) : List Int := ((List.range n).filter fun i => decide (RT L n p i)).map fun i : Nat => (i : Int)
theorem find_iff {T : List Int} {q : Int → Bool} (hs : T.Pairwise fun x y => x ≤ y) {t : Int} : T.find? q = some t ↔ (t ∈ T ∧ q t = true) ∧ ∀ s ∈ T, q s = true → t ≤ s := by
 constructor
 ·intro h
  refine ⟨⟨List.mem_of_find?_eq_some h, List.find?_some h⟩, fun s hs1 hq => ?_⟩
  obtain ⟨t', h1, h2⟩ := find_first hs hs1 hq
  rw [h] at h1; cases h1; exact h2
 ·rintro ⟨⟨h1, h2⟩, h3⟩
  obtain ⟨t', h4, h5⟩ := find_first hs h1 h2
  have := h3 t' (List.mem_of_find?_eq_some h4) (List.find?_some h4)
  have : t' = t := by omega
  rw [h4, this]
end Go.Ab
