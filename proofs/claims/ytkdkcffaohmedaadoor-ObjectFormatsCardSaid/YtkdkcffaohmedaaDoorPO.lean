/- Plain forms of the checks of objects. -/
import Derived.Test.YtkdkcffaohmedaaDoorLA
import Derived.Test.YtkdkcffaohmedaaDoorAbHo
import Derived.Test.YtkdkcffaohmedaaDoorAbStr
import Derived.Test.YtkdkcffaohmedaaDoorLC
import Derived.KernelRfl
set_option linter.all false
set_option linter.all false
namespace Go.Ab
theorem forL_allN {α ρ : Type} {body : Int → α → Unit → Option (Fl Unit ρ)} {p : Nat → Bool} {r : ρ} : ∀ (xs : List α) (k : Nat), (∀ i (hi : i < xs.length), body ((k + i : Nat) : Int) xs[i] () = some (bif p (k + i) then .nx () else .ex r)) →
  forL body xs k () = some (bif (List.range' k xs.length).all p then .nx () else .ex r)
 | [], k, h => rfl
 | x :: q, k, h => by
  have h0 := h 0 (by simp)
  simp only [Nat.add_zero, List.getElem_cons_zero] at h0
  simp only [forL, h0, Option.bind_some, List.length_cons, List.range'_succ, List.all_cons]
  cases hp : p k with
  | false => rfl
  | true =>
   have := forL_allN q (k + 1) fun i hi => by
    have := h (i + 1) (by simpa using hi)
    rw [show k + 1 + i = k + (i + 1) by omega]
    simpa using this
   simpa [Fl.elim] using this
theorem loop_allN {ρ σ : Type} {step : Int → Option (Fl Int (Sum Unit ρ))} {p : Nat → Bool} {r : ρ} {n : Nat} (h2 : step n = some (.ex (.inl ()))) (h : ∀ i, i < n → step (i : Int) = some (bif p i then .nx ((i : Int) + 1) else .ex (.inr r))) : ∀ (m k : Nat), k + m = n →
  loop step k = some (bif (List.range' k m).all p then .inl () else .inr r)
 | 0, k, e => by
  obtain rfl : k = n := by omega
  rw [loop_eq, h2]; rfl
 | m + 1, k, e => by
  rw [loop_eq, h k (by omega)]
  simp only [Option.bind_some, List.range'_succ, List.all_cons]
  cases hp : p k with
  | false => rfl
  | true =>
   have := loop_allN (σ := σ) h2 h m (k + 1) (by omega)
   simpa [Fl.elim] using this
theorem loop_all0 {ρ : Type} {step : Int → Option (Fl Int (Sum Unit ρ))} {p : Nat → Bool} {r : ρ} {n : Nat} (h2 : step n = some (.ex (.inl ()))) (h : ∀ i, i < n → step (i : Int) = some (bif p i then .nx ((i : Int) + 1) else .ex (.inr r))) :
  loop step 0 = some (bif (List.range' 0 n).all p then .inl () else .inr r) := loop_allN (σ := Unit) h2 h n 0 (by omega)
theorem forL_all0 {α ρ : Type} {body : Int → α → Unit → Option (Fl Unit ρ)} {p : Nat → Bool} {r : ρ} (xs : List α) (h : ∀ i (hi : i < xs.length), body (i : Int) xs[i] () = some (bif p i then .nx () else .ex r)) :
  forL body xs 0 () = some (bif (List.range' 0 xs.length).all p then .nx () else .ex r) := forL_allN xs 0 fun i hi => by simpa using h i hi
def idB (n : Int) : Bool := decide (1 ≤ n) && decide (n ≤ 1073741824)
def chB (s : Str) (i : Nat) : Bool := !(decide (((s.getD i 0).toNat : Int) < 33) || decide (126 < ((s.getD i 0).toNat : Int)) || decide (((s.getD i 0).toNat : Int) = 47))
def nmB (s : Str) : Bool := (List.range' 0 s.length).all (chB s) && (decide (1 ≤ (s.length : Int)) && decide ((s.length : Int) ≤ 40))
theorem number_eq (n : Int) : F_5 n = some (idB n) := rfl
theorem rid_eq (n : Int) : F_7 n = some (idB n) := rfl
theorem name_eq (s : Str) : F_9 s = some (nmB s) := by
 unfold F_9
 rw [forL_all0 (p := chB s) (r := false) s fun i hi => by
  have : s.getD i 0 = s[i] := by simp [hi]
  simp only [F_16, chB, this, grp]
  cases decide ((s[i].toNat : Int) < 33) <;> cases decide (126 < (s[i].toNat : Int)) <;> cases decide ((s[i].toNat : Int) = 47) <;> rfl]
 unfold nmB grp
 cases (List.range' 0 s.length).all (chB s) <;> rfl
theorem in64_kn {i n : Nat} (hi : i < n) (h : (n : Int) ≤ 9223372036854775807) : in64 ((i : Int) + 1) = true := kI (Int.le_trans (Int.ofNat_le.2 (Nat.succ_le_of_lt hi)) h)
theorem rname_eq {s : Str} (h : (s.length : Int) ≤ 9223372036854775807) : F_b s = some (nmB s) := by
 unfold F_b
 rw [loop_all0 (p := chB s) (r := false) (n := s.length) (by unfold F_1c; rw [dlt]; rfl) fun i hi => by
  have e : ((i : Int)).toNat = i := by simp
  have c : decide ((i : Int) < (s.length : Int)) = true := by simpa using hi
  have c2 : inb (i : Int) s.length = true := kB hi
  have c3 : in64 ((i : Int) + 1) = true := in64_kn hi h
  simp only [F_1c, chB, c, c2, c3, e, chk, cond_true]
  cases decide (((s.getD i 0).toNat : Int) < 33) <;> cases decide (126 < ((s.getD i 0).toNat : Int)) <;> cases decide (((s.getD i 0).toNat : Int) = 47) <;> simp]
 unfold nmB grp
 cases (List.range' 0 s.length).all (chB s) <;> simp only [cond_true, cond_false, Option.bind_some, Sum.elim_inl, Sum.elim_inr, Bool.true_and, Bool.false_and]
theorem less_tri : ∀ (x y : Str), (!Op.bytesLess x y) = (Op.bytesLess y x || decide (y = x))
 | [],[] => by simp [Op.bytesLess]
 | _ :: _, [] => by simp [Op.bytesLess]
 | [], _ :: _ => by simp [Op.bytesLess]
 | a :: x, b :: y => by
  have ih := less_tri x y
  simp only [Op.bytesLess]
  by_cases h1 : a < b
  ·have h2 : ¬ b < a := fun h => absurd h1 (by simpa using UInt8.le_of_lt h)
   have h3 : b ≠ a := fun h => by subst h; exact absurd h1 (by simp)
   simp [h1, h2, h3]
  ·by_cases h2 : b < a
   ·have h3 : a ≠ b := fun h => by subst h; exact absurd h2 (by simp)
    simp [h1, h2, h3]
   ·have h3 : a = b := UInt8.le_antisymm (by simpa using h2) (by simpa using h1)
    subst h3
    simp [h1, ih]
def trB (l : List GItem) (i : Nat) : Bool := nmB (l.getD i default).Name && (idB (l.getD i default).ID && (decide (i = 0) || Op.bytesLess (l.getD (i - 1) default).Name (l.getD i default).Name))
theorem tree_eq {o : GObject} (h : o.Items.length ≤ 1000) : F_f o = some ((List.range' 0 o.Items.length).all (trB o.Items)) := by
 unfold F_f
 rw [forL_all0 (p := trB o.Items) (r := false) o.Items fun i hi => by
  have e1 : o.Items.getD i default = o.Items[i] := by simp [hi]
  simp only [F_17, trB, name_eq, number_eq, Option.bind_some, e1]
  cases nmB o.Items[i].Name with
  | false => rfl
  | true =>
   cases idB o.Items[i].ID with
   | false => rfl
   | true =>
    by_cases h0 : i = 0
    ·subst h0; rfl
    ·have c : decide ((0 : Int) < (i : Int)) = true := by simp; omega
     have e : ((i : Int) - 1).toNat = i - 1 := by omega
     have c1 : in64 ((i : Int) - 1) = true := in64_iff.2 ⟨by omega, by omega⟩
     have c2 : inb ((i : Int) - 1) o.Items.length = true := inb_iff.2 ⟨by omega, by omega⟩
     have c4 : decide (i = 0) = false := by simpa using h0
     simp only [c, c1, c2, c4, e, chk, cond_true, Bool.not_true, cond_false, Bool.true_and, Bool.false_or]
     cases Op.bytesLess (o.Items.getD (i - 1) default).Name o.Items[i].Name <;> rfl]
 cases (List.range' 0 o.Items.length).all (trB o.Items) <;> rfl
theorem rtree_eq {o : GObject} (h : o.Items.length ≤ 1000) (hn : ∀ x ∈ o.Items, (x.Name.length : Int) ≤ 9223372036854775807) : F_m o = some ((List.range' 0 o.Items.length).all (trB o.Items) && (decide ((o.Data.length : Int) = 0) && decide (o.Tree = 0) && decide ((o.Parents.length : Int) = 0) && decide (o.Author = []) && decide (o.Time = 0))) := by
 unfold F_m
 rw [loop_all0 (p := trB o.Items) (r := false) (n := o.Items.length) (by simp [F_1d]) fun i hi => by
  have e1 : o.Items.getD i default = o.Items[i] := by simp [hi]
  have e : ((i : Int)).toNat = i := by simp
  have c : decide ((i : Int) < (o.Items.length : Int)) = true := by simpa using hi
  have c2 : inb (i : Int) o.Items.length = true := inb_iff.2 ⟨by omega, by omega⟩
  have c3 : in64 ((i : Int) + 1) = true := in64_iff.2 ⟨by omega, by omega⟩
  simp only [F_1d, trB, rid_eq, Option.bind_some, e, e1, c, c2, c3, chk, cond_true, rname_eq (hn _ (List.getElem_mem hi)), jn]
  cases nmB o.Items[i].Name with
  | false => rfl
  | true =>
   cases idB o.Items[i].ID with
   | false => rfl
   | true =>
    by_cases h0 : i = 0
    ·subst h0; rfl
    ·have c' : decide ((0 : Int) < (i : Int)) = true := by simp; omega
     have e' : ((i : Int) - 1).toNat = i - 1 := by omega
     have c1 : in64 ((i : Int) - 1) = true := in64_iff.2 ⟨by omega, by omega⟩
     have c2' : inb ((i : Int) - 1) o.Items.length = true := inb_iff.2 ⟨by omega, by omega⟩
     have c4 : decide (i = 0) = false := by simpa using h0
     simp only [c', c1, c2', c4, e', cond_true, Bool.not_true, cond_false, Bool.true_and, Bool.false_or, ← less_tri]
     cases Op.bytesLess (o.Items.getD (i - 1) default).Name o.Items[i].Name <;> rfl]
 unfold grp
 cases (List.range' 0 o.Items.length).all (trB o.Items) <;> rfl
theorem index_eq (v : Int) : ∀ (s : List Int) (k : Int),0 ≤ k → ∃ j, 0 ≤ j ∧ forL (F_v v) s k () = some (bif s.any (fun z => decide (v = z)) then .ex j else .nx ())
 | [], k, h => ⟨0, by omega, rfl⟩
 | x :: q, k, h => by
  simp only [forL, F_v, List.any_cons]
  by_cases hx : v = x
  ·exact ⟨k, h, by simp [hx, Fl.elim]⟩
  ·obtain ⟨j, h1, h2⟩ := index_eq v q (k + 1) (by omega)
   exact ⟨j, h1, by simpa [hx, Fl.elim] using h2⟩
theorem contains_eq (s : List Int) (v : Int) : F_g s v = some (s.any (fun z => decide (v = z))) := by
 unfold F_g F_w
 obtain ⟨j, h1, h2⟩ := index_eq v s 0 (by omega)
 rw [h2]
 cases s.any (fun z => decide (v = z)) with
 | false => rfl
 | true => simp [h1, Fl.elim]
def duB (l : List Int) (i j : Nat) : Bool := !decide (l.getD j default = l.getD i default)
def coB (l : List Int) (i : Nat) : Bool := idB (l.getD i default) && (List.range' 0 i).all (duB l i)
theorem any_take {l : List Int} {i : Nat} (hi : i < l.length) : (l.take i).any (fun z => decide (l[i] = z)) = !(List.range' 0 i).all (duB l i) := by
 have e1 : l.getD i default = l[i] := by simp [hi]
 rw [Bool.eq_iff_iff]
 simp only [List.any_eq_true, Bool.not_eq_true', List.all_eq_false, List.mem_range'_1, duB, e1, decide_eq_true_eq]
 constructor
 ·rintro ⟨z, hz, e⟩
  obtain ⟨j, hj, rfl⟩ := List.mem_take_iff_getElem.1 hz
  refine ⟨j, by omega, ?_⟩
  have : j < l.length := by omega
  simp [this, e]
 ·rintro ⟨j, hj, e⟩
  have hjl : j < l.length := by omega
  refine ⟨l[j], List.mem_take_iff_getElem.2 ⟨j, by omega, rfl⟩, ?_⟩
  have : l.getD j default = l[j] := by simp [hjl]
  rw [this] at e
  have e' : l[j] = l[i] := by simpa using e
  simpa using e'.symm
def cmB (o : GObject) : Bool := decide (0 ≤ o.Time) && decide (o.Time ≤ 1099511627776)
theorem commit_eq {o : GObject} (h : o.Parents.length ≤ 1000) : F_h o = some ((List.range' 0 o.Parents.length).all (coB o.Parents) && (idB o.Tree && nmB o.Author && cmB o)) := by
 unfold F_h
 rw [forL_all0 (p := coB o.Parents) (r := false) o.Parents fun i hi => by
  have e1 : o.Parents.getD i default = o.Parents[i] := by simp [hi]
  have e : ((i : Int)).toNat = i := by simp
  have c : inc 0 (i : Int) o.Parents.length = true := inc_iff.2 ⟨by omega, by omega, by omega⟩
  simp only [F_18, coB, number_eq, Option.bind_some, e1, e, c, chk, cond_true, contains_eq, any_take hi]
  cases idB o.Parents[i] with
  | false => rfl
  | true => cases (List.range' 0 i).all (duB o.Parents i) <;> rfl]
 simp only [number_eq, name_eq, grp, jn, Option.bind_some, cmB]
 cases (List.range' 0 o.Parents.length).all (coB o.Parents) <;> cases idB o.Tree <;> cases nmB o.Author <;> rfl
theorem rcommit_eq {o : GObject} (h : o.Parents.length ≤ 1000) (hn : (o.Author.length : Int) ≤ 9223372036854775807) : F_n o = some ((List.range' 0 o.Parents.length).all (coB o.Parents) && (decide ((o.Data.length : Int) = 0) && decide ((o.Items.length : Int) = 0) && idB o.Tree && nmB o.Author && cmB o)) := by
 unfold F_n
 rw [loop_all0 (p := coB o.Parents) (r := false) (n := o.Parents.length) (by simp [F_1e]) fun i hi => by
  have e1 : o.Parents.getD i default = o.Parents[i] := by simp [hi]
  have e : ((i : Int)).toNat = i := by simp
  have c : decide ((i : Int) < (o.Parents.length : Int)) = true := by simpa using hi
  have c2 : inb (i : Int) o.Parents.length = true := inb_iff.2 ⟨by omega, by omega⟩
  have c3 : in64 ((i : Int) + 1) = true := in64_iff.2 ⟨by omega, by omega⟩
  have hin := loop_all0 (step := F_10 o i) (p := duB o.Parents i) (r := false) (n := i) (by simp [F_10]) fun j hj => by
   have e2 : ((j : Int)).toNat = j := by simp
   have d : decide ((j : Int) < (i : Int)) = true := by simpa using hj
   have d2 : inb (j : Int) o.Parents.length = true := inb_iff.2 ⟨by omega, by omega⟩
   have d3 : in64 ((j : Int) + 1) = true := in64_iff.2 ⟨by omega, by omega⟩
   simp only [F_10, duB, e, e2, d, d2, d3, c2, chk, cond_true]
   cases decide (o.Parents.getD j default = o.Parents.getD i default) <;> rfl
  simp only [F_1e, coB, rid_eq, Option.bind_some, e, c, c2, c3, chk, cond_true, hin]
  cases idB (o.Parents.getD i default) with
  | false => rfl
  | true => cases (List.range' 0 i).all (duB o.Parents i) <;> rfl]
 simp only [rid_eq, rname_eq hn, grp, jn, Option.bind_some, cmB]
 cases (List.range' 0 o.Parents.length).all (coB o.Parents) <;> cases decide ((o.Data.length : Int) = 0) <;> cases decide ((o.Items.length : Int) = 0) <;> cases idB o.Tree <;> cases nmB o.Author <;> rfl
end Go.Ab
namespace Go.Ab
def Few (o : GObject) : Prop := o.Data.length ≤ 3000 ∧ o.Items.length ≤ 80 ∧ o.Parents.length ≤ 20 ∧ o.Author.length ≤ 100
def Lng (o : GObject) : Prop := ∀ x ∈ o.Items, (x.Name.length : Int) ≤ 9223372036854775807
def VO (o : GObject) : Prop := o.Kind = 1 ∨ (o.Kind = 2 ∧ ∀ x ∈ o.Items, x.Name.length ≤ 40 ∧ 0 ≤ x.ID ∧ x.ID ≤ 1073741824) ∨ (o.Kind = 3 ∧ (∀ x ∈ o.Parents, 0 ≤ x ∧ x ≤ 1073741824) ∧ 0 ≤ o.Tree ∧ o.Tree ≤ 1073741824 ∧ o.Author.length ≤ 40 ∧ 0 ≤ o.Time ∧ o.Time ≤ 1099511627776)
def trA (o : GObject) : Bool := (List.range' 0 o.Items.length).all (trB o.Items)
def coA (o : GObject) : Bool := (List.range' 0 o.Parents.length).all (coB o.Parents) && (idB o.Tree && nmB o.Author && cmB o)
def oth (o : GObject) : Bool := decide (o.Tree = 0) && decide ((o.Parents.length : Int) = 0) && decide (o.Author = []) && decide (o.Time = 0)
def ryt (o : GObject) : Bool := (decide (o.Kind = 1) && (decide ((o.Items.length : Int) = 0) && oth o)) || (decide (o.Kind = 2) && (decide ((o.Data.length : Int) = 0) && oth o && trA o)) || (decide (o.Kind = 3) && (decide ((o.Data.length : Int) = 0) && decide ((o.Items.length : Int) = 0) && coA o))
def vlB (o : GObject) : Int := bif !idB o.ID then 2 else bif decide (65536 < (o.Data.length : Int)) || decide (64 < (o.Items.length : Int)) || decide (8 < (o.Parents.length : Int)) then 3 else bif ryt o then 0 else 1
theorem pos_ne (n : Nat) : decide (0 < (n : Int)) = !decide ((n : Int) = 0) := by
 cases n with
 | zero => rfl
 | succ n =>
  have h1 : (0 : Int) < ((n + 1 : Nat) : Int) := by omega
  have h2 : ¬ ((n + 1 : Nat) : Int) = 0 := by omega
  rw [decide_eq_true h1, decide_eq_false h2]; rfl
theorem right_eq {o : GObject} (h : Few o) : F_i o = some (ryt o) := by
 obtain ⟨h1, h2, h3, h4⟩ := h
 unfold F_i ryt
 rw [tree_eq (by omega), commit_eq (by omega), pos_ne]
 simp only [grp, jn, Option.bind_some, oth, trA, coA]
 by_cases k1 : o.Kind = 1
 ·have k2 : ¬ o.Kind = 2 := by omega
  have k3 : ¬ o.Kind = 3 := by omega
  rw [decide_eq_true k1, decide_eq_false k2, decide_eq_false k3]
  cases decide (o.Tree = 0) <;> cases decide ((o.Parents.length : Int) = 0) <;> cases decide (o.Author = []) <;> cases decide (o.Time = 0) <;> cases decide ((o.Items.length : Int) = 0) <;> rfl
 ·by_cases k2 : o.Kind = 2
  ·have k3 : ¬ o.Kind = 3 := by omega
   rw [decide_eq_false k1, decide_eq_true k2, decide_eq_false k3]
   generalize (List.range' 0 o.Items.length).all (trB o.Items) = b
   cases decide (o.Tree = 0) <;> cases decide ((o.Parents.length : Int) = 0) <;> cases decide (o.Author = []) <;> cases decide (o.Time = 0) <;> cases decide ((o.Data.length : Int) = 0) <;> cases b <;> rfl
  ·by_cases k3 : o.Kind = 3
   ·rw [decide_eq_false k1, decide_eq_false k2, decide_eq_true k3]
    generalize ((List.range' 0 o.Parents.length).all (coB o.Parents) && (idB o.Tree && nmB o.Author && cmB o)) = b
    cases decide ((o.Items.length : Int) = 0) <;> cases decide ((o.Data.length : Int) = 0) <;> cases b <;> rfl
   ·rw [decide_eq_false k1, decide_eq_false k2, decide_eq_false k3]; rfl
theorem valid_eq {o : GObject} (h : Few o) : F_a o = some (vlB o) := by
 unfold F_a vlB
 rw [number_eq, right_eq h]
 simp only [grp, Option.bind_some]
 cases idB o.ID <;> cases decide (65536 < (o.Data.length : Int)) <;> cases decide (64 < (o.Items.length : Int)) <;> cases decide (8 < (o.Parents.length : Int)) <;> cases ryt o <;> rfl
theorem rvalid_eq {o : GObject} (h : Few o) (hl : Lng o) : F_c o = some (vlB o) := by
 obtain ⟨h1, h2, h3, h4⟩ := h
 unfold F_c vlB
 rw [rid_eq, rtree_eq (by omega) hl, rcommit_eq (by omega) (by omega)]
 simp only [grp, jn, Option.bind_some, F_z]
 unfold ryt
 have key : ∀ b : Bool, o.Kind = 1 → decide (o.Kind = 2) = false ∧ decide (o.Kind = 3) = false := fun b k => ⟨decide_eq_false (by omega), decide_eq_false (by omega)⟩
 by_cases k1 : o.Kind = 1
 ·rw [(key true k1).1, (key true k1).2, decide_eq_true k1]
  simp only [oth]
  cases idB o.ID <;> cases decide (65536 < (o.Data.length : Int)) <;> cases decide (64 < (o.Items.length : Int)) <;> cases decide (8 < (o.Parents.length : Int)) <;> cases decide (o.Tree = 0) <;> cases decide ((o.Parents.length : Int) = 0) <;> cases decide (o.Author = []) <;> cases decide (o.Time = 0) <;> cases decide ((o.Items.length : Int) = 0) <;> rfl
 ·by_cases k2 : o.Kind = 2
  ·have k3 : ¬ o.Kind = 3 := by omega
   rw [decide_eq_false k1, decide_eq_true k2, decide_eq_false k3]
   simp only [oth, trA]
   generalize (List.range' 0 o.Items.length).all (trB o.Items) = b
   cases idB o.ID <;> cases decide (65536 < (o.Data.length : Int)) <;> cases decide (64 < (o.Items.length : Int)) <;> cases decide (8 < (o.Parents.length : Int)) <;> cases decide (o.Tree = 0) <;> cases decide ((o.Parents.length : Int) = 0) <;> cases decide (o.Author = []) <;> cases decide (o.Time = 0) <;> cases decide ((o.Data.length : Int) = 0) <;> cases b <;> rfl
  ·by_cases k3 : o.Kind = 3
   ·rw [decide_eq_false k1, decide_eq_false k2, decide_eq_true k3]
    simp only [coA]
    generalize (List.range' 0 o.Parents.length).all (coB o.Parents) = b
    cases idB o.ID <;> cases decide (65536 < (o.Data.length : Int)) <;> cases decide (64 < (o.Items.length : Int)) <;> cases decide (8 < (o.Parents.length : Int)) <;> cases decide ((o.Items.length : Int) = 0) <;> cases decide ((o.Data.length : Int) = 0) <;> cases b <;> cases idB o.Tree <;> cases nmB o.Author <;> cases cmB o <;> rfl
   ·rw [decide_eq_false k1, decide_eq_false k2, decide_eq_false k3]
    cases idB o.ID <;> cases decide (65536 < (o.Data.length : Int)) <;> cases decide (64 < (o.Items.length : Int)) <;> cases decide (8 < (o.Parents.length : Int)) <;> rfl
theorem idB_iff {n : Int} (h : idB n = true) : 0 ≤ n ∧ n ≤ 1073741824 := by
 unfold idB at h; simp at h; omega
theorem nmB_len {s : Str} (h : nmB s = true) : s.length ≤ 40 := by
 unfold nmB at h; simp at h; omega
theorem getD_all {α : Type} [Inhabited α] {l : List α} {p : Nat → Bool} (h : (List.range' 0 l.length).all p = true) {x : α} (hx : x ∈ l) : ∃ i, l.getD i default = x ∧ p i = true := by
 obtain ⟨i, hi, rfl⟩ := List.getElem_of_mem hx
 refine ⟨i, by simp [hi], ?_⟩
 rw [List.all_eq_true] at h
 exact h i (by simp; exact hi)
theorem vl_VO {o : GObject} (h : vlB o = 0) : VO o := by
 have hr : ryt o = true := by
  unfold vlB at h
  cases hc : ryt o with
  | true => rfl
  | false =>
   rw [hc] at h
   revert h
   cases idB o.ID <;> cases (decide (65536 < (o.Data.length : Int)) || decide (64 < (o.Items.length : Int)) || decide (8 < (o.Parents.length : Int))) <;> exact fun h => absurd h (by decide)
 unfold ryt at hr
 have hr : ((o.Kind = 1 ∧ (decide ((o.Items.length : Int) = 0) && oth o) = true) ∨ (o.Kind = 2 ∧ (decide ((o.Data.length : Int) = 0) && oth o && trA o) = true)) ∨ (o.Kind = 3 ∧ (decide ((o.Data.length : Int) = 0) && decide ((o.Items.length : Int) = 0) && coA o) = true) := by
  rcases (Bool.or_eq_true _ _).mp hr with h | h
  ·rcases (Bool.or_eq_true _ _).mp h with h | h
   ·exact .inl (.inl ⟨of_decide_eq_true ((Bool.and_eq_true _ _).mp h).1, ((Bool.and_eq_true _ _).mp h).2⟩)
   ·exact .inl (.inr ⟨of_decide_eq_true ((Bool.and_eq_true _ _).mp h).1, ((Bool.and_eq_true _ _).mp h).2⟩)
  ·exact .inr ⟨of_decide_eq_true ((Bool.and_eq_true _ _).mp h).1, ((Bool.and_eq_true _ _).mp h).2⟩
 rcases hr with (⟨k, _⟩ | ⟨k, h2⟩) | ⟨k, h3⟩
 ·exact .inl k
 ·refine .inr (.inl ⟨k, fun x hx => ?_⟩)
  rw [Bool.and_eq_true] at h2
  obtain ⟨i, e, hp⟩ := getD_all h2.2 hx
  unfold trB at hp
  rw [e, Bool.and_eq_true, Bool.and_eq_true] at hp
  exact ⟨nmB_len hp.1, idB_iff hp.2.1⟩
 ·rw [Bool.and_eq_true] at h3
  have h4 := h3.2
  unfold coA at h4
  rw [Bool.and_eq_true, Bool.and_eq_true, Bool.and_eq_true] at h4
  obtain ⟨h5, ⟨h6, h7⟩, h8⟩ := h4
  refine .inr (.inr ⟨k, fun x hx => ?_, (idB_iff h6).1, (idB_iff h6).2, nmB_len h7, ?_⟩)
  ·obtain ⟨i, e, hp⟩ := getD_all h5 hx
   unfold coB at hp
   rw [e, Bool.and_eq_true] at hp
   exact idB_iff hp.1
  ·unfold cmB at h8; simpa using h8
end Go.Ab
namespace Go.Ab
theorem foldL_app {α : Type} {body : Int → α → List UInt8 → Option (List UInt8)} {f : α → Str} : ∀ (xs : List α) (k : Int) (s : Str), (∀ k x (s : Str), x ∈ xs → s.length ≤ 1000000 → body k x s = some (s ++ f x)) → (∀ x ∈ xs, (f x).length ≤ 1000) → s.length + 1000 * xs.length ≤ 1000000 → foldL body xs k s = some (s ++ xs.flatMap f)
 | [], k, s, h, hl, hs => by simp [foldL]
 | x :: q, k, s, h, hl, hs => by
  have h1 := hl x (by simp)
  simp only [List.length_cons] at hs
  simp only [foldL, h k x s (by simp) (by omega), Option.bind_some, List.flatMap_cons]
  rw [foldL_app q (k + 1) (s ++ f x) (fun k x s hx => h k x s (by simp [hx])) (fun x hx => hl x (by simp [hx])) (by rw [List.length_append]; omega), List.append_assoc]
theorem loop_app {α : Type} {step : Str × Int → Option (Fl (Str × Int) Str)} {f : α → Str} {all : List α} (h2 : ∀ s : Str, step (s, (all.length : Int)) = some (.ex s)) (h : ∀ (i : Nat) (hi : i < all.length) (s : Str), s.length ≤ 1000000 → step (s, (i : Int)) = some (.nx (s ++ f all[i], (i : Int) + 1))) (hl : ∀ x ∈ all, (f x).length ≤ 1000) :
  ∀ (xs : List α) (pre : List α) (s : Str), all = pre ++ xs → s.length + 1000 * xs.length ≤ 1000000 → loop step (s, (pre.length : Int)) = some (s ++ xs.flatMap f)
 | [], pre, s, e, hs => by
  have : pre.length = all.length := by rw [e]; simp
  rw [loop_eq, this, h2]; simp [Fl.elim]
 | x :: q, pre, s, e, hs => by
  have hi : pre.length < all.length := by rw [e]; simp
  have ex : all[pre.length] = x := by simp [e]
  have h1 := hl x (by rw [e]; simp)
  simp only [List.length_cons] at hs
  rw [loop_eq, h pre.length hi s (by omega), ex]
  have := loop_app h2 h hl q (pre ++ [x]) (s ++ f x) (by simp [e]) (by rw [List.length_append]; omega)
  simp only [List.length_append, List.length_cons, List.length_nil, Nat.zero_add] at this
  simpa [Fl.elim] using this
theorem strl_sm {n : Nat} (h : n ≤ 100000000) : strl n = true := strl_iff.2 (by omega)
theorem room_sO {n : Nat} (h : n ≤ 100000000) : room n 1 = true := room_iff.2 (by omega)
theorem itoa_nat (u : Nat) : Lib.itoa (u : Int) = Lib.decDigits u := by
 unfold Lib.itoa
 rw [if_neg (by omega)]; rfl
theorem itoaI_sm {n : Int} (h0 : 0 ≤ n) (h : n ≤ 1099511627776) : itoaI n = some (Lib.itoa n) := by
 unfold itoaI chk
 rw [in64_iff.2 ⟨by omega, by omega⟩]; rfl
theorem itoa_sm {n : Int} (h0 : 0 ≤ n) (h : n ≤ 1099511627776) : (Lib.itoa n).length ≤ 21 := Lib.itoa_length_le n (by omega) (by omega)
theorem dig_eq {u : Nat} : u8 (48 + ((u8 (u : Int)).toNat : Int)) = UInt8.ofNat (48 + u) := by
 apply UInt8.toNat_inj.1
 have h := u8_toNat (48 + ((u8 (u : Int)).toNat : Int))
 have h3 := u8_toNat (u : Int)
 have h2 : (UInt8.ofNat (48 + u)).toNat = (48 + u) % 256 := by simp
 rw [h2]
 omega
theorem number_ev (u : Nat) (h : u ≤ 1099511627776) : EvS (fun m => FR_1 m (u : Int)) (Lib.decDigits u) := by
 induction u using Nat.strongRecOn with
 | _ u ih =>
  by_cases c : u < 10
  ·refine ⟨1, fun m hm => ?_⟩
   obtain ⟨m, rfl⟩ : ∃ k, m = k + 1 := ⟨m - 1, by omega⟩
   have c' : decide ((u : Int) < 10) = true := by simp; omega
   simp only [FR_1]
   rw [c', Lib.decDigits, dif_pos c, dig_eq]
   rfl
  ·obtain ⟨n, hn⟩ := ih (u / 10) (by omega) (by omega)
   refine ⟨n + 1, fun m hm => ?_⟩
   obtain ⟨m, rfl⟩ : ∃ k, m = k + 1 := ⟨m - 1, by omega⟩
   have c' : decide ((u : Int) < 10) = false := by simp; omega
   have c2 : divs (u : Int) 10 = true := divs_iff.2 ⟨by omega, by omega⟩
   have e1 : (u : Int) / 10 = ((u / 10 : Nat) : Int) := by omega
   have e2 : (u : Int) % 10 = ((u % 10 : Nat) : Int) := by omega
   have hl : (Lib.decDigits (u / 10)).length ≤ 21 := by rw [← itoa_nat]; exact itoa_sm (by omega) (by omega)
   simp only [FR_1]
   have := hn m (by omega)
   simp only at this
   have hd : Lib.decDigits u = Lib.decDigits (u / 10) ++ [UInt8.ofNat (48 + u % 10)] := by
    rw [Lib.decDigits, dif_neg c]
   rw [c', c2, e1, e2, this, hd]
   simp only [dig_eq]
   simp only [cond_false, chk, cond_true, Option.bind_some]
   rw [strl_sm (by simp; omega)]
   rfl
theorem rnumber_eq {n : Int} (h0 : 0 ≤ n) (h : n ≤ 1099511627776) : F_1 n = some (Lib.itoa n) := by
 obtain ⟨u, rfl⟩ : ∃ u : Nat, n = u := ⟨n.toNat, by omega⟩
 rw [itoa_nat]
 exact lim_of (number_ev u (by omega))
def itB (x : GItem) : Str := ((Lib.itoa x.ID ++ [32]) ++ x.Name) ++ [10]
def paB (n : Int) : Str := ([112,97,114,101,110,116,32] ++ Lib.itoa n) ++ [10]
theorem bws_sm {b s : Str} (h : b.length + s.length ≤ 100000000) : bws b s = some (b ++ s) := by
 unfold bws chk
 rw [room_sO h]; rfl
theorem write1_eq {w r p : Str} (h1 : w.length ≤ 1000) (h2 : r.length ≤ 1000) (h3 : p.length ≤ 10000000) : F_2 w r p = some (p ++ (((w ++ [32]) ++ r) ++ [10])) := by
 unfold F_2 chk
 rw [strl_sm (by simp; omega), strl_sm (by simp; omega), strl_sm (by simp; omega), bws_sm (by simp; omega)]
 rfl
theorem write_eq {o : GObject} (hf : Few o) (h : VO o) : ∃ y, F_6 o = some y ∧ F_d o = some y := by
 obtain ⟨f1, f2, f3, f4⟩ := hf
 rcases h with k | ⟨k, hi⟩ | ⟨k, hp, t1, t2, a1, m1, m2⟩
 ·refine ⟨[98,108,111,98,10] ++ o.Data, ?_, ?_⟩
  ·unfold F_6 chk
   rw [decide_eq_true k, room_sO (by simp; omega)]; rfl
  ·unfold F_d chk
   rw [decide_eq_true k, room_sO (by simp; omega)]; rfl
 ·have hl : ∀ x ∈ o.Items, (itB x).length ≤ 1000 := fun x hx => by
   have h1 := hi x hx
   have h2 := itoa_sm h1.2.1 (by omega)
   simp [itB]; omega
  refine ⟨[116,114,101,101,10] ++ o.Items.flatMap itB, ?_, ?_⟩
  ·unfold F_6
   rw [decide_eq_false (by omega), decide_eq_true k]
   simp only [cond_true, cond_false]
   rw [bws_sm (by simp)]
   simp only [Option.bind_some, List.nil_append]
   rw [foldL_app (f := itB) o.Items 0 _ (fun k x s hx hs => by
    have h1 := hi x hx
    have h2 := itoa_sm h1.2.1 (by omega)
    simp only [F_x]
    rw [itoaI_sm h1.2.1 (by omega)]
    simp only [Option.bind_some]
    rw [write1_eq (by omega) (by omega) (by omega)]
    rfl) hl (by simp; omega)]
   rfl
  ·unfold F_d
   rw [decide_eq_false (by omega), decide_eq_true k]
   simp only [cond_true, cond_false]
   have := loop_app (step := F_11 o) (f := itB) (all := o.Items) (fun s => by unfold F_11; rw [dlt]; rfl) (fun i hi' s hs => by
    have hx := List.getElem_mem hi'
    have h1 := hi _ hx
    have h2 := itoa_sm h1.2.1 (by omega)
    have e1 : o.Items.getD i default = o.Items[i] := by simp [hi']
    have e : ((i : Int)).toNat = i := by simp
    have c : decide ((i : Int) < (o.Items.length : Int)) = true := by simpa using hi'
    have c2 : inb (i : Int) o.Items.length = true := kB hi'
    have c3 : in64 ((i : Int) + 1) = true := in64_iff.2 ⟨by omega, by omega⟩
    unfold F_11
    simp only [e, e1, c, c2, c3, chk, cond_true]
    rw [rnumber_eq h1.2.1 (by omega)]
    simp only [Option.bind_some]
    rw [strl_sm (by simp; omega), strl_sm (by simp; omega), strl_sm (by simp; omega), strl_sm (by simp; omega)]
    rfl) hl o.Items [] [116,114,101,101,10] rfl (by simp; omega)
   simp only [List.length_nil, Int.natCast_zero] at this
   rw [this]; rfl
 ·have hl : ∀ x ∈ o.Parents, (paB x).length ≤ 1000 := fun x hx => by
   have h1 := hp x hx
   have h2 := itoa_sm h1.1 (by omega)
   simp [paB]; omega
  have ht := itoa_sm t1 (by omega)
  have hm := itoa_sm m1 (by omega)
  have hfl : (o.Parents.flatMap paB).length ≤ 1000 * o.Parents.length := by
   have : ∀ xs : List Int, (∀ x ∈ xs, (paB x).length ≤ 1000) → (xs.flatMap paB).length ≤ 1000 * xs.length := fun xs => by
    induction xs with
    | nil => intro _; simp
    | cons x q ih => intro h; have := h x (by simp); have := ih fun x hx => h x (by simp [hx]); simp only [List.flatMap_cons, List.length_append, List.length_cons]; omega
   exact this _ hl
  have hs0 : (([99,111,109,109,105,116,10,116,114,101,101,32] ++ Lib.itoa o.Tree) ++ [10]).length ≤ 34 := by simp; omega
  refine ⟨((((((([99,111,109,109,105,116,10,116,114,101,101,32] ++ Lib.itoa o.Tree) ++ [10]) ++ o.Parents.flatMap paB) ++ [97,117,116,104,111,114,32]) ++ o.Author) ++ [10,116,105,109,101,32]) ++ Lib.itoa o.Time) ++ [10], ?_, ?_⟩
  ·unfold F_6
   rw [decide_eq_false (by omega), decide_eq_false (by omega)]
   simp only [cond_true, cond_false]
   rw [bws_sm (by simp), itoaI_sm t1 (by omega)]
   simp only [Option.bind_some, List.nil_append]
   rw [write1_eq (by simp) (by omega) (by simp)]
   simp only [Option.bind_some]
   rw [foldL_app (f := paB) o.Parents 0 _ (fun k x s hx hs => by
    have h1 := hp x hx
    have h2 := itoa_sm h1.1 (by omega)
    simp only [F_19]
    rw [itoaI_sm h1.1 (by omega)]
    simp only [Option.bind_some]
    rw [write1_eq (by simp) (by omega) (by omega)]
    rfl) hl (by simp; omega)]
   simp only [Option.bind_some]
   rw [write1_eq (by simp) (by omega) (by simp only [List.length_append, List.length_cons, List.length_nil]; omega)]
   simp only [Option.bind_some]
   rw [itoaI_sm m1 m2]
   simp only [Option.bind_some]
   rw [write1_eq (by simp) (by omega) (by simp only [List.length_append, List.length_cons, List.length_nil]; omega)]
   simp only [Option.bind_some, bstr]
   simp
  ·unfold F_d
   rw [decide_eq_false (by omega), decide_eq_false (by omega)]
   simp only [cond_true, cond_false]
   rw [rnumber_eq t1 (by omega)]
   simp only [Option.bind_some, chk]
   rw [strl_sm (by simp; omega), strl_sm (by simp; omega)]
   simp only [cond_true]
   have := loop_app (step := F_12 o) (f := paB) (all := o.Parents) (fun s => by unfold F_12; rw [dlt]; rfl) (fun i hi' s hs => by
    have hx := List.getElem_mem hi'
    have h1 := hp _ hx
    have h2 := itoa_sm h1.1 (by omega)
    have e1 : o.Parents.getD i default = o.Parents[i] := by simp [hi']
    have e : ((i : Int)).toNat = i := by simp
    have c : decide ((i : Int) < (o.Parents.length : Int)) = true := by simpa using hi'
    have c2 : inb (i : Int) o.Parents.length = true := kB hi'
    have c3 : in64 ((i : Int) + 1) = true := in64_iff.2 ⟨by omega, by omega⟩
    unfold F_12
    simp only [e, e1, c, c2, c3, chk, cond_true]
    rw [rnumber_eq h1.1 (by omega)]
    simp only [Option.bind_some]
    rw [strl_sm (by simp; omega), strl_sm (by simp; omega), strl_sm (by simp; omega)]
    rfl) hl o.Parents [] (([99,111,109,109,105,116,10,116,114,101,101,32] ++ Lib.itoa o.Tree) ++ [10]) rfl (by omega)
   simp only [List.length_nil, Int.natCast_zero] at this
   rw [this]
   simp only [Option.bind_some]
   rw [strl_sm (by simp only [List.length_append, List.length_cons, List.length_nil]; omega), strl_sm (by simp only [List.length_append, List.length_cons, List.length_nil]; omega), strl_sm (by simp only [List.length_append, List.length_cons, List.length_nil]; omega), rnumber_eq m1 m2]
   simp only [Option.bind_some, cond_true]
   rw [strl_sm (by simp only [List.length_append, List.length_cons, List.length_nil]; omega), strl_sm (by simp only [List.length_append, List.length_cons, List.length_nil]; omega)]
   rfl
theorem format_eq {o : GObject} (hf : Few o) (hl : Lng o) : ∃ y, F_8 o = some y ∧ F_o o = some y := by
 unfold F_8 F_o
 rw [valid_eq hf, rvalid_eq hf hl]
 simp only [Option.bind_some]
 by_cases c : vlB o = 0
 ·obtain ⟨y, h1, h2⟩ := write_eq hf (vl_VO c)
  rw [decide_eq_true c, h1, h2]
  exact ⟨(y, 0), rfl, rfl⟩
 ·rw [decide_eq_false c]
  exact ⟨([], vlB o), rfl, rfl⟩
end Go.Ab
namespace Go.Ab
def itE (a b : List GItem) (i : Nat) : Bool := decide ((a.getD i default).Name = (b.getD i default).Name) && decide ((a.getD i default).ID = (b.getD i default).ID)
def paE (a b : List Int) (i : Nat) : Bool := decide (a.getD i default = b.getD i default)
theorem bif_not {α : Type} (b : Bool) (x y : α) : (bif !b then some x else some y) = some (bif b then y else x) := by cases b <;> rfl
theorem itemsEq_eq {a b : List GItem} : F_j a b = some (decide ((a.length : Int) = (b.length : Int)) && (List.range' 0 a.length).all (itE a b)) := by
 unfold F_j
 by_cases c : (a.length : Int) = (b.length : Int)
 ·rw [decide_eq_true c, forL_all0 (p := itE a b) (r := false) a fun i hi => by
   have e1 : a.getD i default = a[i] := by simp [hi]
   have e : ((i : Int)).toNat = i := by simp
   have c2 : inb (i : Int) b.length = true := kB (by omega)
   simp only [F_1a, itE, e, e1, c2, chk, cond_true]
   exact bif_not _ _ _]
  cases (List.range' 0 a.length).all (itE a b) <;> rfl
 ·rw [decide_eq_false c]; rfl
theorem intsEq_eq {a b : List Int} : F_k a b = some (decide ((a.length : Int) = (b.length : Int)) && (List.range' 0 a.length).all (paE a b)) := by
 unfold F_k
 by_cases c : (a.length : Int) = (b.length : Int)
 ·rw [decide_eq_true c, forL_all0 (p := paE a b) (r := false) a fun i hi => by
   have e1 : a.getD i default = a[i] := by simp [hi]
   have e : ((i : Int)).toNat = i := by simp
   have c2 : inb (i : Int) b.length = true := kB (by omega)
   simp only [F_1b, paE, e, e1, c2, chk, cond_true]
   exact bif_not _ _ _]
  cases (List.range' 0 a.length).all (paE a b) <;> rfl
 ·rw [decide_eq_false c]; rfl
theorem same_eq {a b : GObject} (ha : Few a) (hb : Few b) : ∃ y, F_l a b = some y ∧ F_p a b = some y := by
 obtain ⟨a1, a2, a3, a4⟩ := ha
 obtain ⟨b1, b2, b3, b4⟩ := hb
 have r1 := fun (h : (a.Items.length : Int) = (b.Items.length : Int)) => loop_all0 (step := F_13 a b) (p := itE a.Items b.Items) (r := false) (n := a.Items.length) (by unfold F_13; rw [dlt]; rfl) fun i hi => by
  have e : ((i : Int)).toNat = i := by simp
  have c : decide ((i : Int) < (a.Items.length : Int)) = true := by simpa using hi
  have c2 : inb (i : Int) a.Items.length = true := kB hi
  have c4 : inb (i : Int) b.Items.length = true := kB (by omega)
  have c3 : in64 ((i : Int) + 1) = true := in64_iff.2 ⟨by omega, by omega⟩
  simp only [F_13, itE, e, c, c2, c3, c4, chk, cond_true]
  exact bif_not _ _ _
 have r2 := fun (h : (a.Parents.length : Int) = (b.Parents.length : Int)) => loop_all0 (step := F_14 a b) (p := paE a.Parents b.Parents) (r := false) (n := a.Parents.length) (by unfold F_14; rw [dlt]; rfl) fun i hi => by
  have e : ((i : Int)).toNat = i := by simp
  have c : decide ((i : Int) < (a.Parents.length : Int)) = true := by simpa using hi
  have c2 : inb (i : Int) a.Parents.length = true := kB hi
  have c4 : inb (i : Int) b.Parents.length = true := kB (by omega)
  have c3 : in64 ((i : Int) + 1) = true := in64_iff.2 ⟨by omega, by omega⟩
  simp only [F_14, paE, e, c, c2, c3, c4, chk, cond_true]
  exact bif_not _ _ _
 unfold F_l F_p F_y
 rw [itemsEq_eq, intsEq_eq]
 simp only [grp, jn, Option.bind_some]
 by_cases h1 : (a.Items.length : Int) = (b.Items.length : Int)
 ·by_cases h2 : (a.Parents.length : Int) = (b.Parents.length : Int)
  ·rw [r1 h1, r2 h2, decide_eq_true h1, decide_eq_true h2]
   cases decide (a.ID = b.ID) <;> cases decide (a.Kind = b.Kind) <;> cases decide (a.Data = b.Data) <;> cases decide (a.Tree = b.Tree) <;> cases decide (a.Author = b.Author) <;> cases decide (a.Time = b.Time) <;> cases (List.range' 0 a.Items.length).all (itE a.Items b.Items) <;> cases (List.range' 0 a.Parents.length).all (paE a.Parents b.Parents) <;> exact ⟨_, rfl, rfl⟩
  ·rw [decide_eq_true h1, decide_eq_false h2]
   cases decide (a.ID = b.ID) <;> cases decide (a.Kind = b.Kind) <;> cases decide (a.Data = b.Data) <;> cases decide (a.Tree = b.Tree) <;> cases decide (a.Author = b.Author) <;> cases decide (a.Time = b.Time) <;> cases (List.range' 0 a.Items.length).all (itE a.Items b.Items) <;> exact ⟨_, rfl, rfl⟩
 ·rw [decide_eq_false h1]
  cases decide (a.ID = b.ID) <;> cases decide (a.Kind = b.Kind) <;> cases decide (a.Data = b.Data) <;> cases decide (a.Tree = b.Tree) <;> cases decide (a.Author = b.Author) <;> cases decide (a.Time = b.Time) <;> exact ⟨_, rfl, rfl⟩
def fewB (o : GObject) : Bool := decide ((o.Data.length : Int) ≤ 3000) && decide ((o.Items.length : Int) ≤ 80) && decide ((o.Parents.length : Int) ≤ 20) && decide ((o.Author.length : Int) ≤ 100)
theorem few_eq (o : GObject) : F_u o = some (fewB o) := rfl
theorem few_of {o : GObject} (h : fewB o = true) : Few o := by
 unfold fewB at h
 rw [Bool.and_eq_true, Bool.and_eq_true, Bool.and_eq_true] at h
 obtain ⟨⟨⟨h1, h2⟩, h3⟩, h4⟩ := h
 have := of_decide_eq_true h1; have := of_decide_eq_true h2; have := of_decide_eq_true h3; have := of_decide_eq_true h4
 exact ⟨by omega, by omega, by omega, by omega⟩
theorem inner_ok {raw other : GObject} {y3 y4 : GObject × GTape} (hl : ∀ x ∈ [raw, y3.1, y4.1, other], Lng x) (n : Nat) (hn : n < 4) (hf : Few ([raw, y3.1, y4.1, other].getD n default)) : loop (F_1g raw other y3 y4 (n : Int)) 0 = some (.inl ()) := by
 refine Ok.eq (Ok.loop (fun x : Int => 0 ≤ x ∧ x ≤ n + 1) (fun x => ((n : Int) + 1 - x).toNat) (fun x hx => ?_) 0 ⟨by omega, by omega⟩)
 unfold F_1g
 refine Ok.ite (fun c => ?_) fun c => ?_
 ·have c : x ≤ n := of_decide_eq_true c
  have i1 : inb x [raw, y3.1, y4.1, other].length = true := inb_iff.2 ⟨hx.1, by simp; omega⟩
  have i2 : inb (n : Int) [raw, y3.1, y4.1, other].length = true := inb_iff.2 ⟨by omega, by simp; omega⟩
  refine Ok.jn (P := fun o => o = .nx ()) ?_ fun o ho => ?_
  ·refine Ok.chk i1 ?_
   rw [few_eq]
   refine Ok.bind (Ok.ret rfl) fun b hb => ?_
   subst hb
   refine Ok.ite (fun c2 => ?_) fun _ => Ok.ret rfl
   obtain ⟨z, e1, e2⟩ := same_eq hf (few_of c2)
   have e0 : ((n : Int)).toNat = n := by simp
   refine Ok.chk i2 (Ok.chk i1 ?_)
   rw [e0, e1]
   refine Ok.bind (Ok.ret rfl) fun b hb => Ok.chk i2 (Ok.chk i1 ?_)
   subst hb
   rw [e2]
   refine Ok.bind (Ok.ret rfl) fun b hb => ?_
   subst hb
   exact Ok.ite (fun c => absurd c (by simp)) fun _ => Ok.ret rfl
  ·subst ho
   refine Ok.chk (in64_iff.2 ⟨by omega, by omega⟩) (Ok.ret ?_)
   simp only [Fl.elim]
   omega
 ·exact Ok.ret rfl
theorem outer_ok {raw other : GObject} {y3 y4 : GObject × GTape} (hl : ∀ x ∈ [raw, y3.1, y4.1, other], Lng x) : loop (F_1h raw other y3 y4) 0 = some (.inl ()) := by
 refine Ok.eq (Ok.loop (fun x : Int => 0 ≤ x ∧ x ≤ 4) (fun x => (4 - x).toNat) (fun x hx => ?_) 0 ⟨by omega, by omega⟩)
 unfold F_1h
 refine Ok.ite (fun c => ?_) fun c => Ok.ret rfl
 have c : x < 4 := of_decide_eq_true c
 have hstep : ∀ y : Int, 0 ≤ y → y < 4 → in64 (y + 1) = true ∧ (0 ≤ y + 1 ∧ y + 1 ≤ 4) ∧ (4 - (y + 1)).toNat < (4 - y).toNat := fun y h1 h2 => ⟨in64_iff.2 ⟨by omega, by omega⟩, ⟨by omega, by omega⟩, by omega⟩
 have hs := hstep x hx.1 c
 clear hstep
 obtain ⟨n, rfl⟩ : ∃ n : Nat, x = n := ⟨x.toNat, by omega⟩
 have e0 : ((n : Int)).toNat = n := by simp
 have i2 : inb (n : Int) [raw, y3.1, y4.1, other].length = true := inb_iff.2 ⟨by omega, by simp; omega⟩
 have hmem : [raw, y3.1, y4.1, other].getD n default ∈ [raw, y3.1, y4.1, other] := by
  have : n < [raw, y3.1, y4.1, other].length := by simp; omega
  rw [List.getD_eq_getElem?_getD, List.getElem?_eq_getElem this]
  exact List.getElem_mem this
 refine Ok.jn (P := fun o => o = .nx ()) ?_ fun o ho => ?_
 ·refine Ok.chk i2 ?_
  rw [few_eq]
  refine Ok.bind (Ok.ret rfl) fun b hb => ?_
  subst hb
  refine Ok.ite (fun c2 => Ok.ret rfl) fun c2 => ?_
  rw [e0] at c2 ⊢
  have hf : Few ([raw, y3.1, y4.1, other].getD n default) := few_of (by simpa using c2)
  obtain ⟨z, e1, e2⟩ := format_eq hf (hl _ hmem)
  refine Ok.chk i2 ?_
  rw [e1]
  refine Ok.bind (Ok.ret rfl) fun b hb => Ok.chk i2 ?_
  subst hb
  rw [e2]
  refine Ok.bind (Ok.ret rfl) fun b hb => ?_
  subst hb
  refine Ok.ite (fun c => absurd c (by simp)) fun _ => Ok.ite (fun c => absurd c (by simp)) fun _ => Ok.chk i2 ?_
  rw [valid_eq hf]
  refine Ok.bind (Ok.ret rfl) fun b hb => Ok.chk i2 ?_
  subst hb
  rw [rvalid_eq hf (hl _ hmem)]
  refine Ok.bind (Ok.ret rfl) fun b hb => ?_
  subst hb
  refine Ok.ite (fun c => absurd c (by simp)) fun _ => ?_
  rw [inner_ok hl n (by omega) hf]
  exact Ok.ret rfl
 ·subst ho
  rw [Fl_nx]
  exact Ok.chk hs.1 (Ok.ret hs.2)
end Go.Ab
namespace Go.Ab
def TO (t : GTape) : Prop := 0 ≤ t.at_ ∧ (t.L.length : Int) ≤ 9223372036854775807
def OO (o : GObject) : Prop := o.Items.length ≤ 3 ∧ o.Parents.length ≤ 2 ∧ ∀ x ∈ o.Items, x.Name.length ≤ 10
theorem sm64 {n : Int} (h1 : -1000000 ≤ n) (h2 : n ≤ 1000000) : in64 n = true := in64_iff.2 ⟨by omega, by omega⟩
theorem rm_sm {n b : Nat} (h : n * b ≤ 1000000) : room n b = true := room_iff.2 (by omega)
theorem nx_ok {t : GTape} {n : Int} (h : TO t) (hn : 0 < n) : Ok (F_0 t n) fun y => 0 ≤ y.1 ∧ y.1 < n ∧ TO y.2 := by
 unfold F_0
 refine Ok.ite (fun c => Ok.ret ⟨Int.le_refl 0, hn, h⟩) fun c => ?_
 have c' : t.at_ < t.L.length := by simpa using c
 have h1 := h.1; have h2 := h.2
 refine Ok.chk (inb_iff.2 ⟨h.1, c'⟩) (Ok.chk (in64_iff.2 ⟨by omega, by omega⟩) (Ok.chk (divs_iff.2 ⟨Int.emod_nonneg _ (by decide), hn⟩) (Ok.ret ⟨Int.emod_nonneg _ (by omega), Int.emod_lt_of_pos _ hn, ?_, h2⟩)))
 show 0 ≤ t.at_ + 1
 omega
theorem btw_ok {t : GTape} {a b : Int} (h : TO t) (h1 : -100000 ≤ a) (h2 : a ≤ b) (h3 : b ≤ 100000) : Ok (F_4 t a b) fun y => a ≤ y.1 ∧ y.1 ≤ b ∧ TO y.2 := by
 unfold F_4
 refine Ok.chk (sm64 (by omega) (by omega)) (Ok.chk (sm64 (by omega) (by omega)) (Ok.bind (nx_ok h (by omega)) fun y hy => Ok.chk (sm64 (by omega) (by omega)) (Ok.ret ⟨?_, ?_, hy.2.2⟩)))
 ·show a ≤ a + y.1; omega
 ·show a + y.1 ≤ b; omega
theorem mbytes_ok {t : GTape} {n : Int} (h : TO t) (h0 : 0 ≤ n) (hn : n ≤ 100) : Ok (F_r t n) fun y => TO y.2 := by
 unfold F_r
 refine Ok.bind (Ok.loop (Q := fun y : List UInt8 × GTape => TO y.2) (fun x => (x.2.1.length : Int) = x.1 ∧ x.1 ≤ n ∧ TO x.2.2) (fun x => (n - x.1).toNat) (fun x hx => ?_) _ ⟨rfl, h0, h⟩) fun r hr => Ok.ret hr
 obtain ⟨i, out, t⟩ := x
 obtain ⟨h1, h2, h3⟩ := hx
 simp only at h1 h2 h3
 unfold F_1i
 refine Ok.ite (fun c => ?_) fun c => Ok.ret h3
 have c : i < n := of_decide_eq_true c
 have rm : ∀ b : UInt8, room (out.length + [b].length) 1 = true := fun b => rm_sm (by simp; omega)
 refine Ok.jn (P := fun j : List UInt8 × GTape => (j.1.length : Int) = i + 1 ∧ TO j.2) ?_ fun j hj => ?_
 ·refine Ok.bind (nx_ok h3 (by omega)) fun y hy => ?_
  have ln : ∀ b : UInt8, ((out ++ [b]).length : Int) = i + 1 := fun b => by simp; omega
  refine Ok.ite (fun _ => ?_) fun _ => Ok.ite (fun _ => ?_) fun _ => ?_
  ·exact Ok.bind (nx_ok hy.2.2 (by omega)) fun z hz => Ok.chk (inb_iff.2 ⟨hz.1, hz.2.1⟩) (Ok.chk (rm_sm (by simp; omega)) (Ok.ret ⟨ln _, hz.2.2⟩))
  ·exact Ok.bind (nx_ok hy.2.2 (by omega)) fun z hz => Ok.chk (rm_sm (by simp; omega)) (Ok.ret ⟨ln _, hz.2.2⟩)
  ·refine Ok.jn (P := fun _ => True) (Ok.ite (fun _ => Ok.ret trivial) fun _ => Ok.ret trivial) fun b _ => ?_
   refine Ok.ite (fun _ => ?_) fun _ => ?_
   ·exact Ok.bind (nx_ok hy.2.2 (by omega)) fun z hz => Ok.chk (sm64 (by omega) (by omega)) (Ok.chk (rm_sm (by simp; omega)) (Ok.ret ⟨ln _, hz.2.2⟩))
   ·exact Ok.bind (nx_ok hy.2.2 (by omega)) fun z hz => Ok.chk (inb_iff.2 ⟨hz.1, hz.2.1⟩) (Ok.chk (rm_sm (by simp; omega)) (Ok.ret ⟨ln _, hz.2.2⟩))
 ·refine Ok.chk (sm64 (by omega) (by omega)) (Ok.ret ?_)
  simp only [Fl.elim]
  exact ⟨⟨hj.1, by omega, hj.2⟩, by omega⟩
theorem add_ok {o : GObject} {n : Int} {r : GRepository} (h0 : 0 ≤ n) (hn : n ≤ 1000) (hr : r.Objects.length ≤ 1000) (ho : OO o) (hall : ∀ x ∈ r.Objects, OO x) :
  Ok (F_3 o n r) fun y => y.2.1 = n + 1 ∧ (y.2.2.Objects.length : Int) = r.Objects.length + 1 ∧ ∀ x ∈ y.2.2.Objects, OO x := by
 unfold F_3
 refine Ok.chk (sm64 (by omega) (by omega)) (Ok.chk (rm_sm (by simp; omega)) (Ok.ret ⟨rfl, by simp, fun x hx => ?_⟩))
 simp only [List.mem_append, List.mem_singleton] at hx
 rcases hx with hx | rfl
 ·exact hall x hx
 ·exact ho
theorem events_ok {t : GTape} {cs : List Int} (h : TO t) (hc : 0 < cs.length) (hc2 : cs.length ≤ 1000) : Ok (F_s t cs) fun y => TO y.2 := by
 unfold F_s
 refine Ok.bind (nx_ok h (by omega)) fun y hy => Ok.bind (nx_ok hy.2.2 (by omega)) fun z hz => ?_
 refine Ok.bind (Ok.loop (Q := fun y : List GRefEvent × GTape => TO y.2) (fun x => 0 ≤ x.1 ∧ x.1 + 3 * x.2.1 ≤ 30 ∧ 0 ≤ x.2.1 ∧ (x.2.2.2.1.length : Int) + x.2.1 ≤ 8 ∧ TO x.2.2.2.2) (fun x => x.2.1.toNat) (fun x hx => ?_) _ ⟨hy.1, ?_, hz.1, ?_, hz.2.2⟩) fun r hr => Ok.ret hr
 ·obtain ⟨a, k, m, out, t⟩ := x
  obtain ⟨h1, h2, h3, h4, h5⟩ := hx
  simp only at h1 h2 h3 h4 h5
  unfold F_1j
  refine Ok.ite (fun c => ?_) fun c => Ok.ret h5
  have c : 0 < k := of_decide_eq_true c
  refine Ok.jn (P := fun j : Int × List (Str × Bool) × List GRefEvent × GTape => 0 ≤ j.1 ∧ j.1 ≤ a + 3 ∧ (j.2.2.1.length : Int) = out.length + 1 ∧ TO j.2.2.2) ?_ fun j hj => ?_
  ·refine Ok.bind (nx_ok h5 (by omega)) fun y hy => Ok.chk (sm64 (by simp only; omega) (by simp only; omega)) (Ok.bind (nx_ok hy.2.2 (by omega)) fun z hz => Ok.chk (inb_iff.2 ⟨hz.1, hz.2.1⟩) ?_)
   refine Ok.jn (P := fun j : Bool × GTape => TO j.2) (Ok.ite (fun _ => Ok.bind (nx_ok hz.2.2 (by omega)) fun w hw => Ok.ret hw.2.2) fun _ => Ok.ret hz.2.2) fun j hj => ?_
   refine Ok.ite (fun _ => Ok.chk (rm_sm (by simp; omega)) (Ok.ret ⟨by simp only; omega, by simp only; omega, by simp, hj⟩)) fun _ => ?_
   exact Ok.bind (nx_ok hj (by omega)) fun w hw => Ok.chk (inb_iff.2 ⟨hw.1, hw.2.1⟩) (Ok.chk (rm_sm (by simp; omega)) (Ok.ret ⟨by simp only; omega, by simp only; omega, by simp, hw.2.2⟩))
  ·obtain ⟨j1, j2, j3, j4⟩ := hj
   refine Ok.chk (sm64 (by simp only; omega) (by simp only; omega)) (Ok.ret ?_)
   simp only [Fl.elim]
   exact ⟨⟨j1, by omega, by omega, by omega, j4⟩, by omega⟩
 ·simp only; omega
 ·simp only [List.length_nil]; omega
theorem repo_ok {t : GTape} (h : TO t) : Ok (F_t t) fun y => 0 < y.1.Objects.length ∧ y.1.Objects.length ≤ 100 ∧ (∀ x ∈ y.1.Objects, OO x) ∧ TO y.2 := by
 unfold F_t
 refine Ok.bind (btw_ok h (by omega) (by omega) (by omega)) fun y hy => ?_
 refine Ok.bind (Ok.loop (Q := fun r : List GObject × List GRefEvent × Int × List Int × GTape => 0 ≤ r.2.2.1 ∧ r.2.2.1 ≤ 4 ∧ r.1.length ≤ 4 ∧ (∀ x ∈ r.1, OO x) ∧ 1 ≤ r.2.2.2.1.length ∧ r.2.2.2.1.length ≤ 4 ∧ TO r.2.2.2.2)
  (fun x => 0 ≤ x.1 ∧ 0 ≤ x.2.2.2.1 ∧ x.2.2.2.1 + x.1 ≤ 4 ∧ (x.2.1.length : Int) + x.1 ≤ 4 ∧ (∀ z ∈ x.2.1, OO z) ∧ 1 ≤ (x.2.2.2.2.1.length : Int) + x.1 ∧ (x.2.2.2.2.1.length : Int) + x.1 ≤ 4 ∧ TO x.2.2.2.2.2) (fun x => x.1.toNat) (fun x hx => ?_) _ ?_) fun r hr => ?_
 ·obtain ⟨k, os, es, n, bl, t⟩ := x
  obtain ⟨h1, h2, h3, h4, h5, h6, h7, h8⟩ := hx
  simp only at h1 h2 h3 h4 h5 h6 h7 h8
  unfold F_1k
  refine Ok.ite (fun c => ?_) fun c => ?_
  ·have c : 0 < k := of_decide_eq_true c
   refine Ok.bind (nx_ok h8 (by omega)) fun y hy => Ok.bind (mbytes_ok hy.2.2 hy.1 (by omega)) fun z hz => ?_
   refine Ok.bind (add_ok h2 (by simp only; omega) (by simp only; omega) ⟨by simp, by simp, by simp⟩ h5) fun w hw => ?_
   obtain ⟨w1, w2, w3⟩ := hw
   simp only at w1 w2
   refine Ok.chk (rm_sm (by simp; omega)) (Ok.chk (sm64 (by simp only; omega) (by simp only; omega)) (Ok.ret ?_))
   simp only [Fl.elim, List.length_append, List.length_cons, List.length_nil]
   exact ⟨⟨by omega, by omega, by omega, by omega, w3, by omega, by omega, hz⟩, by omega⟩
  ·have c : ¬ 0 < k := of_decide_eq_false c
   refine Ok.ret ?_
   simp only [Fl.elim]
   exact ⟨h2, by omega, by omega, h5, by omega, by omega, h8⟩
 ·exact ⟨by simp only; omega, by simp, by simp only; omega, by simp only [List.length_nil]; omega, by simp, by simp only [List.length_nil]; omega, by simp only [List.length_nil]; omega, hy.2.2⟩
 obtain ⟨os1, es1, n1, bl1, t1⟩ := r
 obtain ⟨r1, r2, r3, r4, r5, r6, r7⟩ := hr
 simp only at r1 r2 r3 r4 r5 r6 r7
 refine Ok.bind (btw_ok r7 (by omega) (by omega) (by omega)) fun y hy => ?_
 refine Ok.bind (Ok.loop (Q := fun r : List GObject × List GRefEvent × Int × List Int × GTape => 0 ≤ r.2.2.1 ∧ r.2.2.1 ≤ 8 ∧ r.1.length ≤ 8 ∧ (∀ x ∈ r.1, OO x) ∧ 1 ≤ r.2.2.2.1.length ∧ r.2.2.2.1.length ≤ 4 ∧ TO r.2.2.2.2)
  (fun x => 0 ≤ x.1 ∧ 0 ≤ x.2.2.2.1 ∧ x.2.2.2.1 + x.1 ≤ 8 ∧ (x.2.1.length : Int) + x.1 ≤ 8 ∧ (∀ z ∈ x.2.1, OO z) ∧ 1 ≤ (x.2.2.2.2.1.length : Int) + x.1 ∧ (x.2.2.2.2.1.length : Int) + x.1 ≤ 4 ∧ TO x.2.2.2.2.2) (fun x => x.1.toNat) (fun x hx => ?_) _ ?_) fun r hr => ?_
 ·obtain ⟨k, os, es, n, bl, t⟩ := x
  obtain ⟨h1, h2, h3, h4, h5, h6, h7, h8⟩ := hx
  simp only at h1 h2 h3 h4 h5 h6 h7 h8
  unfold F_1l
  refine Ok.ite (fun c => ?_) fun c => ?_
  ·have c : 0 < k := of_decide_eq_true c
   refine Ok.bind (Ok.foldI (all := [[97],[98],[100]]) (Q := fun s : List GItem × GTape => s.1.length ≤ 3 ∧ (∀ x ∈ s.1, x.Name.length ≤ 10) ∧ TO s.2) (fun pre s => s.1.length ≤ pre.length ∧ (∀ x ∈ s.1, x.Name.length ≤ 10) ∧ TO s.2) _ [] 0 _ rfl rfl ⟨by simp, by simp, h8⟩ (fun pre x r s hw hs => ?_) fun s hs => hs) fun z hz => ?_
   ·obtain ⟨s1, s2, s3⟩ := hs
    have hp : pre.length ≤ 2 := by
     have := congrArg List.length hw
     simp at this; omega
    have hx : x.length ≤ 10 := by
     have : x ∈ ([[97],[98],[100]] : List Str) := by rw [hw]; simp
     simp at this
     rcases this with rfl | rfl | rfl <;> simp
    unfold F_1f
    have app : ∀ (g : GItem) (t : GTape), g.Name = x → TO t → Ok (chk (room (s.1.length + [g].length) 24) (some (s.1 ++ [g], t))) fun s => s.1.length ≤ (pre ++ [x]).length ∧ (∀ x ∈ s.1, x.Name.length ≤ 10) ∧ TO s.2 := fun g t hg ht => by
     refine Ok.chk (rm_sm (by simp; omega)) (Ok.ret ⟨by simp; omega, fun z hz => ?_, ht⟩)
     simp only [List.mem_append, List.mem_singleton] at hz
     rcases hz with hz | rfl
     ·exact s2 z hz
     ·rw [hg]; exact hx
    refine Ok.bind (nx_ok s3 (by omega)) fun y hy => Ok.ite (fun _ => ?_) fun _ => Ok.ite (fun _ => Ok.ite (fun c2 => ?_) fun _ => ?_) fun _ => ?_
    ·exact Ok.bind (nx_ok hy.2.2 (by simp only; omega)) fun z hz => Ok.chk (inb_iff.2 ⟨hz.1, hz.2.1⟩) (app _ _ rfl hz.2.2)
    ·exact Ok.bind (nx_ok hy.2.2 (of_decide_eq_true c2)) fun z hz => Ok.chk (inb_iff.2 ⟨hz.1, hz.2.1⟩) (app _ _ rfl hz.2.2)
    ·exact Ok.ret ⟨by simp; omega, s2, hy.2.2⟩
    ·exact Ok.ret ⟨by simp; omega, s2, hy.2.2⟩
   ·obtain ⟨z1, z2, z3⟩ := hz
    refine Ok.bind (add_ok h2 (by simp only; omega) (by simp only; omega) ⟨z1, by simp, z2⟩ h5) fun w hw => ?_
    obtain ⟨w1, w2, w3⟩ := hw
    simp only at w1 w2
    refine Ok.chk (rm_sm (by simp; omega)) (Ok.chk (sm64 (by simp only; omega) (by simp only; omega)) (Ok.ret ?_))
    simp only [Fl.elim, List.length_append, List.length_cons, List.length_nil]
    exact ⟨⟨by omega, by omega, by omega, by omega, w3, by omega, by omega, z3⟩, by omega⟩
  ·have c : ¬ 0 < k := of_decide_eq_false c
   refine Ok.ret ?_
   simp only [Fl.elim]
   exact ⟨h2, by omega, by omega, h5, by omega, by omega, h8⟩
 ·exact ⟨by simp only; omega, r1, by simp only; omega, by simp only; omega, r4, by simp only [List.length_nil]; omega, by simp only [List.length_nil]; omega, hy.2.2⟩
 obtain ⟨os2, es2, n2, bl2, t2⟩ := r
 obtain ⟨q1, q2, q3, q4, q5, q6, q7⟩ := hr
 simp only at q1 q2 q3 q4 q5 q6 q7
 refine Ok.bind (btw_ok q7 (by omega) (by omega) (by omega)) fun y hy => ?_
 refine Ok.bind (Ok.loop (Q := fun r : List Int × List GObject × List GRefEvent × GTape => 1 ≤ r.2.1.length ∧ r.2.1.length ≤ 13 ∧ (∀ x ∈ r.2.1, OO x) ∧ 1 ≤ r.1.length ∧ r.1.length ≤ 5 ∧ TO r.2.2.2)
  (fun x => 0 ≤ x.1 ∧ 0 ≤ x.2.2.2.1 ∧ x.2.2.2.1 + x.1 ≤ 13 ∧ 1 ≤ (x.2.1.length : Int) + x.1 ∧ (x.2.1.length : Int) + x.1 ≤ 13 ∧ (∀ z ∈ x.2.1, OO z) ∧ 1 ≤ (x.2.2.2.2.1.length : Int) + x.1 ∧ (x.2.2.2.2.1.length : Int) + x.1 ≤ 5 ∧ TO x.2.2.2.2.2) (fun x => x.1.toNat) (fun x hx => ?_) _ ?_) fun r hr => ?_
 ·obtain ⟨k, os, es, n, cm, t⟩ := x
  obtain ⟨h1, h2, h3, h4, h5, h6, h7, h8, h9⟩ := hx
  simp only at h1 h2 h3 h4 h5 h6 h7 h8 h9
  unfold F_1n
  refine Ok.ite (fun c => ?_) fun c => ?_
  ·have c : 0 < k := of_decide_eq_true c
   refine Ok.bind (nx_ok h9 (by simp only; omega)) fun y hy => Ok.chk (inb_iff.2 ⟨hy.1, hy.2.1⟩) (Ok.bind (nx_ok hy.2.2 (by omega)) fun z hz => Ok.chk (sm64 (by simp only; omega) (by simp only; omega)) ?_)
   refine Ok.bind (Ok.loop (Q := fun r : Int × Int × List Int × GTape => r.2.2.1.length ≤ 2 ∧ TO r.2.2.2) (fun x : Int × Int × Int × List Int × GTape => -1 ≤ x.1 ∧ x.1 < cm.length ∧ x.2.2.2.1.length ≤ 2 ∧ TO x.2.2.2.2) (fun x => (x.1 + 1).toNat) (fun x hx => ?_) _ ?_) fun w hw => ?_
   ·obtain ⟨i, a, b, ps, t⟩ := x
    obtain ⟨g1, g2, g3, g4⟩ := hx
    simp only at g1 g2 g3 g4
    unfold F_1m
    refine Ok.grp (Ok.ite (fun c2 => ?_) fun c2 => Ok.ret ⟨g3, g4⟩)
    have c3 : 0 ≤ i ∧ (ps.length : Int) < 2 := by simpa using c2
    refine Ok.jn (P := fun j : List Int × GTape => j.1.length ≤ 2 ∧ TO j.2) ?_ fun j hj => ?_
    ·refine Ok.bind (nx_ok g4 (by omega)) fun y hy => Ok.ite (fun _ => ?_) fun _ => Ok.ret ⟨g3, hy.2.2⟩
     exact Ok.chk (inb_iff.2 ⟨c3.1, g2⟩) (Ok.chk (rm_sm (by simp; omega)) (Ok.ret ⟨by simp; omega, hy.2.2⟩))
    ·refine Ok.chk (sm64 (by simp only; omega) (by simp only; omega)) (Ok.ret ?_)
     simp only [Fl.elim]
     exact ⟨⟨by omega, by omega, hj.1, hj.2⟩, by omega⟩
   ·exact ⟨by simp only; omega, by simp only; omega, by simp, hz.2.2⟩
   ·obtain ⟨w1, w2⟩ := hw
    refine Ok.bind (add_ok h2 (by simp only; omega) (by simp only; omega) ⟨by simp, w1, by simp⟩ h6) fun v hv => ?_
    obtain ⟨v1, v2, v3⟩ := hv
    simp only at v1 v2
    refine Ok.chk (rm_sm (by simp; omega)) (Ok.chk (sm64 (by simp only; omega) (by simp only; omega)) (Ok.ret ?_))
    simp only [Fl.elim, List.length_append, List.length_cons, List.length_nil]
    exact ⟨⟨by omega, by omega, by omega, by omega, by omega, v3, by omega, by omega, w2⟩, by omega⟩
  ·have c : ¬ 0 < k := of_decide_eq_false c
   refine Ok.ret ?_
   simp only [Fl.elim]
   exact ⟨by omega, by omega, h6, by omega, by omega, h9⟩
 ·exact ⟨by simp only; omega, q1, by simp only; omega, by simp only; omega, by simp only; omega, q4, by simp only [List.length_nil]; omega, by simp only [List.length_nil]; omega, hy.2.2⟩
 obtain ⟨p1, p2, p3, p4, p5, p6⟩ := hr
 exact Ok.bind (events_ok p6 (by omega) (by omega)) fun z hz => Ok.ret ⟨p1, by simp only; omega, p3, hz⟩
theorem OO_lng {o : GObject} (h : OO o) : Lng o := fun x hx => by have := h.2.2 x hx; omega
theorem own_ok {t : GTape} (h : TO t) : Ok (F_e t) fun y => Lng y.1 ∧ TO y.2 := by
 unfold F_e
 refine Ok.bind (repo_ok h) fun r hr => ?_
 obtain ⟨r1, r2, r3, r4⟩ := hr
 refine Ok.bind (nx_ok r4 (by omega)) fun k hk => Ok.chk (inb_iff.2 ⟨hk.1, hk.2.1⟩) ?_
 have hlt : k.1.toNat < r.1.Objects.length := by omega
 have ho : OO (r.1.Objects.getD k.1.toNat default) := by
  rw [List.getD_eq_getElem?_getD, List.getElem?_eq_getElem hlt]
  exact r3 _ (List.getElem_mem hlt)
 generalize r.1.Objects.getD k.1.toNat default = o at ho
 have hl := OO_lng ho
 obtain ⟨o1, o2, o3⟩ := ho
 refine Ok.bind (nx_ok hk.2.2 (by omega)) fun a ha => ?_
 refine Ok.ite (fun _ => ?_) fun _ => Ok.ite (fun _ => ?_) fun _ => Ok.ite (fun _ => ?_) fun _ => Ok.ite (fun _ => ?_) fun _ => Ok.ite (fun _ => ?_) fun _ => Ok.ite (fun _ => ?_) fun _ => Ok.ret ⟨hl, ha.2.2⟩
 ·exact Ok.bind (nx_ok ha.2.2 (by omega)) fun b hb => Ok.chk (inb_iff.2 ⟨hb.1, hb.2.1⟩) (Ok.ret ⟨hl, hb.2.2⟩)
 ·exact Ok.bind (btw_ok ha.2.2 (by omega) (by omega) (by omega)) fun b hb => Ok.ret ⟨hl, hb.2.2⟩
 ·exact Ok.bind (btw_ok ha.2.2 (by omega) (by omega) (by omega)) fun b hb => Ok.ret ⟨hl, hb.2.2⟩
 ·exact Ok.bind (nx_ok ha.2.2 (by omega)) fun b hb => Ok.chk (inb_iff.2 ⟨hb.1, hb.2.1⟩) (Ok.ret ⟨hl, hb.2.2⟩)
 ·refine Ok.chk (rm_sm (by simp; omega)) (Ok.bind (nx_ok ha.2.2 (by omega)) fun b hb => Ok.chk (inb_iff.2 ⟨hb.1, hb.2.1⟩) (Ok.bind (nx_ok hb.2.2 (by omega)) fun d hd => Ok.chk (rm_sm (by simp; omega)) (Ok.ret ⟨fun x hx => ?_, hd.2.2⟩)))
  simp only [List.nil_append, List.mem_append, List.mem_singleton] at hx
  rcases hx with hx | rfl
  ·exact hl x hx
  ·have hb2 : b.1.toNat < 4 := by have := hb.2.1; omega
   have : ∀ i, i < 4 → ((([[122],[97],[],[100,47,101]] : List Str).getD i default).length : Int) ≤ 100 := by decide
   have := this _ hb2
   show ((([[122],[97],[],[100,47,101]] : List Str).getD b.1.toNat default).length : Int) ≤ _
   omega
 ·exact Ok.chk (rm_sm (by simp; omega)) (Ok.bind (nx_ok ha.2.2 (by omega)) fun b hb => Ok.chk (rm_sm (by simp; omega)) (Ok.ret ⟨hl, hb.2.2⟩))
end Go.Ab
set_option maxRecDepth 20000
namespace Go.Ab
open Go.Proofs
theorem awake13 : F_q = some true := by
 have hf : Few (GObject.mk 4 2 [] [(GItem.mk [97,46,116,120,116] 3)] 0 [] [] 0) := ⟨by simp, by simp, by simp, by simp⟩
 have hv : vlB (GObject.mk 4 2 [] [(GItem.mk [97,46,116,120,116] 3)] 0 [] [] 0) = 0 := by decide
 have hw : F_6 (GObject.mk 4 2 [] [(GItem.mk [97,46,116,120,116] 3)] 0 [] [] 0) = some [116,114,101,101,10,51,32,97,46,116,120,116,10] := by
  have hd : Lib.itoa 3 = [51] := by
   rw [show (3 : Int) = ((3 : Nat) : Int) from rfl, itoa_nat, Lib.decDigits, dif_pos (by omega)]; rfl
  unfold F_6
  simp only [show decide ((2 : Int) = 1) = false from rfl, show decide ((2 : Int) = 2) = true from rfl, cond_true, cond_false]
  rw [bws_sm (by simp)]
  simp only [Option.bind_some, List.nil_append, foldL, F_x]
  rw [itoaI_sm (by omega) (by omega), hd]
  simp only [Option.bind_some]
  rw [write1_eq (by simp) (by simp) (by simp)]
  rfl
 unfold F_q F_8
 rw [valid_eq hf, hv]
 simp only [Option.bind_some, jn]
 rw [hw]
 rfl
theorem fact_lng {o : GObject} (h : (GObject.v o).fact) : Lng o := by
 have h1 := factL_iff.1 h
 have h2 := (h1 (.sl (o.Items.map GItem.v)) (by simp)).2
 intro x hx
 have h3 := factA_iff.1 h2 (GItem.v x) (List.mem_map_of_mem hx)
 have h4 := factL_iff.1 h3 (.str x.Name) (by simp)
 exact Int.ofNat_le.2 h4
theorem formats13 {tape : List Int} {raw other : GObject} (ht : (V.sl (tape.map (V.int .i64))).fact) (h1 : (GObject.v raw).fact) (h2 : (GObject.v other).fact) : F_15 tape raw other = some true := by
 have h0 : TO (GTape.mk tape 0) := ⟨Int.le_refl 0, Int.ofNat_le.2 (fact_sl ht)⟩
 refine Ok.eq ?_
 unfold F_15
 refine Ok.bind (own_ok h0) fun a ha => Ok.bind (own_ok ha.2) fun b hb => ?_
 rw [outer_ok (fun x hx => by
  simp only [List.mem_cons, List.not_mem_nil, or_false] at hx
  rcases hx with rfl | rfl | rfl | rfl
  ·exact fact_lng h1
  ·exact ha.1
  ·exact hb.1
  ·exact fact_lng h2)]
 refine Ok.bind (Ok.ret rfl) fun c hc => ?_
 subst hc
 rw [Sum.elim_inl, awake13]
 exact Ok.ret rfl
theorem acall_fact {P : Program} {f : FuncId} {ys : List V} {H : Heap} {Q : V → Heap → Prop} (hc : callable P f = true) (h : (∀ y ∈ ys, y.fact) → ACall P f ys H Q) : ACall P f ys H Q :=
 ⟨hc, fun g w vals hH hs hr => (h fun y hy => by
  obtain ⟨i, hi⟩ := List.getElem?_of_mem hy
  exact (hr i y hi).fact).2 g w vals hH hs hr⟩
theorem call13 {tape : List Int} {raw other : GObject} : ACall Tryd.prog 4 [.sl (tape.map (V.int .i64)), GObject.v raw, GObject.v other] [] (fun r H => r = .bool true ∧ H = []) :=
 acall_fact (by kernel_rfl) fun h => Wq_15.w (formats13 (h _ (by simp)) (h _ (by simp)) (h _ (by simp)))
end Go.Ab
