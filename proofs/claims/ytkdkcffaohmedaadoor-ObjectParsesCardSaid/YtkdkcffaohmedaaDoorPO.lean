/- Plain forms of the checks of objects. -/
import Derived.Test.YtkdkcffaohmedaaDoorLA
import Derived.Test.YtkdkcffaohmedaaDoorAbHo
import Derived.Test.YtkdkcffaohmedaaDoorAbStr
import Derived.Test.YtkdkcffaohmedaaDoorLP
import Derived.Test.YtkdkcffaohmedaaDoorLB
import Derived.Test.YtkdkcffaohmedaaDoorLQ
import Derived.Test.YtkdkcffaohmedaaDoorLC
import Derived.KernelRfl
set_option linter.all false
set_option linter.all false
namespace Go.Ab
theorem forL_allN {α ρ : Type} {body : Int → α → Unit → Option (Fl Unit ρ)} {p : Nat → Bool} {r : ρ} : ∀ (xs : List α) (k : Nat), (∀ i (hi : i < xs.length), body ((k + i : Nat) : Int) xs[i] () = some (bif p (k + i) then .nx () else .ex r)) →
  forL body xs k () = some (bif (List.range' k xs.length).all p then .nx () else .ex r)
 | [], k, h => rfl
 | x :: q, k, h => by
  have h0 := h 0 (by simp)
  simp only [Nat.add_zero, List.getElem_cons_zero] at h0
  simp only [forL, h0, Option.bind_some, List.length_cons, List.range'_succ, List.all_cons]
  cases hp : p k with
  | false => rfl
  | true =>
   have := forL_allN q (k + 1) fun i hi => by
    have := h (i + 1) (by simpa using hi)
    rw [show k + 1 + i = k + (i + 1) by omega]
    simpa using this
   simpa [Fl.elim] using this
theorem loop_allN {ρ σ : Type} {step : Int → Option (Fl Int (Sum Unit ρ))} {p : Nat → Bool} {r : ρ} {n : Nat} (h2 : step n = some (.ex (.inl ()))) (h : ∀ i, i < n → step (i : Int) = some (bif p i then .nx ((i : Int) + 1) else .ex (.inr r))) : ∀ (m k : Nat), k + m = n →
  loop step k = some (bif (List.range' k m).all p then .inl () else .inr r)
 | 0, k, e => by
  obtain rfl : k = n := by omega
  rw [loop_eq, h2]; rfl
 | m + 1, k, e => by
  rw [loop_eq, h k (by omega)]
  simp only [Option.bind_some, List.range'_succ, List.all_cons]
  cases hp : p k with
  | false => rfl
  | true =>
   have := loop_allN (σ := σ) h2 h m (k + 1) (by omega)
   simpa [Fl.elim] using this
theorem loop_all0 {ρ : Type} {step : Int → Option (Fl Int (Sum Unit ρ))} {p : Nat → Bool} {r : ρ} {n : Nat} (h2 : step n = some (.ex (.inl ()))) (h : ∀ i, i < n → step (i : Int) = some (bif p i then .nx ((i : Int) + 1) else .ex (.inr r))) :
  loop step 0 = some (bif (List.range' 0 n).all p then .inl () else .inr r) := loop_allN (σ := Unit) h2 h n 0 (by omega)
theorem forL_all0 {α ρ : Type} {body : Int → α → Unit → Option (Fl Unit ρ)} {p : Nat → Bool} {r : ρ} (xs : List α) (h : ∀ i (hi : i < xs.length), body (i : Int) xs[i] () = some (bif p i then .nx () else .ex r)) :
  forL body xs 0 () = some (bif (List.range' 0 xs.length).all p then .nx () else .ex r) := forL_allN xs 0 fun i hi => by simpa using h i hi
def idB (n : Int) : Bool := decide (1 ≤ n) && decide (n ≤ 1073741824)
def chB (s : Str) (i : Nat) : Bool := !(decide (((s.getD i 0).toNat : Int) < 33) || decide (126 < ((s.getD i 0).toNat : Int)) || decide (((s.getD i 0).toNat : Int) = 47))
def nmB (s : Str) : Bool := (List.range' 0 s.length).all (chB s) && (decide (1 ≤ (s.length : Int)) && decide ((s.length : Int) ≤ 40))
theorem number_eq (n : Int) : F_6 n = some (idB n) := rfl
theorem rid_eq (n : Int) : F_7 n = some (idB n) := rfl
theorem name_eq (s : Str) : F_i s = some (nmB s) := by
 unfold F_i
 rw [forL_all0 (p := chB s) (r := false) s fun i hi => by
  have : s.getD i 0 = s[i] := by simp [hi]
  simp only [F_1l, chB, this, grp]
  cases decide ((s[i].toNat : Int) < 33) <;> cases decide (126 < (s[i].toNat : Int)) <;> cases decide ((s[i].toNat : Int) = 47) <;> rfl]
 unfold nmB grp
 cases (List.range' 0 s.length).all (chB s) <;> rfl
theorem in64_kn {i n : Nat} (hi : i < n) (h : (n : Int) ≤ 9223372036854775807) : in64 ((i : Int) + 1) = true := kI (Int.le_trans (Int.ofNat_le.2 (Nat.succ_le_of_lt hi)) h)
theorem rname_eq {s : Str} (h : (s.length : Int) ≤ 9223372036854775807) : F_k s = some (nmB s) := by
 unfold F_k
 rw [loop_all0 (p := chB s) (r := false) (n := s.length) (by unfold F_1p; rw [dlt]; rfl) fun i hi => by
  have e : ((i : Int)).toNat = i := by simp
  have c : decide ((i : Int) < (s.length : Int)) = true := by simpa using hi
  have c2 : inb (i : Int) s.length = true := kB hi
  have c3 : in64 ((i : Int) + 1) = true := in64_kn hi h
  simp only [F_1p, chB, c, c2, c3, e, chk, cond_true]
  cases decide (((s.getD i 0).toNat : Int) < 33) <;> cases decide (126 < ((s.getD i 0).toNat : Int)) <;> cases decide (((s.getD i 0).toNat : Int) = 47) <;> simp]
 unfold nmB grp
 cases (List.range' 0 s.length).all (chB s) <;> simp only [cond_true, cond_false, Option.bind_some, Sum.elim_inl, Sum.elim_inr, Bool.true_and, Bool.false_and]
theorem less_tri : ∀ (x y : Str), (!Op.bytesLess x y) = (Op.bytesLess y x || decide (y = x))
 | [],[] => by simp [Op.bytesLess]
 | _ :: _, [] => by simp [Op.bytesLess]
 | [], _ :: _ => by simp [Op.bytesLess]
 | a :: x, b :: y => by
  have ih := less_tri x y
  simp only [Op.bytesLess]
  by_cases h1 : a < b
  ·have h2 : ¬ b < a := fun h => absurd h1 (by simpa using UInt8.le_of_lt h)
   have h3 : b ≠ a := fun h => by subst h; exact absurd h1 (by simp)
   simp [h1, h2, h3]
  ·by_cases h2 : b < a
   ·have h3 : a ≠ b := fun h => by subst h; exact absurd h2 (by simp)
    simp [h1, h2, h3]
   ·have h3 : a = b := UInt8.le_antisymm (by simpa using h2) (by simpa using h1)
    subst h3
    simp [h1, ih]
def trB (l : List GItem) (i : Nat) : Bool := nmB (l.getD i default).Name && (idB (l.getD i default).ID && (decide (i = 0) || Op.bytesLess (l.getD (i - 1) default).Name (l.getD i default).Name))
theorem tree_eq {o : GObject} (h : o.Items.length ≤ 1000) : F_t o = some ((List.range' 0 o.Items.length).all (trB o.Items)) := by
 unfold F_t
 rw [forL_all0 (p := trB o.Items) (r := false) o.Items fun i hi => by
  have e1 : o.Items.getD i default = o.Items[i] := by simp [hi]
  simp only [F_1m, trB, name_eq, number_eq, Option.bind_some, e1]
  cases nmB o.Items[i].Name with
  | false => rfl
  | true =>
   cases idB o.Items[i].ID with
   | false => rfl
   | true =>
    by_cases h0 : i = 0
    ·subst h0; rfl
    ·have c : decide ((0 : Int) < (i : Int)) = true := by simp; omega
     have e : ((i : Int) - 1).toNat = i - 1 := by omega
     have c1 : in64 ((i : Int) - 1) = true := in64_iff.2 ⟨by omega, by omega⟩
     have c2 : inb ((i : Int) - 1) o.Items.length = true := inb_iff.2 ⟨by omega, by omega⟩
     have c4 : decide (i = 0) = false := by simpa using h0
     simp only [c, c1, c2, c4, e, chk, cond_true, Bool.not_true, cond_false, Bool.true_and, Bool.false_or]
     cases Op.bytesLess (o.Items.getD (i - 1) default).Name o.Items[i].Name <;> rfl]
 cases (List.range' 0 o.Items.length).all (trB o.Items) <;> rfl
theorem rtree_eq {o : GObject} (h : o.Items.length ≤ 1000) (hn : ∀ x ∈ o.Items, (x.Name.length : Int) ≤ 9223372036854775807) : F_w o = some ((List.range' 0 o.Items.length).all (trB o.Items) && (decide ((o.Data.length : Int) = 0) && decide (o.Tree = 0) && decide ((o.Parents.length : Int) = 0) && decide (o.Author = []) && decide (o.Time = 0))) := by
 unfold F_w
 rw [loop_all0 (p := trB o.Items) (r := false) (n := o.Items.length) (by simp [F_1q]) fun i hi => by
  have e1 : o.Items.getD i default = o.Items[i] := by simp [hi]
  have e : ((i : Int)).toNat = i := by simp
  have c : decide ((i : Int) < (o.Items.length : Int)) = true := by simpa using hi
  have c2 : inb (i : Int) o.Items.length = true := inb_iff.2 ⟨by omega, by omega⟩
  have c3 : in64 ((i : Int) + 1) = true := in64_iff.2 ⟨by omega, by omega⟩
  simp only [F_1q, trB, rid_eq, Option.bind_some, e, e1, c, c2, c3, chk, cond_true, rname_eq (hn _ (List.getElem_mem hi)), jn]
  cases nmB o.Items[i].Name with
  | false => rfl
  | true =>
   cases idB o.Items[i].ID with
   | false => rfl
   | true =>
    by_cases h0 : i = 0
    ·subst h0; rfl
    ·have c' : decide ((0 : Int) < (i : Int)) = true := by simp; omega
     have e' : ((i : Int) - 1).toNat = i - 1 := by omega
     have c1 : in64 ((i : Int) - 1) = true := in64_iff.2 ⟨by omega, by omega⟩
     have c2' : inb ((i : Int) - 1) o.Items.length = true := inb_iff.2 ⟨by omega, by omega⟩
     have c4 : decide (i = 0) = false := by simpa using h0
     simp only [c', c1, c2', c4, e', cond_true, Bool.not_true, cond_false, Bool.true_and, Bool.false_or, ← less_tri]
     cases Op.bytesLess (o.Items.getD (i - 1) default).Name o.Items[i].Name <;> rfl]
 unfold grp
 cases (List.range' 0 o.Items.length).all (trB o.Items) <;> rfl
theorem index_eq (v : Int) : ∀ (s : List Int) (k : Int),0 ≤ k → ∃ j, 0 ≤ j ∧ forL (F_1a v) s k () = some (bif s.any (fun z => decide (v = z)) then .ex j else .nx ())
 | [], k, h => ⟨0, by omega, rfl⟩
 | x :: q, k, h => by
  simp only [forL, F_1a, List.any_cons]
  by_cases hx : v = x
  ·exact ⟨k, h, by simp [hx, Fl.elim]⟩
  ·obtain ⟨j, h1, h2⟩ := index_eq v q (k + 1) (by omega)
   exact ⟨j, h1, by simpa [hx, Fl.elim] using h2⟩
theorem contains_eq (s : List Int) (v : Int) : F_u s v = some (s.any (fun z => decide (v = z))) := by
 unfold F_u F_1b
 obtain ⟨j, h1, h2⟩ := index_eq v s 0 (by omega)
 rw [h2]
 cases s.any (fun z => decide (v = z)) with
 | false => rfl
 | true => simp [h1, Fl.elim]
def duB (l : List Int) (i j : Nat) : Bool := !decide (l.getD j default = l.getD i default)
def coB (l : List Int) (i : Nat) : Bool := idB (l.getD i default) && (List.range' 0 i).all (duB l i)
theorem any_take {l : List Int} {i : Nat} (hi : i < l.length) : (l.take i).any (fun z => decide (l[i] = z)) = !(List.range' 0 i).all (duB l i) := by
 have e1 : l.getD i default = l[i] := by simp [hi]
 rw [Bool.eq_iff_iff]
 simp only [List.any_eq_true, Bool.not_eq_true', List.all_eq_false, List.mem_range'_1, duB, e1, decide_eq_true_eq]
 constructor
 ·rintro ⟨z, hz, e⟩
  obtain ⟨j, hj, rfl⟩ := List.mem_take_iff_getElem.1 hz
  refine ⟨j, by omega, ?_⟩
  have : j < l.length := by omega
  simp [this, e]
 ·rintro ⟨j, hj, e⟩
  have hjl : j < l.length := by omega
  refine ⟨l[j], List.mem_take_iff_getElem.2 ⟨j, by omega, rfl⟩, ?_⟩
  have : l.getD j default = l[j] := by simp [hjl]
  rw [this] at e
  have e' : l[j] = l[i] := by simpa using e
  simpa using e'.symm
def cmB (o : GObject) : Bool := decide (0 ≤ o.Time) && decide (o.Time ≤ 1099511627776)
theorem commit_eq {o : GObject} (h : o.Parents.length ≤ 1000) : F_v o = some ((List.range' 0 o.Parents.length).all (coB o.Parents) && (idB o.Tree && nmB o.Author && cmB o)) := by
 unfold F_v
 rw [forL_all0 (p := coB o.Parents) (r := false) o.Parents fun i hi => by
  have e1 : o.Parents.getD i default = o.Parents[i] := by simp [hi]
  have e : ((i : Int)).toNat = i := by simp
  have c : inc 0 (i : Int) o.Parents.length = true := inc_iff.2 ⟨by omega, by omega, by omega⟩
  simp only [F_1n, coB, number_eq, Option.bind_some, e1, e, c, chk, cond_true, contains_eq, any_take hi]
  cases idB o.Parents[i] with
  | false => rfl
  | true => cases (List.range' 0 i).all (duB o.Parents i) <;> rfl]
 simp only [number_eq, name_eq, grp, jn, Option.bind_some, cmB]
 cases (List.range' 0 o.Parents.length).all (coB o.Parents) <;> cases idB o.Tree <;> cases nmB o.Author <;> rfl
theorem rcommit_eq {o : GObject} (h : o.Parents.length ≤ 1000) (hn : (o.Author.length : Int) ≤ 9223372036854775807) : F_x o = some ((List.range' 0 o.Parents.length).all (coB o.Parents) && (decide ((o.Data.length : Int) = 0) && decide ((o.Items.length : Int) = 0) && idB o.Tree && nmB o.Author && cmB o)) := by
 unfold F_x
 rw [loop_all0 (p := coB o.Parents) (r := false) (n := o.Parents.length) (by simp [F_1r]) fun i hi => by
  have e1 : o.Parents.getD i default = o.Parents[i] := by simp [hi]
  have e : ((i : Int)).toNat = i := by simp
  have c : decide ((i : Int) < (o.Parents.length : Int)) = true := by simpa using hi
  have c2 : inb (i : Int) o.Parents.length = true := inb_iff.2 ⟨by omega, by omega⟩
  have c3 : in64 ((i : Int) + 1) = true := in64_iff.2 ⟨by omega, by omega⟩
  have hin := loop_all0 (step := F_1f o i) (p := duB o.Parents i) (r := false) (n := i) (by simp [F_1f]) fun j hj => by
   have e2 : ((j : Int)).toNat = j := by simp
   have d : decide ((j : Int) < (i : Int)) = true := by simpa using hj
   have d2 : inb (j : Int) o.Parents.length = true := inb_iff.2 ⟨by omega, by omega⟩
   have d3 : in64 ((j : Int) + 1) = true := in64_iff.2 ⟨by omega, by omega⟩
   simp only [F_1f, duB, e, e2, d, d2, d3, c2, chk, cond_true]
   cases decide (o.Parents.getD j default = o.Parents.getD i default) <;> rfl
  simp only [F_1r, coB, rid_eq, Option.bind_some, e, c, c2, c3, chk, cond_true, hin]
  cases idB (o.Parents.getD i default) with
  | false => rfl
  | true => cases (List.range' 0 i).all (duB o.Parents i) <;> rfl]
 simp only [rid_eq, rname_eq hn, grp, jn, Option.bind_some, cmB]
 cases (List.range' 0 o.Parents.length).all (coB o.Parents) <;> cases decide ((o.Data.length : Int) = 0) <;> cases decide ((o.Items.length : Int) = 0) <;> cases idB o.Tree <;> cases nmB o.Author <;> rfl
end Go.Ab
namespace Go.Ab
def Few (o : GObject) : Prop := o.Data.length ≤ 3000 ∧ o.Items.length ≤ 80 ∧ o.Parents.length ≤ 20 ∧ o.Author.length ≤ 100
def Lng (o : GObject) : Prop := ∀ x ∈ o.Items, (x.Name.length : Int) ≤ 9223372036854775807
def VO (o : GObject) : Prop := o.Kind = 1 ∨ (o.Kind = 2 ∧ ∀ x ∈ o.Items, x.Name.length ≤ 40 ∧ 0 ≤ x.ID ∧ x.ID ≤ 1073741824) ∨ (o.Kind = 3 ∧ (∀ x ∈ o.Parents, 0 ≤ x ∧ x ≤ 1073741824) ∧ 0 ≤ o.Tree ∧ o.Tree ≤ 1073741824 ∧ o.Author.length ≤ 40 ∧ 0 ≤ o.Time ∧ o.Time ≤ 1099511627776)
def trA (o : GObject) : Bool := (List.range' 0 o.Items.length).all (trB o.Items)
def coA (o : GObject) : Bool := (List.range' 0 o.Parents.length).all (coB o.Parents) && (idB o.Tree && nmB o.Author && cmB o)
def oth (o : GObject) : Bool := decide (o.Tree = 0) && decide ((o.Parents.length : Int) = 0) && decide (o.Author = []) && decide (o.Time = 0)
def ryt (o : GObject) : Bool := (decide (o.Kind = 1) && (decide ((o.Items.length : Int) = 0) && oth o)) || (decide (o.Kind = 2) && (decide ((o.Data.length : Int) = 0) && oth o && trA o)) || (decide (o.Kind = 3) && (decide ((o.Data.length : Int) = 0) && decide ((o.Items.length : Int) = 0) && coA o))
def vlB (o : GObject) : Int := bif !idB o.ID then 2 else bif decide (65536 < (o.Data.length : Int)) || decide (64 < (o.Items.length : Int)) || decide (8 < (o.Parents.length : Int)) then 3 else bif ryt o then 0 else 1
theorem pos_ne (n : Nat) : decide (0 < (n : Int)) = !decide ((n : Int) = 0) := by
 cases n with
 | zero => rfl
 | succ n =>
  have h1 : (0 : Int) < ((n + 1 : Nat) : Int) := by omega
  have h2 : ¬ ((n + 1 : Nat) : Int) = 0 := by omega
  rw [decide_eq_true h1, decide_eq_false h2]; rfl
theorem right_eq {o : GObject} (h : Few o) : F_j o = some (ryt o) := by
 obtain ⟨h1, h2, h3, h4⟩ := h
 unfold F_j ryt
 rw [tree_eq (by omega), commit_eq (by omega), pos_ne]
 simp only [grp, jn, Option.bind_some, oth, trA, coA]
 by_cases k1 : o.Kind = 1
 ·have k2 : ¬ o.Kind = 2 := by omega
  have k3 : ¬ o.Kind = 3 := by omega
  rw [decide_eq_true k1, decide_eq_false k2, decide_eq_false k3]
  cases decide (o.Tree = 0) <;> cases decide ((o.Parents.length : Int) = 0) <;> cases decide (o.Author = []) <;> cases decide (o.Time = 0) <;> cases decide ((o.Items.length : Int) = 0) <;> rfl
 ·by_cases k2 : o.Kind = 2
  ·have k3 : ¬ o.Kind = 3 := by omega
   rw [decide_eq_false k1, decide_eq_true k2, decide_eq_false k3]
   generalize (List.range' 0 o.Items.length).all (trB o.Items) = b
   cases decide (o.Tree = 0) <;> cases decide ((o.Parents.length : Int) = 0) <;> cases decide (o.Author = []) <;> cases decide (o.Time = 0) <;> cases decide ((o.Data.length : Int) = 0) <;> cases b <;> rfl
  ·by_cases k3 : o.Kind = 3
   ·rw [decide_eq_false k1, decide_eq_false k2, decide_eq_true k3]
    generalize ((List.range' 0 o.Parents.length).all (coB o.Parents) && (idB o.Tree && nmB o.Author && cmB o)) = b
    cases decide ((o.Items.length : Int) = 0) <;> cases decide ((o.Data.length : Int) = 0) <;> cases b <;> rfl
   ·rw [decide_eq_false k1, decide_eq_false k2, decide_eq_false k3]; rfl
theorem valid_eq {o : GObject} (h : Few o) : F_8 o = some (vlB o) := by
 unfold F_8 vlB
 rw [number_eq, right_eq h]
 simp only [grp, Option.bind_some]
 cases idB o.ID <;> cases decide (65536 < (o.Data.length : Int)) <;> cases decide (64 < (o.Items.length : Int)) <;> cases decide (8 < (o.Parents.length : Int)) <;> cases ryt o <;> rfl
theorem idB_iff {n : Int} (h : idB n = true) : 0 ≤ n ∧ n ≤ 1073741824 := by
 unfold idB at h; simp at h; omega
theorem nmB_len {s : Str} (h : nmB s = true) : s.length ≤ 40 := by
 unfold nmB at h; simp at h; omega
theorem getD_all {α : Type} [Inhabited α] {l : List α} {p : Nat → Bool} (h : (List.range' 0 l.length).all p = true) {x : α} (hx : x ∈ l) : ∃ i, l.getD i default = x ∧ p i = true := by
 obtain ⟨i, hi, rfl⟩ := List.getElem_of_mem hx
 refine ⟨i, by simp [hi], ?_⟩
 rw [List.all_eq_true] at h
 exact h i (by simp; exact hi)
theorem vl_VO {o : GObject} (h : vlB o = 0) : VO o := by
 have hr : ryt o = true := by
  unfold vlB at h
  cases hc : ryt o with
  | true => rfl
  | false =>
   rw [hc] at h
   revert h
   cases idB o.ID <;> cases (decide (65536 < (o.Data.length : Int)) || decide (64 < (o.Items.length : Int)) || decide (8 < (o.Parents.length : Int))) <;> exact fun h => absurd h (by decide)
 unfold ryt at hr
 have hr : ((o.Kind = 1 ∧ (decide ((o.Items.length : Int) = 0) && oth o) = true) ∨ (o.Kind = 2 ∧ (decide ((o.Data.length : Int) = 0) && oth o && trA o) = true)) ∨ (o.Kind = 3 ∧ (decide ((o.Data.length : Int) = 0) && decide ((o.Items.length : Int) = 0) && coA o) = true) := by
  rcases (Bool.or_eq_true _ _).mp hr with h | h
  ·rcases (Bool.or_eq_true _ _).mp h with h | h
   ·exact .inl (.inl ⟨of_decide_eq_true ((Bool.and_eq_true _ _).mp h).1, ((Bool.and_eq_true _ _).mp h).2⟩)
   ·exact .inl (.inr ⟨of_decide_eq_true ((Bool.and_eq_true _ _).mp h).1, ((Bool.and_eq_true _ _).mp h).2⟩)
  ·exact .inr ⟨of_decide_eq_true ((Bool.and_eq_true _ _).mp h).1, ((Bool.and_eq_true _ _).mp h).2⟩
 rcases hr with (⟨k, _⟩ | ⟨k, h2⟩) | ⟨k, h3⟩
 ·exact .inl k
 ·refine .inr (.inl ⟨k, fun x hx => ?_⟩)
  rw [Bool.and_eq_true] at h2
  obtain ⟨i, e, hp⟩ := getD_all h2.2 hx
  unfold trB at hp
  rw [e, Bool.and_eq_true, Bool.and_eq_true] at hp
  exact ⟨nmB_len hp.1, idB_iff hp.2.1⟩
 ·rw [Bool.and_eq_true] at h3
  have h4 := h3.2
  unfold coA at h4
  rw [Bool.and_eq_true, Bool.and_eq_true, Bool.and_eq_true] at h4
  obtain ⟨h5, ⟨h6, h7⟩, h8⟩ := h4
  refine .inr (.inr ⟨k, fun x hx => ?_, (idB_iff h6).1, (idB_iff h6).2, nmB_len h7, ?_⟩)
  ·obtain ⟨i, e, hp⟩ := getD_all h5 hx
   unfold coB at hp
   rw [e, Bool.and_eq_true] at hp
   exact idB_iff hp.1
  ·unfold cmB at h8; simpa using h8
end Go.Ab
namespace Go.Ab
theorem foldL_app {α : Type} {body : Int → α → List UInt8 → Option (List UInt8)} {f : α → Str} : ∀ (xs : List α) (k : Int) (s : Str), (∀ k x (s : Str), x ∈ xs → s.length ≤ 1000000 → body k x s = some (s ++ f x)) → (∀ x ∈ xs, (f x).length ≤ 1000) → s.length + 1000 * xs.length ≤ 1000000 → foldL body xs k s = some (s ++ xs.flatMap f)
 | [], k, s, h, hl, hs => by simp [foldL]
 | x :: q, k, s, h, hl, hs => by
  have h1 := hl x (by simp)
  simp only [List.length_cons] at hs
  simp only [foldL, h k x s (by simp) (by omega), Option.bind_some, List.flatMap_cons]
  rw [foldL_app q (k + 1) (s ++ f x) (fun k x s hx => h k x s (by simp [hx])) (fun x hx => hl x (by simp [hx])) (by rw [List.length_append]; omega), List.append_assoc]
theorem loop_app {α : Type} {step : Str × Int → Option (Fl (Str × Int) Str)} {f : α → Str} {all : List α} (h2 : ∀ s : Str, step (s, (all.length : Int)) = some (.ex s)) (h : ∀ (i : Nat) (hi : i < all.length) (s : Str), s.length ≤ 1000000 → step (s, (i : Int)) = some (.nx (s ++ f all[i], (i : Int) + 1))) (hl : ∀ x ∈ all, (f x).length ≤ 1000) :
  ∀ (xs : List α) (pre : List α) (s : Str), all = pre ++ xs → s.length + 1000 * xs.length ≤ 1000000 → loop step (s, (pre.length : Int)) = some (s ++ xs.flatMap f)
 | [], pre, s, e, hs => by
  have : pre.length = all.length := by rw [e]; simp
  rw [loop_eq, this, h2]; simp [Fl.elim]
 | x :: q, pre, s, e, hs => by
  have hi : pre.length < all.length := by rw [e]; simp
  have ex : all[pre.length] = x := by simp [e]
  have h1 := hl x (by rw [e]; simp)
  simp only [List.length_cons] at hs
  rw [loop_eq, h pre.length hi s (by omega), ex]
  have := loop_app h2 h hl q (pre ++ [x]) (s ++ f x) (by simp [e]) (by rw [List.length_append]; omega)
  simp only [List.length_append, List.length_cons, List.length_nil, Nat.zero_add] at this
  simpa [Fl.elim] using this
theorem strl_sm {n : Nat} (h : n ≤ 100000000) : strl n = true := strl_iff.2 (by omega)
theorem room_sO {n : Nat} (h : n ≤ 100000000) : room n 1 = true := room_iff.2 (by omega)
theorem itoa_nat (u : Nat) : Lib.itoa (u : Int) = Lib.decDigits u := by
 unfold Lib.itoa
 rw [if_neg (by omega)]; rfl
theorem itoaI_sm {n : Int} (h0 : 0 ≤ n) (h : n ≤ 1099511627776) : itoaI n = some (Lib.itoa n) := by
 unfold itoaI chk
 rw [in64_iff.2 ⟨by omega, by omega⟩]; rfl
theorem itoa_sm {n : Int} (h0 : 0 ≤ n) (h : n ≤ 1099511627776) : (Lib.itoa n).length ≤ 21 := Lib.itoa_length_le n (by omega) (by omega)
theorem dig_eq {u : Nat} : u8 (48 + ((u8 (u : Int)).toNat : Int)) = UInt8.ofNat (48 + u) := by
 apply UInt8.toNat_inj.1
 have h := u8_toNat (48 + ((u8 (u : Int)).toNat : Int))
 have h3 := u8_toNat (u : Int)
 have h2 : (UInt8.ofNat (48 + u)).toNat = (48 + u) % 256 := by simp
 rw [h2]
 omega
theorem number_ev (u : Nat) (h : u ≤ 1099511627776) : EvS (fun m => FR_1 m (u : Int)) (Lib.decDigits u) := by
 induction u using Nat.strongRecOn with
 | _ u ih =>
  by_cases c : u < 10
  ·refine ⟨1, fun m hm => ?_⟩
   obtain ⟨m, rfl⟩ : ∃ k, m = k + 1 := ⟨m - 1, by omega⟩
   have c' : decide ((u : Int) < 10) = true := by simp; omega
   simp only [FR_1]
   rw [c', Lib.decDigits, dif_pos c, dig_eq]
   rfl
  ·obtain ⟨n, hn⟩ := ih (u / 10) (by omega) (by omega)
   refine ⟨n + 1, fun m hm => ?_⟩
   obtain ⟨m, rfl⟩ : ∃ k, m = k + 1 := ⟨m - 1, by omega⟩
   have c' : decide ((u : Int) < 10) = false := by simp; omega
   have c2 : divs (u : Int) 10 = true := divs_iff.2 ⟨by omega, by omega⟩
   have e1 : (u : Int) / 10 = ((u / 10 : Nat) : Int) := by omega
   have e2 : (u : Int) % 10 = ((u % 10 : Nat) : Int) := by omega
   have hl : (Lib.decDigits (u / 10)).length ≤ 21 := by rw [← itoa_nat]; exact itoa_sm (by omega) (by omega)
   simp only [FR_1]
   have := hn m (by omega)
   simp only at this
   have hd : Lib.decDigits u = Lib.decDigits (u / 10) ++ [UInt8.ofNat (48 + u % 10)] := by
    rw [Lib.decDigits, dif_neg c]
   rw [c', c2, e1, e2, this, hd]
   simp only [dig_eq]
   simp only [cond_false, chk, cond_true, Option.bind_some]
   rw [strl_sm (by simp; omega)]
   rfl
theorem rnumber_eq {n : Int} (h0 : 0 ≤ n) (h : n ≤ 1099511627776) : F_1 n = some (Lib.itoa n) := by
 obtain ⟨u, rfl⟩ : ∃ u : Nat, n = u := ⟨n.toNat, by omega⟩
 rw [itoa_nat]
 exact lim_of (number_ev u (by omega))
def itB (x : GItem) : Str := ((Lib.itoa x.ID ++ [32]) ++ x.Name) ++ [10]
def paB (n : Int) : Str := ([112,97,114,101,110,116,32] ++ Lib.itoa n) ++ [10]
theorem bws_sm {b s : Str} (h : b.length + s.length ≤ 100000000) : bws b s = some (b ++ s) := by
 unfold bws chk
 rw [room_sO h]; rfl
theorem write1_eq {w r p : Str} (h1 : w.length ≤ 1000) (h2 : r.length ≤ 1000) (h3 : p.length ≤ 10000000) : F_2 w r p = some (p ++ (((w ++ [32]) ++ r) ++ [10])) := by
 unfold F_2 chk
 rw [strl_sm (by simp; omega), strl_sm (by simp; omega), strl_sm (by simp; omega), bws_sm (by simp; omega)]
 rfl
def txt (o : GObject) : Str := bif decide (o.Kind = 1) then [98,108,111,98,10] ++ o.Data else bif decide (o.Kind = 2) then [116,114,101,101,10] ++ o.Items.flatMap itB else ((((((([99,111,109,109,105,116,10,116,114,101,101,32] ++ Lib.itoa o.Tree) ++ [10]) ++ o.Parents.flatMap paB) ++ [97,117,116,104,111,114,32]) ++ o.Author) ++ [10,116,105,109,101,32]) ++ Lib.itoa o.Time) ++ [10]
theorem write_txt {o : GObject} (hf : Few o) (h : VO o) : F_5 o = some (txt o) ∧ F_a o = some (txt o) := by
 obtain ⟨f1, f2, f3, f4⟩ := hf
 rcases h with k | ⟨k, hi⟩ | ⟨k, hp, t1, t2, a1, m1, m2⟩
 ·have et : txt o = [98,108,111,98,10] ++ o.Data := by unfold txt; rw [decide_eq_true k]; rfl
  rw [et]
  refine ⟨?_, ?_⟩
  ·unfold F_5 chk
   rw [decide_eq_true k, room_sO (by simp; omega)]; rfl
  ·unfold F_a chk
   rw [decide_eq_true k, room_sO (by simp; omega)]; rfl
 ·have hl : ∀ x ∈ o.Items, (itB x).length ≤ 1000 := fun x hx => by
   have h1 := hi x hx
   have h2 := itoa_sm h1.2.1 (by omega)
   simp [itB]; omega
  have et : txt o = [116,114,101,101,10] ++ o.Items.flatMap itB := by unfold txt; rw [decide_eq_false (by omega), decide_eq_true k]; rfl
  rw [et]
  refine ⟨?_, ?_⟩
  ·unfold F_5
   rw [decide_eq_false (by omega), decide_eq_true k]
   simp only [cond_true, cond_false]
   rw [bws_sm (by simp)]
   simp only [Option.bind_some, List.nil_append]
   rw [foldL_app (f := itB) o.Items 0 _ (fun k x s hx hs => by
    have h1 := hi x hx
    have h2 := itoa_sm h1.2.1 (by omega)
    simp only [F_1c]
    rw [itoaI_sm h1.2.1 (by omega)]
    simp only [Option.bind_some]
    rw [write1_eq (by omega) (by omega) (by omega)]
    rfl) hl (by simp; omega)]
   rfl
  ·unfold F_a
   rw [decide_eq_false (by omega), decide_eq_true k]
   simp only [cond_true, cond_false]
   have := loop_app (step := F_1g o) (f := itB) (all := o.Items) (fun s => by unfold F_1g; rw [dlt]; rfl) (fun i hi' s hs => by
    have hx := List.getElem_mem hi'
    have h1 := hi _ hx
    have h2 := itoa_sm h1.2.1 (by omega)
    have e1 : o.Items.getD i default = o.Items[i] := by simp [hi']
    have e : ((i : Int)).toNat = i := by simp
    have c : decide ((i : Int) < (o.Items.length : Int)) = true := by simpa using hi'
    have c2 : inb (i : Int) o.Items.length = true := kB hi'
    have c3 : in64 ((i : Int) + 1) = true := in64_iff.2 ⟨by omega, by omega⟩
    unfold F_1g
    simp only [e, e1, c, c2, c3, chk, cond_true]
    rw [rnumber_eq h1.2.1 (by omega)]
    simp only [Option.bind_some]
    rw [strl_sm (by simp; omega), strl_sm (by simp; omega), strl_sm (by simp; omega), strl_sm (by simp; omega)]
    rfl) hl o.Items [] [116,114,101,101,10] rfl (by simp; omega)
   simp only [List.length_nil, Int.natCast_zero] at this
   rw [this]; rfl
 ·have hl : ∀ x ∈ o.Parents, (paB x).length ≤ 1000 := fun x hx => by
   have h1 := hp x hx
   have h2 := itoa_sm h1.1 (by omega)
   simp [paB]; omega
  have ht := itoa_sm t1 (by omega)
  have hm := itoa_sm m1 (by omega)
  have hfl : (o.Parents.flatMap paB).length ≤ 1000 * o.Parents.length := by
   have : ∀ xs : List Int, (∀ x ∈ xs, (paB x).length ≤ 1000) → (xs.flatMap paB).length ≤ 1000 * xs.length := fun xs => by
    induction xs with
    | nil => intro _; simp
    | cons x q ih => intro h; have := h x (by simp); have := ih fun x hx => h x (by simp [hx]); simp only [List.flatMap_cons, List.length_append, List.length_cons]; omega
   exact this _ hl
  have hs0 : (([99,111,109,109,105,116,10,116,114,101,101,32] ++ Lib.itoa o.Tree) ++ [10]).length ≤ 34 := by simp; omega
  have et : txt o = ((((((([99,111,109,109,105,116,10,116,114,101,101,32] ++ Lib.itoa o.Tree) ++ [10]) ++ o.Parents.flatMap paB) ++ [97,117,116,104,111,114,32]) ++ o.Author) ++ [10,116,105,109,101,32]) ++ Lib.itoa o.Time) ++ [10] := by unfold txt; rw [decide_eq_false (by omega), decide_eq_false (by omega)]; rfl
  rw [et]
  refine ⟨?_, ?_⟩
  ·unfold F_5
   rw [decide_eq_false (by omega), decide_eq_false (by omega)]
   simp only [cond_true, cond_false]
   rw [bws_sm (by simp), itoaI_sm t1 (by omega)]
   simp only [Option.bind_some, List.nil_append]
   rw [write1_eq (by simp) (by omega) (by simp)]
   simp only [Option.bind_some]
   rw [foldL_app (f := paB) o.Parents 0 _ (fun k x s hx hs => by
    have h1 := hp x hx
    have h2 := itoa_sm h1.1 (by omega)
    simp only [F_1o]
    rw [itoaI_sm h1.1 (by omega)]
    simp only [Option.bind_some]
    rw [write1_eq (by simp) (by omega) (by omega)]
    rfl) hl (by simp; omega)]
   simp only [Option.bind_some]
   rw [write1_eq (by simp) (by omega) (by simp only [List.length_append, List.length_cons, List.length_nil]; omega)]
   simp only [Option.bind_some]
   rw [itoaI_sm m1 m2]
   simp only [Option.bind_some]
   rw [write1_eq (by simp) (by omega) (by simp only [List.length_append, List.length_cons, List.length_nil]; omega)]
   simp only [Option.bind_some, bstr]
   simp
  ·unfold F_a
   rw [decide_eq_false (by omega), decide_eq_false (by omega)]
   simp only [cond_true, cond_false]
   rw [rnumber_eq t1 (by omega)]
   simp only [Option.bind_some, chk]
   rw [strl_sm (by simp; omega), strl_sm (by simp; omega)]
   simp only [cond_true]
   have := loop_app (step := F_1h o) (f := paB) (all := o.Parents) (fun s => by unfold F_1h; rw [dlt]; rfl) (fun i hi' s hs => by
    have hx := List.getElem_mem hi'
    have h1 := hp _ hx
    have h2 := itoa_sm h1.1 (by omega)
    have e1 : o.Parents.getD i default = o.Parents[i] := by simp [hi']
    have e : ((i : Int)).toNat = i := by simp
    have c : decide ((i : Int) < (o.Parents.length : Int)) = true := by simpa using hi'
    have c2 : inb (i : Int) o.Parents.length = true := kB hi'
    have c3 : in64 ((i : Int) + 1) = true := in64_iff.2 ⟨by omega, by omega⟩
    unfold F_1h
    simp only [e, e1, c, c2, c3, chk, cond_true]
    rw [rnumber_eq h1.1 (by omega)]
    simp only [Option.bind_some]
    rw [strl_sm (by simp; omega), strl_sm (by simp; omega), strl_sm (by simp; omega)]
    rfl) hl o.Parents [] (([99,111,109,109,105,116,10,116,114,101,101,32] ++ Lib.itoa o.Tree) ++ [10]) rfl (by omega)
   simp only [List.length_nil, Int.natCast_zero] at this
   rw [this]
   simp only [Option.bind_some]
   rw [strl_sm (by simp only [List.length_append, List.length_cons, List.length_nil]; omega), strl_sm (by simp only [List.length_append, List.length_cons, List.length_nil]; omega), strl_sm (by simp only [List.length_append, List.length_cons, List.length_nil]; omega), rnumber_eq m1 m2]
   simp only [Option.bind_some, cond_true]
   rw [strl_sm (by simp only [List.length_append, List.length_cons, List.length_nil]; omega), strl_sm (by simp only [List.length_append, List.length_cons, List.length_nil]; omega)]
   rfl
end Go.Ab
namespace Go.Ab
theorem linesL_app : ∀ (l r : Str), (∀ c ∈ l, c ≠ 10) → linesL (l ++ 10 :: r) = (l ++ [10]) :: linesL r
 | [], r, _ => rfl
 | c :: l, r, h => by
  have hc : (c == 10) = false := by simpa using h c (by simp)
  have ih := linesL_app l r fun c hc => h c (by simp [hc])
  simp only [List.cons_append, linesL, hc, cond_false]
  rw [ih]
theorem index_app (c : UInt8) : ∀ (l r : Str), (∀ x ∈ l, x ≠ c) → Lib.indexByte (l ++ c :: r) c = l.length
 | [], r, _ => by simp [Lib.indexByte]
 | x :: l, r, h => by
  have hx : (x == c) = false := by simpa using h x (by simp)
  have ih := index_app c l r fun y hy => h y (by simp [hy])
  simp only [List.cons_append, Lib.indexByte, hx, ih, List.length_cons]
  have : ¬ ((l.length : Int) == -1) = true := by simp
  simp [this]
theorem dig_bounds (u : Nat) : ∀ c ∈ Lib.decDigits u, 48 ≤ c.toNat ∧ c.toNat ≤ 57 := by
 induction u using Nat.strongRecOn with
 | _ u ih =>
  intro c hc
  rw [Lib.decDigits] at hc
  split at hc
  ·rename_i h
   simp at hc; subst hc
   simp; omega
  ·rcases List.mem_append.1 hc with hc | hc
   ·exact ih (u / 10) (by omega) c hc
   ·simp at hc; subst hc
    simp; omega
theorem parse_dig (u : Nat) (h : u ≤ 1099511627776) (l : Str) : Lib.parseUint10 0 (Lib.decDigits u ++ l) = Lib.parseUint10 u l := by
 induction u using Nat.strongRecOn generalizing l with
 | _ u ih =>
  rw [Lib.decDigits]
  split
  ·rename_i hu
   have e : (UInt8.ofNat (48 + u)).toNat = 48 + u := by simp; omega
   simp only [List.cons_append, List.nil_append, Lib.parseUint10, e]
   rw [if_pos (by omega), if_neg (by omega), if_neg (by omega)]
   congr 1; omega
  ·rename_i hu
   rw [List.append_assoc, ih (u / 10) (by omega) (by omega)]
   have e : (UInt8.ofNat (48 + u % 10)).toNat = 48 + u % 10 := by simp; omega
   simp only [List.cons_append, List.nil_append, Lib.parseUint10, e]
   rw [if_pos (by omega), if_neg (by omega), if_neg (by omega)]
   congr 1; omega
theorem atoiV_itoa {n : Int} (h0 : 0 ≤ n) (h : n ≤ 1099511627776) : atoiV (Lib.itoa n) = n := by
 obtain ⟨u, rfl⟩ : ∃ u : Nat, n = u := ⟨n.toNat, by omega⟩
 rw [itoa_nat]
 have hb := dig_bounds u
 have hp := parse_dig u (by omega) []
 rw [List.append_nil] at hp
 have hne : Lib.decDigits u ≠ [] := by rw [Lib.decDigits]; split <;> simp
 unfold atoiV
 cases hd : Lib.decDigits u with
 | nil => exact absurd hd hne
 | cons c r =>
  have h1 := hb c (by rw [hd]; simp)
  rw [Lib.atoiAll_plain c r (by omega) (by omega)]
  have hm : Lib.parseMag (c :: r) = .ok u := by
   unfold Lib.parseMag
   rw [if_neg (by simp), ← hd, hp]; rfl
  rw [hm]
  simp only [Lib.signless]
  rw [if_neg (by omega)]
theorem atoiI_itoa {n : Int} (h0 : 0 ≤ n) (h : n ≤ 1099511627776) : atoiI (Lib.itoa n) = some n := by
 unfold atoiI chk
 have := itoa_sm h0 h
 rw [decide_eq_true (by omega), atoiV_itoa h0 h]; rfl
theorem trim_eq {l : Str} (h : l.length ≤ 1000000) : F_b (l ++ [10]) [10] = some l := by
 unfold F_b F_11 F_r
 have e1 : decide ((([10] : Str).length : Int) ≤ ((l ++ [10]).length : Int)) = true := by simp; omega
 have e2 : ((l ++ [10]).length : Int) - (([10] : Str).length : Int) = l.length := by simp
 have c1 : in64 (l.length : Int) = true := in64_iff.2 ⟨by omega, by omega⟩
 have c2 : inc (l.length : Int) ((l ++ [10]).length : Int) (l ++ [10]).length = true := inc_iff.2 ⟨by omega, by simp; omega, by omega⟩
 have c3 : inc 0 (l.length : Int) (l ++ [10]).length = true := inc_iff.2 ⟨by omega, by omega, by simp; omega⟩
 have e3 : ((l.length : Int)).toNat = l.length := by simp
 have e4 : (l ++ [10]).drop l.length = [10] := by simp
 have e5 : (l ++ [10]).take l.length = l := by simp
 rw [e1, e2]
 simp only [cond_true, chk, c1, c2, c3, e3, e4, e5, jn, Option.bind_some, decide_true]
theorem cut_eq {l r : Str} (h : ∀ c ∈ l, c ≠ 32) (hl : (l ++ 32 :: r).length ≤ 1000000) : F_c (l ++ 32 :: r) [32] = some (l, r, true) := by
 unfold F_c F_12
 have ei : ix1 (l ++ 32 :: r) [32] = some (l.length : Int) := by
  show some (Lib.indexByte (l ++ 32 :: r) 32) = _
  rw [index_app 32 l r h]
 rw [ei]
 have c0 : decide ((0 : Int) ≤ (l.length : Int)) = true := by simp
 have hl2 : l.length + 1 ≤ (l ++ 32 :: r).length := by simp
 have c1 : inc 0 (l.length : Int) (l ++ 32 :: r).length = true := inc_iff.2 ⟨by omega, by omega, by omega⟩
 have e2 : (l.length : Int) + (([32] : Str).length : Int) = l.length + 1 := by simp
 have c2 : in64 ((l.length : Int) + 1) = true := in64_iff.2 ⟨by omega, by omega⟩
 have c3 : inc ((l.length : Int) + 1) ((l ++ 32 :: r).length : Int) (l ++ 32 :: r).length = true := inc_iff.2 ⟨by omega, by omega, by omega⟩
 have e3 : ((l.length : Int)).toNat = l.length := by simp
 have e4 : ((l.length : Int) + 1).toNat = l.length + 1 := by omega
 have e5 : (l ++ 32 :: r).take l.length = l := by simp
 have e6 : (l ++ 32 :: r).drop (l.length + 1) = r := by
  rw [List.drop_append]; simp
 simp only [Option.bind_some, c0, cond_true, chk, c1, e2, c2, c3, e3, e4, e5, e6]
end Go.Ab
namespace Go.Ab
theorem dig_ne {n : Int} (h0 : 0 ≤ n) : ∀ c ∈ Lib.itoa n, c ≠ 10 ∧ c ≠ 32 := by
 obtain ⟨u, rfl⟩ : ∃ u : Nat, n = u := ⟨n.toNat, by omega⟩
 rw [itoa_nat]
 intro c hc
 have := dig_bounds u c hc
 exact ⟨fun e => by subst e; simp at this, fun e => by subst e; simp at this⟩
theorem nm_ne {s : Str} (h : nmB s = true) : ∀ c ∈ s, c ≠ 10 ∧ c ≠ 32 := by
 intro c hc
 unfold nmB at h
 rw [Bool.and_eq_true] at h
 obtain ⟨i, hi, rfl⟩ := List.getElem_of_mem hc
 have h1 := (List.all_eq_true.1 h.1) i (by simp; exact hi)
 have e : s.getD i 0 = s[i] := by simp [hi]
 unfold chB at h1
 rw [e] at h1
 simp at h1
 have h2 := h1.1.1
 exact ⟨fun e => by rw [e] at h2; simp at h2, fun e => by rw [e] at h2; simp at h2⟩
def iOK (x : GItem) : Prop := (∀ c ∈ x.Name, c ≠ 10 ∧ c ≠ 32) ∧ x.Name.length ≤ 40 ∧ 0 ≤ x.ID ∧ x.ID ≤ 1073741824
theorem lines_items : ∀ (xs : List GItem), (∀ x ∈ xs, iOK x) → linesL (xs.flatMap itB) = xs.map itB
 | [], _ => rfl
 | x :: r, h => by
  have hx := h x (by simp)
  rw [List.flatMap_cons, List.map_cons]
  have e : itB x ++ r.flatMap itB = (Lib.itoa x.ID ++ 32 :: x.Name) ++ 10 :: r.flatMap itB := by simp [itB]
  have e2 : itB x = (Lib.itoa x.ID ++ 32 :: x.Name) ++ [10] := by simp [itB]
  rw [e, linesL_app _ _ (fun c hc => ?_), lines_items r fun y hy => h y (by simp [hy]), e2]
  rcases List.mem_append.1 hc with hc | hc
  ·exact (dig_ne hx.2.2.1 c hc).1
  ·rcases List.mem_cons.1 hc with rfl | hc
   ·decide
   ·exact (hx.1 c hc).1
theorem readItems : ∀ (xs : List GItem) (k : Int) (out : List GItem), (∀ x ∈ xs, iOK x) → out.length + xs.length ≤ 1000 → forL F_22 (xs.map itB) k out = some (.nx (out ++ xs))
 | [], k, out, _, _ => by simp [forL]
 | x :: r, k, out, h, hl => by
  obtain ⟨h1, h2, h3, h4⟩ := h x (by simp)
  have ht := itoa_sm h3 (by omega)
  simp only [List.length_cons] at hl
  have e2 : itB x = (Lib.itoa x.ID ++ 32 :: x.Name) ++ [10] := by simp [itB]
  have hb : F_22 k (itB x) out = some (.nx (out ++ [x])) := by
   unfold F_22
   rw [e2, trim_eq (by simp; omega)]
   simp only [Option.bind_some]
   rw [cut_eq (fun c hc => (dig_ne h3 c hc).2) (by simp; omega)]
   simp only [Option.bind_some]
   rw [atoiI_itoa h3 (by omega)]
   simp only [Option.bind_some, chk]
   rw [room_iff.2 (by simp; omega)]
   rfl
  simp only [List.map_cons, forL, hb, Option.bind_some]
  have := readItems r (k + 1) (out ++ [x]) (fun y hy => h y (by simp [hy])) (by simp; omega)
  simpa [Fl.elim] using this
theorem readTree_eq {xs : List GItem} (h : ∀ x ∈ xs, iOK x) (hl : xs.length ≤ 1000) : F_l (xs.flatMap itB) = some (GObject.mk 0 2 [] xs 0 [] [] 0) := by
 unfold F_l linF
 rw [lines_items xs h, readItems xs 0 [] h (by simpa using hl)]
 rfl
theorem line_step {w r : Str} {y : Int} (hw : ∀ c ∈ w, c ≠ 32) (hl : (w ++ 32 :: r).length ≤ 100000) (ha : atoiI r = some y) (k : Int) (x : Int × Str × Int × List Int) : F_1v k ((w ++ 32 :: r) ++ [10]) x =
  bif decide (w = [116,114,101,101]) then some (.nx (y, x.2.1, x.2.2.1, x.2.2.2)) else bif decide (w = [112,97,114,101,110,116]) then chk (room (x.2.2.2.length + [y].length) 8) (some (.nx (x.1, x.2.1, x.2.2.1, (x.2.2.2 ++ [y])))) else bif decide (w = [97,117,116,104,111,114]) then some (.nx (x.1, r, x.2.2.1, x.2.2.2)) else bif decide (w = [116,105,109,101]) then some (.nx (x.1, x.2.1, y, x.2.2.2)) else some (.nx (x.1, x.2.1, x.2.2.1, x.2.2.2)) := by
 conv => lhs; unfold F_1v
 rw [trim_eq (by omega)]
 simp only [Option.bind_some]
 rw [cut_eq hw (by omega)]
 simp only [Option.bind_some]
 rw [ha]; rfl
end Go.Ab
namespace Go.Ab
theorem atoi_some {r : Str} (h : r.length ≤ 1000) : ∃ y, atoiI r = some y := by
 unfold atoiI chk
 rw [decide_eq_true (by omega)]
 exact ⟨_, rfl⟩
theorem paB_eq (n : Int) : paB n = ([112,97,114,101,110,116] ++ 32 :: Lib.itoa n) ++ [10] := by simp [paB]
theorem lines_pars (t : Str) : ∀ (xs : List Int), (∀ x ∈ xs, 0 ≤ x) → linesL (xs.flatMap paB ++ t) = xs.map paB ++ linesL t
 | [], _ => rfl
 | x :: r, h => by
  have hx := h x (by simp)
  rw [List.flatMap_cons, List.map_cons]
  have e : (paB x ++ r.flatMap paB) ++ t = ([112,97,114,101,110,116] ++ 32 :: Lib.itoa x) ++ 10 :: (r.flatMap paB ++ t) := by simp [paB]
  rw [e, linesL_app _ _ (fun c hc => ?_), lines_pars t r fun y hy => h y (by simp [hy]), paB_eq]
  ·rfl
  rcases List.mem_append.1 hc with hc | hc
  ·have : ∀ c ∈ ([112,97,114,101,110,116] : Str), c ≠ 10 := by decide
   exact this c hc
  ·rcases List.mem_cons.1 hc with rfl | hc
   ·decide
   ·exact (dig_ne hx c hc).1
theorem forL_app' {α σ ρ : Type} {body : Int → α → σ → Option (Fl σ ρ)} : ∀ (xs ys : List α) (k : Int) (s s' : σ), forL body xs k s = some (.nx s') → forL body (xs ++ ys) k s = forL body ys (k + xs.length) s'
 | [], ys, k, s, s', h => by
  simp only [forL] at h; cases h; simp
 | x :: r, ys, k, s, s', h => by
  simp only [forL, List.cons_append] at h ⊢
  cases hb : body k x s with
  | none => rw [hb] at h; cases h
  | some o =>
   rw [hb] at h
   simp only [Option.bind_some] at h ⊢
   cases o with
   | ex e => cases h
   | nx s1 =>
    simp only [Fl.elim] at h ⊢
    rw [forL_app' r ys (k + 1) s1 s' h]
    congr 1
    simp; omega
theorem readPars : ∀ (xs : List Int) (k : Int) (t : Int) (a : Str) (m : Int) (out : List Int), (∀ x ∈ xs, 0 ≤ x ∧ x ≤ 1073741824) → out.length + xs.length ≤ 1000 → forL F_1v (xs.map paB) k (t, a, m, out) = some (.nx (t, a, m, out ++ xs))
 | [], k, t, a, m, out, _, _ => by simp [forL]
 | x :: r, k, t, a, m, out, h, hl => by
  obtain ⟨h3, h4⟩ := h x (by simp)
  have ht := itoa_sm h3 (by omega)
  simp only [List.length_cons] at hl
  have hb : F_1v k (paB x) (t, a, m, out) = some (.nx (t, a, m, out ++ [x])) := by
   rw [paB_eq, line_step (by decide) (by simp; omega) (atoiI_itoa h3 (by omega))]
   simp only [show decide (([112,97,114,101,110,116] : Str) = [116,114,101,101]) = false by decide, decide_true, cond_false, cond_true, chk]
   rw [room_iff.2 (by simp; omega)]
   rfl
  simp only [List.map_cons, forL, hb, Option.bind_some]
  have := readPars r (k + 1) t a m (out ++ [x]) (fun y hy => h y (by simp [hy])) (by simp; omega)
  simpa [Fl.elim] using this
theorem readCommit_eq {o : GObject} (hp : ∀ x ∈ o.Parents, 0 ≤ x ∧ x ≤ 1073741824) (hl : o.Parents.length ≤ 900) (t1 : 0 ≤ o.Tree) (t2 : o.Tree ≤ 1073741824) (a1 : ∀ c ∈ o.Author, c ≠ 10 ∧ c ≠ 32) (a2 : o.Author.length ≤ 40) (m1 : 0 ≤ o.Time) (m2 : o.Time ≤ 1099511627776) :
  F_m ((((((([116,114,101,101,32] ++ Lib.itoa o.Tree) ++ [10]) ++ o.Parents.flatMap paB) ++ [97,117,116,104,111,114,32]) ++ o.Author) ++ [10,116,105,109,101,32]) ++ Lib.itoa o.Time ++ [10]) = some (GObject.mk 0 3 [] [] o.Tree o.Parents o.Author o.Time) := by
 have ht := itoa_sm t1 (by omega)
 have hm := itoa_sm m1 (by omega)
 have e : (((((([116,114,101,101,32] ++ Lib.itoa o.Tree) ++ [10]) ++ o.Parents.flatMap paB) ++ [97,117,116,104,111,114,32]) ++ o.Author) ++ [10,116,105,109,101,32]) ++ Lib.itoa o.Time ++ [10] = ([116,114,101,101] ++ 32 :: Lib.itoa o.Tree) ++ 10 :: (o.Parents.flatMap paB ++ (([97,117,116,104,111,114] ++ 32 :: o.Author) ++ 10 :: (([116,105,109,101] ++ 32 :: Lib.itoa o.Time) ++ 10 :: []))) := by simp
 have k1 : ∀ c ∈ ([116,114,101,101] ++ 32 :: Lib.itoa o.Tree : Str), c ≠ 10 := fun c hc => by
  rcases List.mem_append.1 hc with hc | hc
  ·exact (show ∀ c ∈ ([116,114,101,101] : Str), c ≠ 10 by decide) c hc
  ·rcases List.mem_cons.1 hc with rfl | hc
   ·decide
   ·exact (dig_ne t1 c hc).1
 have k2 : ∀ c ∈ ([97,117,116,104,111,114] ++ 32 :: o.Author : Str), c ≠ 10 := fun c hc => by
  rcases List.mem_append.1 hc with hc | hc
  ·exact (show ∀ c ∈ ([97,117,116,104,111,114] : Str), c ≠ 10 by decide) c hc
  ·rcases List.mem_cons.1 hc with rfl | hc
   ·decide
   ·exact (a1 c hc).1
 have k3 : ∀ c ∈ ([116,105,109,101] ++ 32 :: Lib.itoa o.Time : Str), c ≠ 10 := fun c hc => by
  rcases List.mem_append.1 hc with hc | hc
  ·exact (show ∀ c ∈ ([116,105,109,101] : Str), c ≠ 10 by decide) c hc
  ·rcases List.mem_cons.1 hc with rfl | hc
   ·decide
   ·exact (dig_ne m1 c hc).1
 obtain ⟨ya, hya⟩ := atoi_some (r := o.Author) (by omega)
 unfold F_m linF
 rw [e, linesL_app _ _ k1, lines_pars _ _ (fun x hx => (hp x hx).1), linesL_app _ _ k2, linesL_app _ _ k3]
 simp only [forL, Option.bind_some]
 rw [line_step (by decide) (by simp; omega) (atoiI_itoa t1 (by omega))]
 simp only [decide_true, cond_true, Option.bind_some, Fl.elim]
 rw [forL_app' _ _ _ _ _ (readPars o.Parents _ o.Tree [] 0 [] hp (by simpa using by omega))]
 simp only [forL, Option.bind_some, linesL, List.nil_append]
 rw [line_step (by decide) (by simp; omega) hya]
 simp only [show decide (([97,117,116,104,111,114] : Str) = [116,114,101,101]) = false by decide, show decide (([97,117,116,104,111,114] : Str) = [112,97,114,101,110,116]) = false by decide, decide_true, cond_true, cond_false, Option.bind_some, Fl.elim, forL]
 rw [line_step (by decide) (by simp; omega) (atoiI_itoa m1 (by omega))]
 simp only [show decide (([116,105,109,101] : Str) = [116,114,101,101]) = false by decide, show decide (([116,105,109,101] : Str) = [112,97,114,101,110,116]) = false by decide, show decide (([116,105,109,101] : Str) = [97,117,116,104,111,114]) = false by decide, decide_true, cond_true, cond_false, Option.bind_some, Fl.elim]
end Go.Ab
namespace Go.Ab
theorem cutp_yes {p r : Str} : F_3 (p ++ r) p = some (r, true) := by
 unfold F_3 F_10 F_z
 have c1 : decide ((p.length : Int) ≤ ((p ++ r).length : Int)) = true := by simp; omega
 have c2 : inc 0 (p.length : Int) (p ++ r).length = true := inc_iff.2 ⟨by omega, by omega, by simp; omega⟩
 have c3 : inc (p.length : Int) ((p ++ r).length : Int) (p ++ r).length = true := inc_iff.2 ⟨by omega, by simp; omega, by omega⟩
 have e3 : ((p.length : Int)).toNat = p.length := by simp
 have e4 : (p ++ r).take p.length = p := by simp
 have e5 : (p ++ r).drop p.length = r := by simp
 simp only [c1, c2, c3, e3, e4, e5, cond_true, chk, jn, Option.bind_some, decide_true, Bool.not_true, cond_false]
theorem cutp_no {s p : Str} (h : s.take p.length ≠ p) : F_3 s p = some (s, false) := by
 unfold F_3 F_10 F_z
 have e3 : ((p.length : Int)).toNat = p.length := by simp
 cases hc : decide ((p.length : Int) ≤ (s.length : Int)) with
 | false => rfl
 | true =>
  have hc := of_decide_eq_true hc
  have c2 : inc 0 (p.length : Int) s.length = true := inc_iff.2 ⟨by omega, by omega, hc⟩
  simp only [c2, e3, cond_true, chk, jn, Option.bind_some, decide_eq_false h, Bool.not_false]
theorem vl_id {o : GObject} (h : vlB o = 0) : idB o.ID = true ∧ ryt o = true := by
 unfold vlB at h
 revert h
 cases idB o.ID <;> cases (decide (65536 < (o.Data.length : Int)) || decide (64 < (o.Items.length : Int)) || decide (8 < (o.Parents.length : Int))) <;> cases ryt o <;> simp
theorem oth_of {o : GObject} (h : oth o = true) : o.Tree = 0 ∧ o.Parents = [] ∧ o.Author = [] ∧ o.Time = 0 := by
 unfold oth at h
 simp only [Bool.and_eq_true, decide_eq_true_eq] at h
 obtain ⟨⟨⟨h1, h2⟩, h3⟩, h4⟩ := h
 exact ⟨h1, List.length_eq_zero_iff.1 (by omega), h3, h4⟩
theorem ryt_of {o : GObject} (h : ryt o = true) : (o.Kind = 1 ∧ o.Items = [] ∧ oth o = true) ∨ (o.Kind = 2 ∧ o.Data = [] ∧ oth o = true ∧ trA o = true) ∨ (o.Kind = 3 ∧ o.Data = [] ∧ o.Items = [] ∧ coA o = true) := by
 unfold ryt at h
 rcases (Bool.or_eq_true _ _).mp h with h | h
 ·rcases (Bool.or_eq_true _ _).mp h with h | h
  ·simp only [Bool.and_eq_true, decide_eq_true_eq] at h
   exact .inl ⟨h.1, List.length_eq_zero_iff.1 (by omega), h.2.2⟩
  ·simp only [Bool.and_eq_true, decide_eq_true_eq] at h
   exact .inr (.inl ⟨h.1, List.length_eq_zero_iff.1 (by omega), h.2.1.2, h.2.2⟩)
 ·simp only [Bool.and_eq_true, decide_eq_true_eq] at h
  exact .inr (.inr ⟨h.1, List.length_eq_zero_iff.1 (by omega), List.length_eq_zero_iff.1 (by omega), h.2.2⟩)
theorem trA_ok {o : GObject} (h : trA o = true) : ∀ x ∈ o.Items, iOK x := fun x hx => by
 obtain ⟨i, e, hp⟩ := getD_all h hx
 unfold trB at hp
 rw [e, Bool.and_eq_true, Bool.and_eq_true] at hp
 exact ⟨nm_ne hp.1, nmB_len hp.1, (idB_iff hp.2.1).1, (idB_iff hp.2.1).2⟩
theorem parse_fin {o j : GObject} (hf : Few o) (hv : vlB o = 0) (e : GObject.mk o.ID j.Kind j.Data j.Items j.Tree j.Parents j.Author j.Time = o) :
  ((F_8 (GObject.mk o.ID j.Kind j.Data j.Items j.Tree j.Parents j.Author j.Time)).bind fun y31 => bif (!decide (y31 = 0)) then some ((GObject.mk 0 0 [] [] 0 [] [] 0),10) else (F_5 (GObject.mk o.ID j.Kind j.Data j.Items j.Tree j.Parents j.Author j.Time)).bind fun y32 => (F_9 y32 (txt o)).bind fun y33 => bif (!y33) then some ((GObject.mk 0 0 [] [] 0 [] [] 0),10) else some ((GObject.mk o.ID j.Kind j.Data j.Items j.Tree j.Parents j.Author j.Time), (0 : Int))) = some (o, 0) := by
 rw [e, valid_eq hf, hv]
 simp only [Option.bind_some, decide_true, Bool.not_true, cond_false]
 rw [(write_txt hf (vl_VO hv)).1]
 simp only [Option.bind_some, F_9, decide_true, Bool.not_true, cond_false]
theorem parse_back {o : GObject} (hf : Few o) (hv : vlB o = 0) : F_d o.ID (txt o) = some (o, 0) := by
 obtain ⟨hid, hr⟩ := vl_id hv
 unfold F_d
 rw [number_eq, hid]
 simp only [Option.bind_some, Bool.not_true, cond_false]
 rcases ryt_of hr with ⟨k, i0, ho⟩ | ⟨k, d0, ho, ht⟩ | ⟨k, d0, i0, hc⟩
 ·obtain ⟨t0, p0, a0, m0⟩ := oth_of ho
  have et : txt o = [98,108,111,98,10] ++ o.Data := by unfold txt; rw [decide_eq_true k]; rfl
  have hj : F_3 (txt o) [98,108,111,98,10] = some (o.Data, true) := by rw [et]; exact cutp_yes
  rw [hj]
  simp only [Option.bind_some, cond_true, jn]
  exact parse_fin (j := GObject.mk 0 1 o.Data [] 0 [] [] 0) hf hv (by cases o; simp_all)
 ·obtain ⟨t0, p0, a0, m0⟩ := oth_of ho
  have et : txt o = [116,114,101,101,10] ++ o.Items.flatMap itB := by unfold txt; rw [decide_eq_false (by omega), decide_eq_true k]; rfl
  have h1 : F_3 (txt o) [98,108,111,98,10] = some (txt o, false) := cutp_no (by rw [et]; simp)
  have h2 : F_3 (txt o) [116,114,101,101,10] = some (o.Items.flatMap itB, true) := by rw [et]; exact cutp_yes
  rw [h1]
  simp only [Option.bind_some, cond_false]
  rw [h2]
  simp only [Option.bind_some, cond_true]
  rw [readTree_eq (trA_ok ht) (by have := hf.2.1; omega)]
  simp only [Option.bind_some, jn]
  exact parse_fin (j := GObject.mk 0 2 [] o.Items 0 [] [] 0) hf hv (by cases o; simp_all)
 ·unfold coA cmB at hc
  simp only [Bool.and_eq_true, decide_eq_true_eq] at hc
  obtain ⟨hp, ⟨ht, ha⟩, m1, m2⟩ := hc
  have et : txt o = [99,111,109,109,105,116,10] ++ ((((((([116,114,101,101,32] ++ Lib.itoa o.Tree) ++ [10]) ++ o.Parents.flatMap paB) ++ [97,117,116,104,111,114,32]) ++ o.Author) ++ [10,116,105,109,101,32]) ++ Lib.itoa o.Time ++ [10]) := by
   unfold txt; rw [decide_eq_false (by omega), decide_eq_false (by omega)]; simp
  have h1 : F_3 (txt o) [98,108,111,98,10] = some (txt o, false) := cutp_no (by rw [et]; simp)
  have h2 : F_3 (txt o) [116,114,101,101,10] = some (txt o, false) := cutp_no (by rw [et]; simp)
  have h3 := cutp_yes (p := [99,111,109,109,105,116,10]) (r := ((((((([116,114,101,101,32] ++ Lib.itoa o.Tree) ++ [10]) ++ o.Parents.flatMap paB) ++ [97,117,116,104,111,114,32]) ++ o.Author) ++ [10,116,105,109,101,32]) ++ Lib.itoa o.Time ++ [10]))
  rw [← et] at h3
  rw [h1]
  simp only [Option.bind_some, cond_false]
  rw [h2]
  simp only [Option.bind_some, cond_false]
  rw [h3]
  simp only [Option.bind_some, cond_true]
  rw [readCommit_eq (fun x hx => by
   obtain ⟨i, e, hq⟩ := getD_all hp hx
   unfold coB at hq
   rw [e, Bool.and_eq_true] at hq
   exact idB_iff hq.1) (by have := hf.2.2.1; omega) (idB_iff ht).1 (idB_iff ht).2 (nm_ne ha) (nmB_len ha) m1 m2]
  simp only [Option.bind_some, jn]
  exact parse_fin (j := GObject.mk 0 3 [] [] o.Tree o.Parents o.Author o.Time) hf hv (by cases o; simp_all)
end Go.Ab
namespace Go.Ab
def itE (a b : List GItem) (i : Nat) : Bool := decide ((a.getD i default).Name = (b.getD i default).Name) && decide ((a.getD i default).ID = (b.getD i default).ID)
def paE (a b : List Int) (i : Nat) : Bool := decide (a.getD i default = b.getD i default)
theorem bif_not {α : Type} (b : Bool) (x y : α) : (bif !b then some x else some y) = some (bif b then y else x) := by cases b <;> rfl
theorem itemsEq_eq {a b : List GItem} : F_2r a b = some (decide ((a.length : Int) = (b.length : Int)) && (List.range' 0 a.length).all (itE a b)) := by
 unfold F_2r
 by_cases c : (a.length : Int) = (b.length : Int)
 ·rw [decide_eq_true c, forL_all0 (p := itE a b) (r := false) a fun i hi => by
   have e1 : a.getD i default = a[i] := by simp [hi]
   have e : ((i : Int)).toNat = i := by simp
   have c2 : inb (i : Int) b.length = true := kB (by omega)
   simp only [F_40, itE, e, e1, c2, chk, cond_true]
   exact bif_not _ _ _]
  cases (List.range' 0 a.length).all (itE a b) <;> rfl
 ·rw [decide_eq_false c]; rfl
theorem intsEq_eq {a b : List Int} : F_2s a b = some (decide ((a.length : Int) = (b.length : Int)) && (List.range' 0 a.length).all (paE a b)) := by
 unfold F_2s
 by_cases c : (a.length : Int) = (b.length : Int)
 ·rw [decide_eq_true c, forL_all0 (p := paE a b) (r := false) a fun i hi => by
   have e1 : a.getD i default = a[i] := by simp [hi]
   have e : ((i : Int)).toNat = i := by simp
   have c2 : inb (i : Int) b.length = true := kB (by omega)
   simp only [F_41, paE, e, e1, c2, chk, cond_true]
   exact bif_not _ _ _]
  cases (List.range' 0 a.length).all (paE a b) <;> rfl
 ·rw [decide_eq_false c]; rfl
theorem same_eq {a b : GObject} (ha : Few a) (hb : Few b) : ∃ y, F_28 a b = some y ∧ F_q a b = some y := by
 obtain ⟨a1, a2, a3, a4⟩ := ha
 obtain ⟨b1, b2, b3, b4⟩ := hb
 have r1 := fun (h : (a.Items.length : Int) = (b.Items.length : Int)) => loop_all0 (step := F_1i a b) (p := itE a.Items b.Items) (r := false) (n := a.Items.length) (by unfold F_1i; rw [dlt]; rfl) fun i hi => by
  have e : ((i : Int)).toNat = i := by simp
  have c : decide ((i : Int) < (a.Items.length : Int)) = true := by simpa using hi
  have c2 : inb (i : Int) a.Items.length = true := kB hi
  have c4 : inb (i : Int) b.Items.length = true := kB (by omega)
  have c3 : in64 ((i : Int) + 1) = true := in64_iff.2 ⟨by omega, by omega⟩
  simp only [F_1i, itE, e, c, c2, c3, c4, chk, cond_true]
  exact bif_not _ _ _
 have r2 := fun (h : (a.Parents.length : Int) = (b.Parents.length : Int)) => loop_all0 (step := F_1j a b) (p := paE a.Parents b.Parents) (r := false) (n := a.Parents.length) (by unfold F_1j; rw [dlt]; rfl) fun i hi => by
  have e : ((i : Int)).toNat = i := by simp
  have c : decide ((i : Int) < (a.Parents.length : Int)) = true := by simpa using hi
  have c2 : inb (i : Int) a.Parents.length = true := kB hi
  have c4 : inb (i : Int) b.Parents.length = true := kB (by omega)
  have c3 : in64 ((i : Int) + 1) = true := in64_iff.2 ⟨by omega, by omega⟩
  simp only [F_1j, paE, e, c, c2, c3, c4, chk, cond_true]
  exact bif_not _ _ _
 unfold F_28 F_q F_9
 rw [itemsEq_eq, intsEq_eq]
 simp only [grp, jn, Option.bind_some]
 by_cases h1 : (a.Items.length : Int) = (b.Items.length : Int)
 ·by_cases h2 : (a.Parents.length : Int) = (b.Parents.length : Int)
  ·rw [r1 h1, r2 h2, decide_eq_true h1, decide_eq_true h2]
   cases decide (a.ID = b.ID) <;> cases decide (a.Kind = b.Kind) <;> cases decide (a.Data = b.Data) <;> cases decide (a.Tree = b.Tree) <;> cases decide (a.Author = b.Author) <;> cases decide (a.Time = b.Time) <;> cases (List.range' 0 a.Items.length).all (itE a.Items b.Items) <;> cases (List.range' 0 a.Parents.length).all (paE a.Parents b.Parents) <;> exact ⟨_, rfl, rfl⟩
  ·rw [decide_eq_true h1, decide_eq_false h2]
   cases decide (a.ID = b.ID) <;> cases decide (a.Kind = b.Kind) <;> cases decide (a.Data = b.Data) <;> cases decide (a.Tree = b.Tree) <;> cases decide (a.Author = b.Author) <;> cases decide (a.Time = b.Time) <;> cases (List.range' 0 a.Items.length).all (itE a.Items b.Items) <;> exact ⟨_, rfl, rfl⟩
 ·rw [decide_eq_false h1]
  cases decide (a.ID = b.ID) <;> cases decide (a.Kind = b.Kind) <;> cases decide (a.Data = b.Data) <;> cases decide (a.Tree = b.Tree) <;> cases decide (a.Author = b.Author) <;> cases decide (a.Time = b.Time) <;> exact ⟨_, rfl, rfl⟩
def sameB (a b : GObject) : Bool := decide (a.ID = b.ID) && decide (a.Kind = b.Kind) && decide (a.Data = b.Data) && decide (a.Tree = b.Tree) && decide (a.Author = b.Author) && decide (a.Time = b.Time) && (decide ((a.Items.length : Int) = (b.Items.length : Int)) && (List.range' 0 a.Items.length).all (itE a.Items b.Items)) && (decide ((a.Parents.length : Int) = (b.Parents.length : Int)) && (List.range' 0 a.Parents.length).all (paE a.Parents b.Parents))
theorem osame_eq (a b : GObject) : F_28 a b = some (sameB a b) := by
 unfold F_28 sameB F_9
 rw [itemsEq_eq, intsEq_eq]
 simp only [grp, jn, Option.bind_some]
 generalize (decide ((a.Items.length : Int) = (b.Items.length : Int)) && (List.range' 0 a.Items.length).all (itE a.Items b.Items)) = u
 generalize (decide ((a.Parents.length : Int) = (b.Parents.length : Int)) && (List.range' 0 a.Parents.length).all (paE a.Parents b.Parents)) = v
 cases decide (a.ID = b.ID) <;> cases decide (a.Kind = b.Kind) <;> cases decide (a.Data = b.Data) <;> cases decide (a.Tree = b.Tree) <;> cases decide (a.Author = b.Author) <;> cases decide (a.Time = b.Time) <;> cases u <;> cases v <;> rfl
theorem rsame_eq {a b : GObject} (ha : Few a) (hb : Few b) : F_q a b = some (sameB a b) := by
 obtain ⟨y, h1, h2⟩ := same_eq ha hb
 rw [osame_eq] at h1
 rw [h2, h1]
theorem rows_eq {α : Type} [Inhabited α] {a b : List α} (hl : (a.length : Int) = (b.length : Int)) (h : ∀ i, i < a.length → a.getD i default = b.getD i default) : a = b := by
 refine List.ext_getElem (by omega) fun i h1 h2 => ?_
 have := h i h1
 simpa [h1, h2] using this
theorem same_iff {a b : GObject} : sameB a b = true ↔ a = b := by
 unfold sameB
 simp only [Bool.and_eq_true, decide_eq_true_eq, List.all_eq_true, List.mem_range'_1]
 constructor
 ·rintro ⟨⟨⟨⟨⟨⟨⟨h1, h2⟩, h3⟩, h4⟩, h5⟩, h6⟩, h7, h8⟩, h9, h10⟩
  have hi : a.Items = b.Items := rows_eq h7 fun i hi => by
   have := h8 i ⟨by omega, by omega⟩
   unfold itE at this
   simp only [Bool.and_eq_true, decide_eq_true_eq] at this
   revert this
   generalize a.Items.getD i default = x
   generalize b.Items.getD i default = y
   rintro ⟨e1, e2⟩
   cases x; cases y; simp_all
  have hp : a.Parents = b.Parents := rows_eq h9 fun i hi => by
   have := h10 i ⟨by omega, by omega⟩
   unfold paE at this
   simpa using this
  cases a; cases b; simp_all
 ·rintro rfl
  simp [itE, paE]
end Go.Ab
namespace Go.Ab
def TO (t : GTape) : Prop := 0 ≤ t.at_ ∧ (t.L.length : Int) ≤ 9223372036854775807
def GV (o : GObject) : Prop := Few o ∧ ∀ id, idB id = true → vlB { o with ID := id } = 0
theorem sm64 {n : Int} (h1 : -1000000 ≤ n) (h2 : n ≤ 1000000) : in64 n = true := in64_iff.2 ⟨by omega, by omega⟩
theorem rm_sm {n b : Nat} (h : n * b ≤ 1000000) : room n b = true := room_iff.2 (by omega)
theorem nx_ok {t : GTape} {n : Int} (h : TO t) (hn : 0 < n) : Ok (F_0 t n) fun y => 0 ≤ y.1 ∧ y.1 < n ∧ TO y.2 := by
 unfold F_0
 refine Ok.ite (fun c => Ok.ret ⟨Int.le_refl 0, hn, h⟩) fun c => ?_
 have c' : t.at_ < t.L.length := by simpa using c
 have h1 := h.1; have h2 := h.2
 refine Ok.chk (inb_iff.2 ⟨h.1, c'⟩) (Ok.chk (in64_iff.2 ⟨by omega, by omega⟩) (Ok.chk (divs_iff.2 ⟨Int.emod_nonneg _ (by decide), hn⟩) (Ok.ret ⟨Int.emod_nonneg _ (by omega), Int.emod_lt_of_pos _ hn, ?_, h2⟩)))
 show 0 ≤ t.at_ + 1
 omega
theorem btw_ok {t : GTape} {a b : Int} (h : TO t) (h1 : -100000 ≤ a) (h2 : a ≤ b) (h3 : b ≤ 100000) : Ok (F_n t a b) fun y => a ≤ y.1 ∧ y.1 ≤ b ∧ TO y.2 := by
 unfold F_n
 refine Ok.chk (sm64 (by omega) (by omega)) (Ok.chk (sm64 (by omega) (by omega)) (Ok.bind (nx_ok h (by omega)) fun y hy => Ok.chk (sm64 (by omega) (by omega)) (Ok.ret ⟨?_, ?_, hy.2.2⟩)))
 ·show a ≤ a + y.1; omega
 ·show a + y.1 ≤ b; omega
theorem mbytes_ok {t : GTape} {n : Int} (h : TO t) (h0 : 0 ≤ n) (hn : n ≤ 100) : Ok (F_13 t n) fun y => (y.1.length : Int) ≤ n ∧ TO y.2 := by
 unfold F_13
 refine Ok.bind (Ok.loop (Q := fun y : List UInt8 × GTape => (y.1.length : Int) ≤ n ∧ TO y.2) (fun x => (x.2.1.length : Int) = x.1 ∧ x.1 ≤ n ∧ TO x.2.2) (fun x => (n - x.1).toNat) (fun x hx => ?_) _ ⟨rfl, h0, h⟩) fun r hr => Ok.ret hr
 obtain ⟨i, out, t⟩ := x
 obtain ⟨h1, h2, h3⟩ := hx
 simp only at h1 h2 h3
 unfold F_1w
 refine Ok.ite (fun c => ?_) fun c => Ok.ret ⟨by simp only; omega, h3⟩
 have c : i < n := of_decide_eq_true c
 have rm : ∀ b : UInt8, room (out.length + [b].length) 1 = true := fun b => rm_sm (by simp; omega)
 refine Ok.jn (P := fun j : List UInt8 × GTape => (j.1.length : Int) = i + 1 ∧ TO j.2) ?_ fun j hj => ?_
 ·refine Ok.bind (nx_ok h3 (by omega)) fun y hy => ?_
  have ln : ∀ b : UInt8, ((out ++ [b]).length : Int) = i + 1 := fun b => by simp; omega
  refine Ok.ite (fun _ => ?_) fun _ => Ok.ite (fun _ => ?_) fun _ => ?_
  ·exact Ok.bind (nx_ok hy.2.2 (by omega)) fun z hz => Ok.chk (inb_iff.2 ⟨hz.1, hz.2.1⟩) (Ok.chk (rm_sm (by simp; omega)) (Ok.ret ⟨ln _, hz.2.2⟩))
  ·exact Ok.bind (nx_ok hy.2.2 (by omega)) fun z hz => Ok.chk (rm_sm (by simp; omega)) (Ok.ret ⟨ln _, hz.2.2⟩)
  ·refine Ok.jn (P := fun _ => True) (Ok.ite (fun _ => Ok.ret trivial) fun _ => Ok.ret trivial) fun b _ => ?_
   refine Ok.ite (fun _ => ?_) fun _ => ?_
   ·exact Ok.bind (nx_ok hy.2.2 (by omega)) fun z hz => Ok.chk (sm64 (by omega) (by omega)) (Ok.chk (rm_sm (by simp; omega)) (Ok.ret ⟨ln _, hz.2.2⟩))
   ·exact Ok.bind (nx_ok hy.2.2 (by omega)) fun z hz => Ok.chk (inb_iff.2 ⟨hz.1, hz.2.1⟩) (Ok.chk (rm_sm (by simp; omega)) (Ok.ret ⟨ln _, hz.2.2⟩))
 ·refine Ok.chk (sm64 (by omega) (by omega)) (Ok.ret ?_)
  simp only [Fl.elim]
  exact ⟨⟨hj.1, by omega, hj.2⟩, by omega⟩
theorem add_ok {o : GObject} {n : Int} {r : GRepository} (h0 : 0 ≤ n) (hn : n ≤ 1000) (hr : r.Objects.length ≤ 1000) (ho : GV o) (hall : ∀ x ∈ r.Objects, GV x ∧ idB x.ID = true) :
  Ok (F_4 o n r) fun y => y.1 = n + 1 ∧ y.2.1 = n + 1 ∧ (y.2.2.Objects.length : Int) = r.Objects.length + 1 ∧ ∀ x ∈ y.2.2.Objects, GV x ∧ idB x.ID = true := by
 unfold F_4
 refine Ok.chk (sm64 (by omega) (by omega)) (Ok.chk (rm_sm (by simp; omega)) (Ok.ret ⟨rfl, rfl, by simp, fun x hx => ?_⟩))
 simp only [List.mem_append, List.mem_singleton] at hx
 rcases hx with hx | rfl
 ·exact hall x hx
 ·refine ⟨⟨ho.1, ho.2⟩, ?_⟩
  simp [idB]; omega
theorem events_ok {t : GTape} {cs : List Int} (h : TO t) (hc : 0 < cs.length) (hc2 : cs.length ≤ 1000) : Ok (F_14 t cs) fun y => TO y.2 := by
 unfold F_14
 refine Ok.bind (nx_ok h (by omega)) fun y hy => Ok.bind (nx_ok hy.2.2 (by omega)) fun z hz => ?_
 refine Ok.bind (Ok.loop (Q := fun y : List GRefEvent × GTape => TO y.2) (fun x => 0 ≤ x.1 ∧ x.1 + 3 * x.2.1 ≤ 30 ∧ 0 ≤ x.2.1 ∧ (x.2.2.2.1.length : Int) + x.2.1 ≤ 8 ∧ TO x.2.2.2.2) (fun x => x.2.1.toNat) (fun x hx => ?_) _ ⟨hy.1, ?_, hz.1, ?_, hz.2.2⟩) fun r hr => Ok.ret hr
 ·obtain ⟨a, k, m, out, t⟩ := x
  obtain ⟨h1, h2, h3, h4, h5⟩ := hx
  simp only at h1 h2 h3 h4 h5
  unfold F_1x
  refine Ok.ite (fun c => ?_) fun c => Ok.ret h5
  have c : 0 < k := of_decide_eq_true c
  refine Ok.jn (P := fun j : Int × List (Str × Bool) × List GRefEvent × GTape => 0 ≤ j.1 ∧ j.1 ≤ a + 3 ∧ (j.2.2.1.length : Int) = out.length + 1 ∧ TO j.2.2.2) ?_ fun j hj => ?_
  ·refine Ok.bind (nx_ok h5 (by omega)) fun y hy => Ok.chk (sm64 (by simp only; omega) (by simp only; omega)) (Ok.bind (nx_ok hy.2.2 (by omega)) fun z hz => Ok.chk (inb_iff.2 ⟨hz.1, hz.2.1⟩) ?_)
   refine Ok.jn (P := fun j : Bool × GTape => TO j.2) (Ok.ite (fun _ => Ok.bind (nx_ok hz.2.2 (by omega)) fun w hw => Ok.ret hw.2.2) fun _ => Ok.ret hz.2.2) fun j hj => ?_
   refine Ok.ite (fun _ => Ok.chk (rm_sm (by simp; omega)) (Ok.ret ⟨by simp only; omega, by simp only; omega, by simp, hj⟩)) fun _ => ?_
   exact Ok.bind (nx_ok hj (by omega)) fun w hw => Ok.chk (inb_iff.2 ⟨hw.1, hw.2.1⟩) (Ok.chk (rm_sm (by simp; omega)) (Ok.ret ⟨by simp only; omega, by simp only; omega, by simp, hw.2.2⟩))
  ·obtain ⟨j1, j2, j3, j4⟩ := hj
   refine Ok.chk (sm64 (by simp only; omega) (by simp only; omega)) (Ok.ret ?_)
   simp only [Fl.elim]
   exact ⟨⟨j1, by omega, by omega, by omega, j4⟩, by omega⟩
 ·simp only; omega
 ·simp only [List.length_nil]; omega
theorem vl_of {o : GObject} (h1 : Few o) (h3 : o.Items.length ≤ 64) (h4 : o.Parents.length ≤ 8) (hr : ryt o = true) : GV o := by
 refine ⟨h1, fun id hid => ?_⟩
 have hr' : ryt { o with ID := id } = true := hr
 unfold vlB
 rw [hr']
 have e : idB ({ o with ID := id } : GObject).ID = true := hid
 obtain ⟨f1, _, _, _⟩ := h1
 have c1 : decide (65536 < ((({ o with ID := id } : GObject).Data).length : Int)) = false := decide_eq_false (by show ¬ (65536 < (o.Data.length : Int)); omega)
 have c2 : decide (64 < ((({ o with ID := id } : GObject).Items).length : Int)) = false := decide_eq_false (by show ¬ (64 < (o.Items.length : Int)); omega)
 have c3 : decide (8 < ((({ o with ID := id } : GObject).Parents).length : Int)) = false := decide_eq_false (by show ¬ (8 < (o.Parents.length : Int)); omega)
 rw [e, c1, c2, c3]; rfl
theorem blob_ok {d : List UInt8} (h : d.length ≤ 100) : GV (GObject.mk 0 1 d [] 0 [] [] 0) :=
 vl_of ⟨by simp; omega, by simp, by simp, by simp⟩ (by simp) (by simp) rfl
theorem commit_ok {t m : Int} {ps : List Int} (ht : idB t = true) (h0 : 0 ≤ m) (hm : m ≤ 100) (hl : ps.length ≤ 8) (hp : ∀ x ∈ ps, idB x = true) (hn : ps.Nodup) : GV (GObject.mk 0 3 [] [] t ps [97,110,110] m) := by
 refine vl_of ⟨by simp, by simp, by simp; omega, by simp⟩ (by simp) (by simpa using hl) ?_
 have hc : coA (GObject.mk 0 3 [] [] t ps [97,110,110] m) = true := by
  unfold coA cmB
  have hnm : nmB [97,110,110] = true := by decide
  simp only [Bool.and_eq_true, decide_eq_true_eq, List.all_eq_true, List.mem_range'_1]
  refine ⟨fun i hi => ?_, ⟨ht, hnm⟩, h0, by omega⟩
  have hi' : i < ps.length := by omega
  unfold coB
  have e : ps.getD i default = ps[i] := by simp [hi']
  rw [e, Bool.and_eq_true]
  refine ⟨hp _ (List.getElem_mem hi'), ?_⟩
  simp only [List.all_eq_true, List.mem_range'_1]
  intro j hj
  have hj' : j < ps.length := by omega
  have e2 : ps.getD j default = ps[j] := by simp [hj']
  unfold duB
  rw [e, e2, Bool.not_eq_true', decide_eq_false_iff_not]
  intro he
  have := (List.getElem_inj hn).1 he
  omega
 unfold ryt
 rw [hc]; rfl
theorem names_ok {l : List Str} (h : l.Sublist [[97],[98],[100]]) : l = [] ∨ l = [[97]] ∨ l = [[98]] ∨ l = [[100]] ∨ l = [[97],[98]] ∨ l = [[97],[100]] ∨ l = [[98],[100]] ∨ l = [[97],[98],[100]] := by
 rw [List.sublist_cons_iff] at h
 rcases h with h | ⟨r, rfl, h⟩ <;> rw [List.sublist_cons_iff] at h <;> rcases h with h | ⟨r', rfl, h⟩ <;> rw [List.sublist_cons_iff] at h <;> rcases h with h | ⟨r'', rfl, h⟩ <;> rw [List.sublist_nil] at h <;> subst h <;> simp
end Go.Ab
namespace Go.Ab
theorem tree_ok {xs : List GItem} (hn : (xs.map (·.Name)).Sublist [[97],[98],[100]]) (hi : ∀ x ∈ xs, idB x.ID = true) : GV (GObject.mk 0 2 [] xs 0 [] [] 0) := by
 have hl : xs.length ≤ 3 := by have := hn.length_le; simpa using this
 refine vl_of ⟨by simp, by simp; omega, by simp, by simp⟩ (by simp; omega) (by simp) ?_
 have n1 : nmB [97] = true := by decide
 have n2 : nmB [98] = true := by decide
 have n3 : nmB [100] = true := by decide
 have l1 : Op.bytesLess [97] [98] = true := by decide
 have l2 : Op.bytesLess [97] [100] = true := by decide
 have l3 : Op.bytesLess [98] [100] = true := by decide
 have ht : trA (GObject.mk 0 2 [] xs 0 [] [] 0) = true := by
  have hc := names_ok hn
  unfold trA
  match xs, hi, hc with
  | [], _, _ => rfl
  | [x], hi, hc =>
   have h1 := hi x (by simp)
   simp only [List.map_cons, List.map_nil] at hc
   rcases hc with hc | hc | hc | hc | hc | hc | hc | hc <;> simp at hc <;> simp [List.range', trB, hc, n1, n2, n3, h1]
  | [x, y], hi, hc =>
   have h1 := hi x (by simp)
   have h2 := hi y (by simp)
   simp only [List.map_cons, List.map_nil] at hc
   rcases hc with hc | hc | hc | hc | hc | hc | hc | hc <;> simp at hc <;> simp [List.range', trB, hc.1, hc.2, n1, n2, n3, l1, l2, l3, h1, h2]
  | [x, y, z], hi, hc =>
   have h1 := hi x (by simp)
   have h2 := hi y (by simp)
   have h3 := hi z (by simp)
   simp only [List.map_cons, List.map_nil] at hc
   rcases hc with hc | hc | hc | hc | hc | hc | hc | hc <;> simp at hc <;> simp [List.range', trB, hc.1, hc.2.1, hc.2.2, n1, n2, n3, l1, l2, l3, h1, h2, h3]
  | _ :: _ :: _ :: _ :: _, hi, hc => simp at hc
 unfold ryt
 rw [ht]; rfl
end Go.Ab
namespace Go.Ab
theorem idB_app {l : List Int} {n : Int} (h : ∀ z ∈ l, idB z = true) (hn : idB n = true) : ∀ z ∈ l ++ [n], idB z = true := fun z hz => by
 rcases List.mem_append.1 hz with hz | hz
 ·exact h z hz
 ·simp at hz; subst hz; exact hn
theorem idB_getD {l : List Int} (h : ∀ z ∈ l, idB z = true) {i : Nat} (hi : i < l.length) : idB (l.getD i default) = true := by
 have e : l.getD i default = l[i] := by simp [hi]
 rw [e]; exact h _ (List.getElem_mem hi)
theorem repo_ok {t : GTape} (h : TO t) : Ok (F_15 t) fun y => 0 < y.1.Objects.length ∧ y.1.Objects.length ≤ 100 ∧ (∀ x ∈ y.1.Objects, GV x ∧ idB x.ID = true) ∧ TO y.2 := by
 unfold F_15
 refine Ok.bind (btw_ok h (by omega) (by omega) (by omega)) fun y hy => ?_
 refine Ok.bind (Ok.loop (Q := fun r : List GObject × List GRefEvent × Int × List Int × GTape => 0 ≤ r.2.2.1 ∧ r.2.2.1 ≤ 4 ∧ r.1.length ≤ 4 ∧ (∀ x ∈ r.1, GV x ∧ idB x.ID = true) ∧ 1 ≤ r.2.2.2.1.length ∧ r.2.2.2.1.length ≤ 4 ∧ (∀ z ∈ r.2.2.2.1, idB z = true) ∧ TO r.2.2.2.2)
  (fun x => 0 ≤ x.1 ∧ 0 ≤ x.2.2.2.1 ∧ x.2.2.2.1 + x.1 ≤ 4 ∧ (x.2.1.length : Int) + x.1 ≤ 4 ∧ (∀ z ∈ x.2.1, GV z ∧ idB z.ID = true) ∧ 1 ≤ (x.2.2.2.2.1.length : Int) + x.1 ∧ (x.2.2.2.2.1.length : Int) + x.1 ≤ 4 ∧ (∀ z ∈ x.2.2.2.2.1, idB z = true) ∧ TO x.2.2.2.2.2) (fun x => x.1.toNat) (fun x hx => ?_) _ ?_) fun r hr => ?_
 ·obtain ⟨k, os, es, n, bl, t⟩ := x
  obtain ⟨h1, h2, h3, h4, h5, h6, h7, hb, h8⟩ := hx
  simp only at h1 h2 h3 h4 h5 h6 h7 hb h8
  unfold F_1y
  refine Ok.ite (fun c => ?_) fun c => ?_
  ·have c : 0 < k := of_decide_eq_true c
   refine Ok.bind (nx_ok h8 (by omega)) fun y hy => Ok.bind (mbytes_ok hy.2.2 hy.1 (by omega)) fun z hz => ?_
   refine Ok.bind (add_ok h2 (by simp only; omega) (by simp only; omega) (blob_ok (by omega)) h5) fun w hw => ?_
   obtain ⟨w0, w1, w2, w3⟩ := hw
   simp only at w0 w1 w2
   refine Ok.chk (rm_sm (by simp; omega)) (Ok.chk (sm64 (by simp only; omega) (by simp only; omega)) (Ok.ret ?_))
   simp only [Fl.elim, List.length_append, List.length_cons, List.length_nil]
   exact ⟨⟨by omega, by omega, by omega, by omega, w3, by omega, by omega, idB_app hb (by rw [w0]; simp [idB]; omega), hz.2⟩, by omega⟩
  ·have c : ¬ 0 < k := of_decide_eq_false c
   refine Ok.ret ?_
   simp only [Fl.elim]
   exact ⟨h2, by omega, by omega, h5, by omega, by omega, hb, h8⟩
 ·exact ⟨by simp only; omega, by simp, by simp only; omega, by simp only [List.length_nil]; omega, by simp, by simp only [List.length_nil]; omega, by simp only [List.length_nil]; omega, by simp, hy.2.2⟩
 obtain ⟨os1, es1, n1, bl1, t1⟩ := r
 obtain ⟨r1, r2, r3, r4, r5, r6, rb, r7⟩ := hr
 simp only at r1 r2 r3 r4 r5 r6 rb r7
 refine Ok.bind (btw_ok r7 (by omega) (by omega) (by omega)) fun y hy => ?_
 refine Ok.bind (Ok.loop (Q := fun r : List GObject × List GRefEvent × Int × List Int × GTape => 0 ≤ r.2.2.1 ∧ r.2.2.1 ≤ 8 ∧ r.1.length ≤ 8 ∧ (∀ x ∈ r.1, GV x ∧ idB x.ID = true) ∧ 1 ≤ r.2.2.2.1.length ∧ r.2.2.2.1.length ≤ 4 ∧ (∀ z ∈ r.2.2.2.1, idB z = true) ∧ TO r.2.2.2.2)
  (fun x => 0 ≤ x.1 ∧ 0 ≤ x.2.2.2.1 ∧ x.2.2.2.1 + x.1 ≤ 8 ∧ (x.2.1.length : Int) + x.1 ≤ 8 ∧ (∀ z ∈ x.2.1, GV z ∧ idB z.ID = true) ∧ 1 ≤ (x.2.2.2.2.1.length : Int) + x.1 ∧ (x.2.2.2.2.1.length : Int) + x.1 ≤ 4 ∧ (∀ z ∈ x.2.2.2.2.1, idB z = true) ∧ TO x.2.2.2.2.2) (fun x => x.1.toNat) (fun x hx => ?_) _ ?_) fun r hr => ?_
 ·obtain ⟨k, os, es, n, bl, t⟩ := x
  obtain ⟨h1, h2, h3, h4, h5, h6, h7, hb, h8⟩ := hx
  simp only at h1 h2 h3 h4 h5 h6 h7 hb h8
  unfold F_1z
  refine Ok.ite (fun c => ?_) fun c => ?_
  ·have c : 0 < k := of_decide_eq_true c
   refine Ok.bind (Ok.foldI (all := [[97],[98],[100]]) (Q := fun s : List GItem × GTape => (s.1.map (·.Name)).Sublist [[97],[98],[100]] ∧ (∀ x ∈ s.1, idB x.ID = true) ∧ TO s.2) (fun pre s => (s.1.map (·.Name)).Sublist pre ∧ (∀ x ∈ s.1, idB x.ID = true) ∧ TO s.2) _ [] 0 _ rfl rfl ⟨by simp, by simp, h8⟩ (fun pre x r s hw hs => ?_) fun s hs => hs) fun z hz => ?_
   ·obtain ⟨s1, s2, s3⟩ := hs
    have hp : pre.length ≤ 2 := by
     have := congrArg List.length hw
     simp at this; omega
    have hsl : s.1.length ≤ 2 := by have := s1.length_le; simp at this; omega
    unfold F_1s
    have app : ∀ (g : GItem) (t : GTape), g.Name = x → idB g.ID = true → TO t → Ok (chk (room (s.1.length + [g].length) 24) (some (s.1 ++ [g], t))) fun s => (s.1.map (·.Name)).Sublist (pre ++ [x]) ∧ (∀ x ∈ s.1, idB x.ID = true) ∧ TO s.2 := fun g t hg hgi ht => by
     refine Ok.chk (rm_sm (by simp; omega)) (Ok.ret ⟨?_, fun z hz => ?_, ht⟩)
     ·rw [List.map_append]
      refine List.Sublist.append s1 ?_
      simp [hg]
     ·simp only [List.mem_append, List.mem_singleton] at hz
      rcases hz with hz | rfl
      ·exact s2 z hz
      ·exact hgi
    have skip : (s.1.map (·.Name)).Sublist (pre ++ [x]) := s1.trans (List.sublist_append_left _ _)
    refine Ok.bind (nx_ok s3 (by omega)) fun y hy => Ok.ite (fun _ => ?_) fun _ => Ok.ite (fun _ => Ok.ite (fun c2 => ?_) fun _ => ?_) fun _ => ?_
    ·exact Ok.bind (nx_ok hy.2.2 (by simp only; omega)) fun z hz => Ok.chk (inb_iff.2 ⟨hz.1, hz.2.1⟩) (app _ _ rfl (idB_getD rb (by have := hz.2.1; simp only at this; omega)) hz.2.2)
    ·exact Ok.bind (nx_ok hy.2.2 (of_decide_eq_true c2)) fun z hz => Ok.chk (inb_iff.2 ⟨hz.1, hz.2.1⟩) (app _ _ rfl (idB_getD hb (by have := hz.2.1; simp only at this; omega)) hz.2.2)
    ·exact Ok.ret ⟨skip, s2, hy.2.2⟩
    ·exact Ok.ret ⟨skip, s2, hy.2.2⟩
   ·obtain ⟨z1, z2, z3⟩ := hz
    refine Ok.bind (add_ok h2 (by simp only; omega) (by simp only; omega) (tree_ok z1 z2) h5) fun w hw => ?_
    obtain ⟨w0, w1, w2, w3⟩ := hw
    simp only at w0 w1 w2
    refine Ok.chk (rm_sm (by simp; omega)) (Ok.chk (sm64 (by simp only; omega) (by simp only; omega)) (Ok.ret ?_))
    simp only [Fl.elim, List.length_append, List.length_cons, List.length_nil]
    exact ⟨⟨by omega, by omega, by omega, by omega, w3, by omega, by omega, idB_app hb (by rw [w0]; simp [idB]; omega), z3⟩, by omega⟩
  ·have c : ¬ 0 < k := of_decide_eq_false c
   refine Ok.ret ?_
   simp only [Fl.elim]
   exact ⟨h2, by omega, by omega, h5, by omega, by omega, hb, h8⟩
 ·exact ⟨by simp only; omega, r1, by simp only; omega, by simp only; omega, r4, by simp only [List.length_nil]; omega, by simp only [List.length_nil]; omega, by simp, hy.2.2⟩
 obtain ⟨os2, es2, n2, bl2, t2⟩ := r
 obtain ⟨q1, q2, q3, q4, q5, q6, qb, q7⟩ := hr
 simp only at q1 q2 q3 q4 q5 q6 qb q7
 refine Ok.bind (btw_ok q7 (by omega) (by omega) (by omega)) fun y hy => ?_
 refine Ok.bind (Ok.loop (Q := fun r : List Int × List GObject × List GRefEvent × GTape => 1 ≤ r.2.1.length ∧ r.2.1.length ≤ 13 ∧ (∀ x ∈ r.2.1, GV x ∧ idB x.ID = true) ∧ 1 ≤ r.1.length ∧ r.1.length ≤ 5 ∧ TO r.2.2.2)
  (fun x => 0 ≤ x.1 ∧ 0 ≤ x.2.2.2.1 ∧ x.2.2.2.1 + x.1 ≤ 13 ∧ 1 ≤ (x.2.1.length : Int) + x.1 ∧ (x.2.1.length : Int) + x.1 ≤ 13 ∧ (∀ z ∈ x.2.1, GV z ∧ idB z.ID = true) ∧ 1 ≤ (x.2.2.2.2.1.length : Int) + x.1 ∧ (x.2.2.2.2.1.length : Int) + x.1 ≤ 5 ∧ ((∀ z ∈ x.2.2.2.2.1, idB z = true ∧ z ≤ x.2.2.2.1) ∧ x.2.2.2.2.1.Nodup) ∧ TO x.2.2.2.2.2) (fun x => x.1.toNat) (fun x hx => ?_) _ ?_) fun r hr => ?_
 ·obtain ⟨k, os, es, n, cm, t⟩ := x
  obtain ⟨h1, h2, h3, h4, h5, h6, h7, h8, ⟨hb, hnd⟩, h9⟩ := hx
  simp only at h1 h2 h3 h4 h5 h6 h7 h8 hb hnd h9
  unfold F_21
  refine Ok.ite (fun c => ?_) fun c => ?_
  ·have c : 0 < k := of_decide_eq_true c
   refine Ok.bind (nx_ok h9 (by simp only; omega)) fun y hy => Ok.chk (inb_iff.2 ⟨hy.1, hy.2.1⟩) (Ok.bind (nx_ok hy.2.2 (by omega)) fun z hz => Ok.chk (sm64 (by simp only; omega) (by simp only; omega)) ?_)
   refine Ok.bind (Ok.loop (Q := fun r : Int × Int × List Int × GTape => r.1 = bl2.getD y.1.toNat default ∧ r.2.1 = z.1 ∧ r.2.2.1.length ≤ 2 ∧ (∀ p ∈ r.2.2.1, p ∈ cm) ∧ r.2.2.1.Nodup ∧ TO r.2.2.2) (fun x : Int × Int × Int × List Int × GTape => -1 ≤ x.1 ∧ x.1 < cm.length ∧ x.2.1 = bl2.getD y.1.toNat default ∧ x.2.2.1 = z.1 ∧ x.2.2.2.1.length ≤ 2 ∧ (∀ p ∈ x.2.2.2.1, ∃ j : Nat, x.1 < j ∧ j < cm.length ∧ cm.getD j default = p) ∧ x.2.2.2.1.Nodup ∧ TO x.2.2.2.2) (fun x => (x.1 + 1).toNat) (fun x hx => ?_) _ ?_) fun w hw => ?_
   ·obtain ⟨i, a, b, ps, t⟩ := x
    obtain ⟨g1, g2, g5, g6, g3, g7, g8, g4⟩ := hx
    simp only at g1 g2 g5 g6 g3 g7 g8 g4
    unfold F_20
    have mem : ∀ p ∈ ps, p ∈ cm := fun p hp => by
     obtain ⟨j, _, hj, e⟩ := g7 p hp
     rw [← e]; simp [hj]
    refine Ok.grp (Ok.ite (fun c2 => ?_) fun c2 => Ok.ret ⟨g5, g6, g3, mem, g8, g4⟩)
    have c3 : 0 ≤ i ∧ (ps.length : Int) < 2 := by simpa using c2
    have down : ∀ p ∈ ps, ∃ j : Nat, i - 1 < j ∧ j < cm.length ∧ cm.getD j default = p := fun p hp => by
     obtain ⟨j, q1, q2, q3⟩ := g7 p hp
     exact ⟨j, by omega, q2, q3⟩
    refine Ok.jn (P := fun j : List Int × GTape => j.1.length ≤ 2 ∧ (∀ p ∈ j.1, ∃ q : Nat, i - 1 < q ∧ q < cm.length ∧ cm.getD q default = p) ∧ j.1.Nodup ∧ TO j.2) ?_ fun j hj => ?_
    ·refine Ok.bind (nx_ok g4 (by omega)) fun y hy => Ok.ite (fun _ => ?_) fun _ => Ok.ret ⟨g3, down, g8, hy.2.2⟩
     have hit : i.toNat < cm.length := by omega
     refine Ok.chk (inb_iff.2 ⟨c3.1, g2⟩) (Ok.chk (rm_sm (by simp; omega)) (Ok.ret ⟨by simp; omega, fun p hp => ?_, ?_, hy.2.2⟩))
     ·simp only [List.mem_append, List.mem_singleton] at hp
      rcases hp with hp | rfl
      ·exact down p hp
      ·exact ⟨i.toNat, by omega, hit, rfl⟩
     ·refine List.nodup_append.2 ⟨g8, by simp, fun p hp q hq => ?_⟩
      simp only [List.mem_singleton] at hq
      subst hq
      obtain ⟨j, q1, q2, q3⟩ := g7 p hp
      rw [← q3]
      have e1 : cm.getD j default = cm[j] := by simp [q2]
      have e2 : cm.getD i.toNat default = cm[i.toNat] := by simp [hit]
      intro e
      rw [e1, e2] at e
      have := (List.getElem_inj hnd).1 e
      omega
    ·refine Ok.chk (sm64 (by simp only; omega) (by simp only; omega)) (Ok.ret ?_)
     simp only [Fl.elim]
     exact ⟨⟨by omega, by omega, g5, g6, hj.1, hj.2.1, hj.2.2.1, hj.2.2.2⟩, by omega⟩
   ·exact ⟨by simp only; omega, by simp only; omega, rfl, rfl, by simp, by simp, by simp, hz.2.2⟩
   ·obtain ⟨w1, w2, w3, w4, w5, w6⟩ := hw
    have hyl : y.1.toNat < bl2.length := by have := hy.2.1; simp only at this; omega
    refine Ok.bind (add_ok h2 (by simp only; omega) (by simp only; omega) (commit_ok (by rw [w1]; exact idB_getD qb hyl) (by omega) (by omega) (by omega) (fun p hp => (hb p (w4 p hp)).1) w5) h6) fun v hv => ?_
    obtain ⟨v0, v1, v2, v3⟩ := hv
    simp only at v0 v1 v2
    refine Ok.chk (rm_sm (by simp; omega)) (Ok.chk (sm64 (by simp only; omega) (by simp only; omega)) (Ok.ret ?_))
    simp only [Fl.elim, List.length_append, List.length_cons, List.length_nil]
    refine ⟨⟨by omega, by omega, by omega, by omega, by omega, v3, by omega, by omega, ⟨fun q hq => ?_, ?_⟩, w6⟩, by omega⟩
    ·rcases List.mem_append.1 hq with hq | hq
     ·have := hb q hq; exact ⟨this.1, by omega⟩
     ·simp at hq; subst hq; exact ⟨by rw [v0]; simp [idB]; omega, by omega⟩
    ·refine List.nodup_append.2 ⟨hnd, by simp, fun p hp q hq => ?_⟩
     simp at hq; subst hq
     have := (hb p hp).2
     omega
  ·have c : ¬ 0 < k := of_decide_eq_false c
   refine Ok.ret ?_
   simp only [Fl.elim]
   exact ⟨by omega, by omega, h6, by omega, by omega, h9⟩
 ·exact ⟨by simp only; omega, q1, by simp only; omega, by simp only; omega, by simp only; omega, q4, by simp only [List.length_nil]; omega, by simp only [List.length_nil]; omega, by simp, hy.2.2⟩
 obtain ⟨p1, p2, p3, p4, p5, p6⟩ := hr
 exact Ok.bind (events_ok p6 (by omega) (by omega)) fun z hz => Ok.ret ⟨p1, by simp only; omega, p3, hz⟩
end Go.Ab
namespace Go.Ab
theorem hassuf_ok {s p : Str} (h : s.length ≤ 1000000) (hp : p.length ≤ 1000000) : Ok (F_r s p) fun b => b = true → p.length ≤ s.length := by
 unfold F_r
 refine Ok.jn (P := fun b => b = true → p.length ≤ s.length) (Ok.ite (fun hc => ?_) fun _ => Ok.ret fun h => by cases h) fun b hb => Ok.ret hb
 have hc := of_decide_eq_true hc
 exact Ok.chk (in64_iff.2 ⟨by omega, by omega⟩) (Ok.chk (inc_iff.2 ⟨by omega, by omega, by omega⟩) (Ok.ret fun _ => by omega))
theorem trims_ok {s p : Str} (h : s.length ≤ 1000000) (hp : p.length ≤ 1000000) : Ok (F_b s p) fun y => y.length ≤ s.length := by
 unfold F_b F_11
 refine Ok.bind (P := fun y => y.length ≤ s.length) (Ok.bind (hassuf_ok h hp) fun b hb => Ok.ite (fun hc => ?_) fun _ => Ok.ret (Nat.le_refl _)) fun y hy => Ok.ret hy
 have := hb hc
 exact Ok.chk (in64_iff.2 ⟨by omega, by omega⟩) (Ok.chk (inc_iff.2 ⟨by omega, by omega, by omega⟩) (Ok.ret (by rw [List.length_take]; omega)))
theorem cut_ok {s : Str} (h : s.length ≤ 1000000) : Ok (F_c s [32]) fun y => y.1.length ≤ s.length ∧ y.2.1.length ≤ s.length := by
 unfold F_c F_12
 have hb := indexByte_ge 32 s
 refine Ok.bind (P := fun y => y.1.length ≤ s.length ∧ y.2.1.length ≤ s.length) (Ok.bind (P := fun y => y = Lib.indexByte s 32) (Ok.of rfl rfl) fun i hi => Ok.ite (fun hc => ?_) fun _ => Ok.ret ⟨Nat.le_refl _, Nat.zero_le _⟩) fun y hy => Ok.ret hy
 subst hi
 have hc := of_decide_eq_true hc
 have e : ([32] : Str).length = 1 := rfl
 refine Ok.chk (inc_iff.2 ⟨by omega, by omega, by omega⟩) (Ok.chk (in64_iff.2 ⟨by rw [e]; omega, by rw [e]; omega⟩) (Ok.chk (inc_iff.2 ⟨by rw [e]; omega, by rw [e]; omega, by omega⟩) (Ok.ret ⟨?_, ?_⟩)))
 ·rw [List.length_take]; omega
 ·rw [List.length_drop]; omega
theorem atoi_ok {r : Str} (h : r.length ≤ 1000000) : Ok (atoiI r) fun _ => True := by
 unfold atoiI
 exact Ok.chk (by simp; omega) (Ok.ret trivial)
theorem lines_len : ∀ (s : Str), (linesL s).length ≤ s.length ∧ ∀ l ∈ linesL s, l.length ≤ s.length
 | [] => ⟨by simp [linesL], fun l hl => by simp [linesL] at hl⟩
 | c :: r => by
  obtain ⟨h1, h2⟩ := lines_len r
  simp only [linesL]
  cases c == 10 with
  | true =>
   simp only [cond_true, List.length_cons]
   refine ⟨by omega, fun l hl => ?_⟩
   rcases List.mem_cons.1 hl with rfl | hl
   ·simp
   ·have := h2 l hl; omega
  | false =>
   simp only [cond_false]
   cases hr : linesL r with
   | nil => exact ⟨by simp, fun l hl => by simp at hl; subst hl; simp⟩
   | cons x q =>
    rw [hr] at h1 h2
    simp only [List.length_cons] at h1 ⊢
    refine ⟨by omega, fun l hl => ?_⟩
    rcases List.mem_cons.1 hl with rfl | hl
    ·have := h2 x (by simp); simp; omega
    ·have := h2 l (by simp [hl]); omega
theorem readTree_ok {s : Str} (h : s.length ≤ 3000) : Ok (F_l s) fun o => o.Data.length ≤ 3000 := by
 unfold F_l
 obtain ⟨h1, h2⟩ := lines_len s
 refine Ok.bind (P := fun _ => True) (Ok.ret trivial) fun _ _ => ?_
 refine Ok.bind (P := fun _ => True) (Ok.forI (all := linesL s) (fun pre out => out.length = pre.length) (linesL s) [] 0 [] rfl rfl rfl (fun pre x r out hall hI => ?_) fun _ _ => trivial) fun y _ => ?_
 ·have hx := h2 x (by rw [hall]; simp)
  have hl : pre.length < (linesL s).length := by rw [hall]; simp
  unfold F_22
  refine Ok.bind (trims_ok (by omega) (by simp)) fun y hy => Ok.bind (cut_ok (by omega)) fun z hz => Ok.bind (atoi_ok (by omega)) fun n _ => Ok.chk (room_iff.2 ?_) (Ok.ret ?_)
  ·simp only [List.length_cons, List.length_nil]; omega
  ·simp [Fl.elim, hI]
 ·cases y with
  | nx x => exact Ok.ret (Nat.zero_le _)
  | ex e => cases e
theorem readCommit_ok {s : Str} (h : s.length ≤ 3000) : Ok (F_m s) fun o => o.Data.length ≤ 3000 := by
 unfold F_m
 obtain ⟨h1, h2⟩ := lines_len s
 refine Ok.bind (P := fun _ => True) (Ok.ret trivial) fun _ _ => ?_
 refine Ok.bind (P := fun _ => True) (Ok.forI (all := linesL s) (fun pre x => x.2.2.2.length ≤ pre.length) (linesL s) [] 0 (0,[],0,[]) rfl rfl (Nat.le_refl _) (fun pre x r st hall hI => ?_) fun _ _ => trivial) fun y _ => ?_
 ·have hx := h2 x (by rw [hall]; simp)
  have hl : pre.length < (linesL s).length := by rw [hall]; simp
  have hI' : st.2.2.2.length ≤ (pre ++ [x]).length := by rw [List.length_append]; omega
  unfold F_1v
  refine Ok.bind (trims_ok (by omega) (by simp)) fun y hy => Ok.bind (cut_ok (by omega)) fun z hz => Ok.bind (atoi_ok (by omega)) fun n _ => ?_
  refine Ok.ite (fun _ => Ok.ret hI') fun _ => Ok.ite (fun _ => Ok.chk (room_iff.2 ?_) (Ok.ret ?_)) fun _ => Ok.ite (fun _ => Ok.ret hI') fun _ => Ok.ite (fun _ => Ok.ret hI') fun _ => Ok.ret hI'
  ·simp only [List.length_cons, List.length_nil]; omega
  ·simp only [Fl.elim, List.length_append, List.length_cons, List.length_nil]; omega
 ·cases y with
  | nx x => exact Ok.ret (Nat.zero_le _)
  | ex e => cases e
theorem right_any {o : GObject} (h2 : o.Items.length ≤ 1000) (h3 : o.Parents.length ≤ 1000) : F_j o = some (ryt o) := by
 unfold F_j ryt
 rw [tree_eq (by omega), commit_eq (by omega), pos_ne]
 simp only [grp, jn, Option.bind_some, oth, trA, coA]
 by_cases k1 : o.Kind = 1
 ·have k2 : ¬ o.Kind = 2 := by omega
  have k3 : ¬ o.Kind = 3 := by omega
  rw [decide_eq_true k1, decide_eq_false k2, decide_eq_false k3]
  cases decide (o.Tree = 0) <;> cases decide ((o.Parents.length : Int) = 0) <;> cases decide (o.Author = []) <;> cases decide (o.Time = 0) <;> cases decide ((o.Items.length : Int) = 0) <;> rfl
 ·by_cases k2 : o.Kind = 2
  ·have k3 : ¬ o.Kind = 3 := by omega
   rw [decide_eq_false k1, decide_eq_true k2, decide_eq_false k3]
   generalize (List.range' 0 o.Items.length).all (trB o.Items) = b
   cases decide (o.Tree = 0) <;> cases decide ((o.Parents.length : Int) = 0) <;> cases decide (o.Author = []) <;> cases decide (o.Time = 0) <;> cases decide ((o.Data.length : Int) = 0) <;> cases b <;> rfl
  ·by_cases k3 : o.Kind = 3
   ·rw [decide_eq_false k1, decide_eq_false k2, decide_eq_true k3]
    generalize ((List.range' 0 o.Parents.length).all (coB o.Parents) && (idB o.Tree && nmB o.Author && cmB o)) = b
    cases decide ((o.Items.length : Int) = 0) <;> cases decide ((o.Data.length : Int) = 0) <;> cases b <;> rfl
   ·rw [decide_eq_false k1, decide_eq_false k2, decide_eq_false k3]; rfl
theorem lim_of_big {o : GObject} (h : ¬ (o.Items.length ≤ 64 ∧ o.Parents.length ≤ 8)) : (decide (65536 < (o.Data.length : Int)) || decide (64 < (o.Items.length : Int)) || decide (8 < (o.Parents.length : Int))) = true := by
 simp only [Bool.or_eq_true, decide_eq_true_eq]
 omega
theorem valid_any (o : GObject) : F_8 o = some (vlB o) := by
 unfold F_8 vlB
 rw [number_eq]
 simp only [grp, Option.bind_some]
 by_cases hl : o.Items.length ≤ 64 ∧ o.Parents.length ≤ 8
 ·rw [right_any (by omega) (by omega)]
  simp only [Option.bind_some]
  cases idB o.ID <;> cases decide (65536 < (o.Data.length : Int)) <;> cases decide (64 < (o.Items.length : Int)) <;> cases decide (8 < (o.Parents.length : Int)) <;> cases ryt o <;> rfl
 ·rw [lim_of_big hl]
  cases idB o.ID <;> rfl
theorem few_of {o : GObject} (h : vlB o = 0) (hd : o.Data.length ≤ 3000) : Few o := by
 have hl : ¬ ¬ (o.Items.length ≤ 64 ∧ o.Parents.length ≤ 8) := fun hl => by
  unfold vlB at h
  rw [lim_of_big hl] at h
  revert h
  cases idB o.ID <;> simp
 have hl := Classical.not_not.1 hl
 refine ⟨hd, by omega, by omega, ?_⟩
 rcases ryt_of (vl_id h).2 with ⟨_, _, ho⟩ | ⟨_, _, ho, _⟩ | ⟨_, _, _, hc⟩
 ·rw [(oth_of ho).2.2.1]; simp
 ·rw [(oth_of ho).2.2.1]; simp
 ·unfold coA at hc
  simp only [Bool.and_eq_true] at hc
  have := nmB_len hc.2.1.2
  omega
def z0 : GObject := GObject.mk 0 0 [] [] 0 [] [] 0
def PR (k : Int) (x : Str) (y : GObject × Int) : Prop := (idB k = false ∧ y = (z0,2)) ∨ (idB k = true ∧ y = (z0,10)) ∨ (idB k = true ∧ vlB y.1 = 0 ∧ y.1.ID = k ∧ y.2 = 0 ∧ Few y.1 ∧ txt y.1 = x)
theorem parse_ok {k : Int} {x : Str} (h : x.length ≤ 3000) : Ok (F_d k x) (PR k x) := by
 unfold F_d
 rw [number_eq]
 simp only [Option.bind_some]
 refine Ok.ite (fun hc => Ok.ret (.inl ⟨by simpa using hc, rfl⟩)) fun hc => ?_
 have hid : idB k = true := by simpa using hc
 have cutp : ∀ (s p : Str), s.length ≤ 3000 → Ok (F_3 s p) fun y => y.1.length ≤ 3000 := fun s p hs => by
  by_cases e : s.take p.length = p
  ·obtain ⟨r, rfl⟩ : ∃ r, s = p ++ r := ⟨s.drop p.length, by conv => lhs; rw [← List.take_append_drop p.length s, e]⟩
   exact Ok.of cutp_yes (by rw [List.length_append] at hs; show r.length ≤ 3000; omega)
  ·exact Ok.of (cutp_no e) hs
 refine Ok.jn (P := fun j => j.Data.length ≤ 3000) ?_ fun j hj => ?_
 ·refine Ok.bind (cutp _ _ h) fun y hy => Ok.ite (fun _ => Ok.ret hy) fun _ => Ok.bind (cutp _ _ h) fun y hy => Ok.ite (fun _ => Ok.bind (readTree_ok hy) fun o ho => Ok.ret ho) fun _ => Ok.bind (cutp _ _ h) fun y hy => Ok.ite (fun _ => Ok.bind (readCommit_ok hy) fun o ho => Ok.ret ho) fun _ => Ok.ret (Nat.zero_le _)
 ·rw [valid_any]
  simp only [Option.bind_some]
  refine Ok.ite (fun _ => Ok.ret (.inr (.inl ⟨hid, rfl⟩))) fun hv => ?_
  have hv : vlB (GObject.mk k j.Kind j.Data j.Items j.Tree j.Parents j.Author j.Time) = 0 := by simpa using hv
  have hf := few_of hv hj
  rw [(write_txt hf (vl_VO hv)).1]
  simp only [Option.bind_some, F_9]
  refine Ok.ite (fun _ => Ok.ret (.inr (.inl ⟨hid, rfl⟩))) fun he => Ok.ret (.inr (.inr ⟨hid, hv, rfl, rfl, hf, by simpa using he⟩))
end Go.Ab
namespace Go.Ab
def pairP : Str → Str × Str
 | [] => ([],[])
 | c :: r => bif c == 32 then ([], r) else (c :: (pairP r).1, (pairP r).2)
theorem pairP_len : ∀ s : Str, (pairP s).1.length ≤ s.length ∧ (pairP s).2.length ≤ s.length
 | [] => ⟨Nat.le_refl _, Nat.le_refl _⟩
 | c :: r => by
  obtain ⟨h1, h2⟩ := pairP_len r
  unfold pairP
  cases c == 32 with
  | true => simp
  | false => simp only [cond_false, List.length_cons]; omega
theorem pair_go {s : Str} (h : s.length ≤ 1000000) : ∀ (xs pre : Str), s = pre ++ xs →
  ∃ r, loop (F_o s) (pre.length : Int) = some r ∧ Sum.elim (fun _ => some (s, ([] : Str))) (fun u => some u) r = some (pre ++ (pairP xs).1, (pairP xs).2)
 | [], pre, e => by
  have hl : (pre.length : Int) = (s.length : Int) := by rw [e]; simp
  refine ⟨.inl (), ?_, ?_⟩
  ·rw [loop_eq]
   unfold F_o
   rw [hl, dlt]; rfl
  ·simp [pairP, e]
 | c :: r, pre, e => by
  have hi : pre.length < s.length := by rw [e]; simp
  have c1 : decide ((pre.length : Int) < (s.length : Int)) = true := by simpa using hi
  have c2 : inb (pre.length : Int) s.length = true := kB hi
  have c3 : in64 ((pre.length : Int) + 1) = true := in64_iff.2 ⟨by omega, by omega⟩
  have c4 : inc 0 (pre.length : Int) s.length = true := inc_iff.2 ⟨by omega, by omega, by omega⟩
  have c5 : inc ((pre.length : Int) + 1) (s.length : Int) s.length = true := inc_iff.2 ⟨by omega, by omega, by omega⟩
  have e1 : ((pre.length : Int)).toNat = pre.length := by simp
  have e2 : ((pre.length : Int) + 1).toNat = pre.length + 1 := by omega
  have e3 : s.getD pre.length 0 = c := by rw [e]; simp
  have e4 : s.take pre.length = pre := by rw [e]; simp
  have e5 : s.drop (pre.length + 1) = r := by rw [e]; simp
  unfold pairP
  by_cases hc : c = 32
  ·subst hc
   have key : F_o s (pre.length : Int) = some (.ex (.inr (pre, r))) := by
    unfold F_o
    rw [c1, c2, c3, c4, c5, e1, e2, e3, e4, e5]; rfl
   refine ⟨.inr (pre, r), ?_, ?_⟩
   ·rw [loop_eq, key]; rfl
   ·simp
  ·have hd : decide ((c.toNat : Int) = 32) = false := by
    apply decide_eq_false
    intro h
    apply hc
    apply UInt8.toNat_inj.1
    have : c.toNat = 32 := by omega
    rw [this]; rfl
   have hb : (c == 32) = false := by simpa using hc
   have key : F_o s (pre.length : Int) = some (.nx ((pre.length : Int) + 1)) := by
    unfold F_o
    rw [c1, c2, c3, e1, e3, hd]; rfl
   rw [hb]
   obtain ⟨q, h1, h2⟩ := pair_go h r (pre ++ [c]) (by rw [e]; simp)
   rw [List.length_append] at h1
   refine ⟨q, ?_, ?_⟩
   ·rw [loop_eq, key]; exact h1
   ·rw [h2]; simp
theorem pair_eq {s : Str} (h : s.length ≤ 1000000) : F_s s = some (pairP s) := by
 obtain ⟨r, h1, h2⟩ := pair_go h s [] rfl
 unfold F_s
 simp only [List.length_nil, Int.natCast_zero] at h1
 rw [h1]
 exact h2
def valGo : Int → Str → Int
 | n, [] => n
 | n, c :: r => bif decide ((c.toNat : Int) < 48) || decide (57 < (c.toNat : Int)) then -1 else valGo (n * 10 + ((c.toNat : Int) - 48)) r
def valP (s : Str) : Int := bif decide ((s.length : Int) = 0) || decide (18 < (s.length : Int)) then -1 else valGo 0 s
theorem pow_le {a b : Nat} (h : a ≤ b) : (10 : Int) ^ a ≤ 10 ^ b := by
 have := Nat.pow_le_pow_right (n := 10) (by omega) h
 exact_mod_cast this
theorem val_go {s : Str} (h : s.length ≤ 18) : ∀ (xs pre : Str) (n : Int), s = pre ++ xs → 0 ≤ n → n < 10 ^ pre.length →
  ∃ r, loop (F_f s) (n, (pre.length : Int)) = some r ∧ Sum.elim (fun u => some u) (fun u => some u) r = some (valGo n xs)
 | [], pre, n, e, h0, h1 => by
  have hl : (pre.length : Int) = (s.length : Int) := by rw [e]; simp
  refine ⟨.inl n, ?_, rfl⟩
  rw [loop_eq]
  unfold F_f
  simp only
  rw [hl, dlt]; rfl
 | c :: r, pre, n, e, h0, h1 => by
  have hi : pre.length < s.length := by rw [e]; simp
  have c1 : decide ((pre.length : Int) < (s.length : Int)) = true := by simpa using hi
  have c2 : inb (pre.length : Int) s.length = true := kB hi
  have c3 : in64 ((pre.length : Int) + 1) = true := in64_iff.2 ⟨by omega, by omega⟩
  have e1 : ((pre.length : Int)).toNat = pre.length := by simp
  have e3 : s.getD pre.length 0 = c := by rw [e]; simp
  have hp := pow_le (show pre.length + 1 ≤ 18 by omega)
  have hp2 : (10 : Int) ^ (pre.length + 1) = 10 ^ pre.length * 10 := Int.pow_succ ..
  have hcn := c.toNat_lt
  unfold valGo
  cases hd : decide ((c.toNat : Int) < 48) with
  | true =>
   have key : F_f s (n, (pre.length : Int)) = some (.ex (.inr (-1))) := by
    unfold F_f
    simp only
    rw [c1, c2, e1, e3, hd]; rfl
   refine ⟨.inr (-1), ?_, rfl⟩
   rw [loop_eq, key]; rfl
  | false =>
   cases hd2 : decide (57 < (c.toNat : Int)) with
   | true =>
    have key : F_f s (n, (pre.length : Int)) = some (.ex (.inr (-1))) := by
     unfold F_f
     simp only
     rw [c1, c2, e1, e3, hd, hd2]; rfl
    refine ⟨.inr (-1), ?_, rfl⟩
    rw [loop_eq, key]; rfl
   | false =>
    have hd' := of_decide_eq_false hd
    have hd2' := of_decide_eq_false hd2
    have eu : ((u8 ((c.toNat : Int) - 48)).toNat : Int) = (c.toNat : Int) - 48 := by rw [u8_toNat]; omega
    have c4 : in64 (n * 10) = true := in64_iff.2 ⟨by omega, by omega⟩
    have c5 : in64 (n * 10 + ((c.toNat : Int) - 48)) = true := in64_iff.2 ⟨by omega, by omega⟩
    have key : F_f s (n, (pre.length : Int)) = some (.nx (n * 10 + ((c.toNat : Int) - 48), (pre.length : Int) + 1)) := by
     unfold F_f
     simp only
     rw [c1, c2, c3, e1, e3, hd, hd2, eu, c4, c5]; rfl
    obtain ⟨q, h3, h4⟩ := val_go h r (pre ++ [c]) (n * 10 + ((c.toNat : Int) - 48)) (by rw [e]; simp) (by omega) (by rw [List.length_append]; simp only [List.length_cons, List.length_nil]; rw [hp2]; omega)
    rw [List.length_append] at h3
    refine ⟨q, ?_, h4⟩
    rw [loop_eq, key]; exact h3
theorem value_eq (s : Str) : F_h s = some (valP s) := by
 unfold F_h valP grp
 cases hc : decide ((s.length : Int) = 0) || decide (18 < (s.length : Int)) with
 | true => rfl
 | false =>
  simp only [Bool.or_eq_false_iff, decide_eq_false_iff_not] at hc
  obtain ⟨r, h1, h2⟩ := val_go (s := s) (by omega) s [] 0 rfl (by omega) (by simp)
  simp only [List.length_nil, Int.natCast_zero] at h1
  simp only [cond_false]
  rw [h1]
  exact h2
def segs : Str → Str → List Str
 | cur, [] => []
 | cur, c :: r => bif c == 10 then cur :: segs [] r else segs (cur ++ [c]) r
theorem lines_go {s : Str} (h : s.length ≤ 1000000) : ∀ (xs pre cur : Str) (out : List Str), s = (pre ++ cur) ++ xs → out.length ≤ 100 →
  loop (F_e s) ((pre.length : Int), ((pre ++ cur).length : Int), out) = some ((out ++ segs cur xs).take 100)
 | [], pre, cur, out, e, ho => by
  have hl : (((pre ++ cur).length : Nat) : Int) = (s.length : Int) := by rw [e]; simp
  rw [loop_eq]
  unfold F_e grp
  simp only
  rw [hl, dlt]
  simp only [Bool.false_and, cond_false, Option.bind_some, Fl.elim, segs, List.append_nil]
  rw [List.take_of_length_le ho]
 | c :: r, pre, cur, out, e, ho => by
  have hi : (pre ++ cur).length < s.length := by rw [e]; simp
  have c1 : decide (((pre ++ cur).length : Int) < (s.length : Int)) = true := decide_eq_true (by omega)
  have c2 : inb ((pre ++ cur).length : Int) s.length = true := kB hi
  have c3 : in64 (((pre ++ cur).length : Int) + 1) = true := in64_iff.2 ⟨by omega, by omega⟩
  have c4 : inc (pre.length : Int) ((pre ++ cur).length : Int) s.length = true := inc_iff.2 ⟨by omega, by rw [List.length_append]; omega, by omega⟩
  have e1 : (((pre ++ cur).length : Int)).toNat = (pre ++ cur).length := Int.toNat_natCast _
  have e2 : ((pre.length : Int)).toNat = pre.length := by simp
  have e3 : s.getD (pre ++ cur).length 0 = c := by rw [e]; simp
  have e4 : (s.take (pre ++ cur).length).drop pre.length = cur := by rw [e, List.take_left, List.drop_left]
  by_cases hf : out.length < 100
  ·have c5 : decide ((out.length : Int) < 100) = true := decide_eq_true (by omega)
   by_cases hc : c = 10
   ·subst hc
    have := lines_go h r (pre ++ cur ++ [10]) [] (out ++ [cur]) (by rw [e]; simp) (by rw [List.length_append]; simp; omega)
    have hr : room (out.length + [cur].length) 16 = true := room_iff.2 (by simp; omega)
    have key : F_e s ((pre.length : Int), ((pre ++ cur).length : Int), out) = some (.nx (((pre ++ cur).length : Int) + 1, ((pre ++ cur).length : Int) + 1, out ++ [cur])) := by
     unfold F_e grp
     simp only
     rw [c1, c5, c2, c3, c4, e1, e2, e3, e4, hr]
     rfl
    rw [loop_eq, key]
    have hl : (((pre ++ cur ++ [10]).length : Nat) : Int) = ((pre ++ cur).length : Int) + 1 := by simp; omega
    rw [List.append_nil, hl] at this
    refine Eq.trans this ?_
    simp [segs]
   ·have hd : decide ((c.toNat : Int) = 10) = false := by
     apply decide_eq_false
     intro h
     apply hc
     apply UInt8.toNat_inj.1
     have : c.toNat = 10 := by omega
     rw [this]; rfl
    have hb : (c == 10) = false := by simpa using hc
    have := lines_go h r pre (cur ++ [c]) out (by rw [e]; simp) ho
    have key : F_e s ((pre.length : Int), ((pre ++ cur).length : Int), out) = some (.nx ((pre.length : Int), ((pre ++ cur).length : Int) + 1, out)) := by
     unfold F_e grp
     simp only
     rw [c1, c5, c2, c3, e1, e3, hd]
     rfl
    rw [loop_eq, key]
    have hl : (((pre ++ (cur ++ [c])).length : Nat) : Int) = ((pre ++ cur).length : Int) + 1 := by simp; omega
    rw [hl] at this
    refine Eq.trans this ?_
    simp only [segs, hb, cond_false]
  ·have c5 : decide ((out.length : Int) < 100) = false := decide_eq_false (by omega)
   have key : F_e s ((pre.length : Int), ((pre ++ cur).length : Int), out) = some (.ex out) := by
    unfold F_e grp
    simp only
    rw [c1, c5]; rfl
   rw [loop_eq, key]
   simp only [Option.bind_some, Fl.elim]
   rw [List.take_append_of_le_length (by omega), List.take_of_length_le ho]
theorem lines_eq {s : Str} (h : s.length ≤ 1000000) : F_16 s = some ((segs [] s).take 100) := by
 unfold F_16
 have := lines_go h s [] [] [] rfl (by simp)
 simp only [List.append_nil, List.length_nil, Int.natCast_zero, List.nil_append] at this
 rw [this]; rfl
theorem segs_len : ∀ (s cur : Str), ∀ l ∈ segs cur s, l.length ≤ cur.length + s.length
 | [], cur, l, h => by cases h
 | c :: r, cur, l, h => by
  unfold segs at h
  cases hc : c == 10 with
  | true =>
   rw [hc] at h
   rcases List.mem_cons.1 h with rfl | h
   ·simp
   ·have := segs_len r [] l h; simp at this ⊢; omega
  | false =>
   rw [hc] at h
   have := segs_len r (cur ++ [c]) l h
   simp at this ⊢; omega
def itP (l : Str) : GItem := GItem.mk (pairP l).2 (valP (pairP l).1)
theorem items_go {all : List Str} {id : Int} (h : ∀ l ∈ all, l.length ≤ 1000000) (hn : all.length ≤ 1000) : ∀ (xs pre : List Str) (out : List GItem), all = pre ++ xs → out.length ≤ pre.length →
  loop (F_17 all) ((pre.length : Int), id, out) = some (id, out ++ xs.map itP)
 | [], pre, out, e, ho => by
  have hl : (pre.length : Int) = (all.length : Int) := by rw [e]; simp
  rw [loop_eq]
  unfold F_17
  simp only
  rw [hl, dlt]; simp [Fl.elim]
 | l :: r, pre, out, e, ho => by
  have hi : pre.length < all.length := by rw [e]; simp
  have c1 : decide ((pre.length : Int) < (all.length : Int)) = true := by simpa using hi
  have c2 : inb (pre.length : Int) all.length = true := kB hi
  have c3 : in64 ((pre.length : Int) + 1) = true := in64_iff.2 ⟨by omega, by omega⟩
  have e1 : ((pre.length : Int)).toNat = pre.length := by simp
  have e3 : all.getD pre.length default = l := by rw [e]; simp
  have hr : room (out.length + [itP l].length) 24 = true := room_iff.2 (by simp; omega)
  have key : F_17 all ((pre.length : Int), id, out) = some (.nx ((pre.length : Int) + 1, id, out ++ [itP l])) := by
   unfold F_17
   simp only
   rw [c1, c2, c3, e1, e3, pair_eq (h l (by rw [e]; simp))]
   simp only [cond_true, chk, Option.bind_some, value_eq]
   rw [show GItem.mk (pairP l).2 (valP (pairP l).1) = itP l from rfl, hr]
   rfl
  have := items_go (id := id) h hn r (pre ++ [l]) (out ++ [itP l]) (by rw [e]; simp) (by simp; omega)
  rw [loop_eq, key]
  rw [List.length_append] at this
  refine Eq.trans this ?_
  simp
def cmF (x : Int × Str × Int × List Int) (l : Str) : Int × Str × Int × List Int :=
 bif decide ((pairP l).1 = [116,114,101,101]) then (valP (pairP l).2, x.2.1, x.2.2.1, x.2.2.2) else bif decide ((pairP l).1 = [112,97,114,101,110,116]) then (x.1, x.2.1, x.2.2.1, x.2.2.2 ++ [valP (pairP l).2]) else
  bif decide ((pairP l).1 = [97,117,116,104,111,114]) then (x.1, (pairP l).2, x.2.2.1, x.2.2.2) else bif decide ((pairP l).1 = [116,105,109,101]) then (x.1, x.2.1, valP (pairP l).2, x.2.2.2) else x
theorem cm_go {all : List Str} {id : Int} (h : ∀ l ∈ all, l.length ≤ 1000000) (hn : all.length ≤ 1000) : ∀ (xs pre : List Str) (x : Int × Str × Int × List Int), all = pre ++ xs → x.2.2.2.length ≤ pre.length →
  loop (F_18 all) ((pre.length : Int), id, x) = some (id, xs.foldl cmF x)
 | [], pre, x, e, ho => by
  have hl : (pre.length : Int) = (all.length : Int) := by rw [e]; simp
  rw [loop_eq]
  unfold F_18
  simp only
  rw [hl, dlt]; simp [Fl.elim]
 | l :: r, pre, x, e, ho => by
  have hi : pre.length < all.length := by rw [e]; simp
  have c1 : decide ((pre.length : Int) < (all.length : Int)) = true := by simpa using hi
  have c2 : inb (pre.length : Int) all.length = true := kB hi
  have c3 : in64 ((pre.length : Int) + 1) = true := in64_iff.2 ⟨by omega, by omega⟩
  have e1 : ((pre.length : Int)).toNat = pre.length := by simp
  have e3 : all.getD pre.length default = l := by rw [e]; simp
  have hr : room (x.2.2.2.length + [valP (pairP l).2].length) 8 = true := room_iff.2 (by simp; omega)
  have key : F_18 all ((pre.length : Int), id, x) = some (.nx ((pre.length : Int) + 1, id, cmF x l)) := by
   unfold F_18
   simp only
   rw [c1, c2, c3, e1, e3, pair_eq (h l (by rw [e]; simp))]
   simp only [cond_true, chk, Option.bind_some, value_eq, hr, jn, cmF]
   cases decide ((pairP l).1 = [116,114,101,101]) <;> cases decide ((pairP l).1 = [112,97,114,101,110,116]) <;> cases decide ((pairP l).1 = [97,117,116,104,111,114]) <;> cases decide ((pairP l).1 = [116,105,109,101]) <;> rfl
  have hx : (cmF x l).2.2.2.length ≤ (pre ++ [l]).length := by
   rw [List.length_append]
   unfold cmF
   cases decide ((pairP l).1 = [116,114,101,101]) <;> cases decide ((pairP l).1 = [112,97,114,101,110,116]) <;> cases decide ((pairP l).1 = [97,117,116,104,111,114]) <;> cases decide ((pairP l).1 = [116,105,109,101]) <;> (try simp) <;> omega
  have := cm_go (id := id) h hn r (pre ++ [l]) (cmF x l) (by rw [e]; simp) hx
  rw [loop_eq, key]
  rw [List.length_append] at this
  simpa [Fl.elim] using this
def guessP (id : Int) (s : Str) : GObject :=
 bif decide (s.take 5 = [98,108,111,98,10]) then GObject.mk id 1 (s.drop 5) [] 0 [] [] 0 else
  match (segs [] s).take 100 with
  | [] => GObject.mk id 0 [] [] 0 [] [] 0
  | w :: r => bif decide (w = [116,114,101,101]) then GObject.mk id 2 [] (r.map itP) 0 [] [] 0 else
   GObject.mk id 3 [] [] (r.foldl cmF (0,[],0,[])).1 (r.foldl cmF (0,[],0,[])).2.2.2 (r.foldl cmF (0,[],0,[])).2.1 (r.foldl cmF (0,[],0,[])).2.2.1
theorem guess_eq {id : Int} {s : Str} (h : s.length ≤ 1000000) : F_19 id s = some (guessP id s) := by
 unfold F_19 guessP
 have hb : (bif decide (5 ≤ (s.length : Int)) then chk (inc 0 5 s.length) (some (decide ((s.take 5) = [98,108,111,98,10]))) else some false) = some (decide ((s.take 5) = [98,108,111,98,10])) := by
  cases hc : decide (5 ≤ (s.length : Int)) with
  | true =>
   have hc := of_decide_eq_true hc
   simp only [cond_true, chk]
   rw [inc_iff.2 ⟨by omega, by omega, hc⟩]; rfl
  | false =>
   have hc := of_decide_eq_false hc
   simp only [cond_false]
   congr 1
   symm
   apply decide_eq_false
   intro e
   have := congrArg List.length e
   rw [List.length_take] at this
   simp at this
   omega
 rw [hb]
 simp only [jn, Option.bind_some]
 cases hk : decide ((s.take 5) = [98,108,111,98,10]) with
 | true =>
  have hk := congrArg List.length (of_decide_eq_true hk)
  rw [List.length_take] at hk
  simp at hk
  simp only [cond_true, chk]
  rw [inc_iff.2 ⟨by omega, by omega, by omega⟩]; rfl
 | false =>
  simp only [cond_false]
  rw [lines_eq h]
  simp only [Option.bind_some]
  have hl : ∀ l ∈ (segs [] s).take 100, l.length ≤ 1000000 := fun l hl => by
   have := segs_len s [] l (List.mem_of_mem_take hl)
   simp at this; omega
  have hn : ((segs [] s).take 100).length ≤ 100 := by rw [List.length_take]; omega
  generalize (segs [] s).take 100 = all at hl hn ⊢
  cases all with
  | nil => rfl
  | cons w r =>
   have c1 : decide ((((w :: r).length : Nat) : Int) = 0) = false := decide_eq_false (by simp only [List.length_cons]; omega)
   have c2 : inb 0 (w :: r).length = true := inb_iff.2 ⟨by omega, by simp only [List.length_cons]; omega⟩
   have h1 := items_go (id := id) hl (by omega) r [w] [] rfl (by simp)
   have h2 := cm_go (id := id) hl (by omega) r [w] (0,[],0,[]) rfl (by simp)
   simp only [List.length_cons, List.length_nil] at h1 h2
   rw [c1, c2]
   simp only [cond_false, chk, cond_true, List.getD_cons_zero]
   cases decide (w = [116,114,101,101]) with
   | true =>
    simp only [cond_true]
    erw [h1]; simp
   | false =>
    simp only [cond_false]
    erw [h2]; simp
end Go.Ab
namespace Go.Ab
theorem segs_app : ∀ (l r cur : Str), (∀ c ∈ l, c ≠ 10) → segs cur (l ++ 10 :: r) = (cur ++ l) :: segs [] r
 | [], r, cur, _ => by simp [segs]
 | c :: l, r, cur, h => by
  have hc : (c == 10) = false := by simpa using h c (by simp)
  have ih := segs_app l r (cur ++ [c]) fun c hc => h c (by simp [hc])
  simp only [List.cons_append, segs, hc, cond_false]
  rw [ih]; simp
theorem pairP_app : ∀ (l r : Str), (∀ c ∈ l, c ≠ 32) → pairP (l ++ 32 :: r) = (l, r)
 | [], r, _ => by simp [pairP]
 | c :: l, r, h => by
  have hc : (c == 32) = false := by simpa using h c (by simp)
  have ih := pairP_app l r fun c hc => h c (by simp [hc])
  simp only [List.cons_append, pairP, hc, cond_false, ih]
theorem val_dig (u : Nat) (l : Str) : valGo 0 (Lib.decDigits u ++ l) = valGo u l := by
 induction u using Nat.strongRecOn generalizing l with
 | _ u ih =>
  rw [Lib.decDigits]
  split
  ·rename_i hu
   have e : (UInt8.ofNat (48 + u)).toNat = 48 + u := by simp; omega
   simp only [List.cons_append, List.nil_append, valGo, e]
   rw [decide_eq_false (by omega), decide_eq_false (by omega)]
   simp only [Bool.or_self, cond_false]
   congr 1; omega
  ·rename_i hu
   rw [List.append_assoc, ih (u / 10) (by omega)]
   have e : (UInt8.ofNat (48 + u % 10)).toNat = 48 + u % 10 := by simp; omega
   simp only [List.cons_append, List.nil_append, valGo, e]
   rw [decide_eq_false (by omega), decide_eq_false (by omega)]
   simp only [Bool.or_self, cond_false]
   congr 1; omega
theorem dig_len : ∀ (k u : Nat), u < 10 ^ (k + 1) → (Lib.decDigits u).length ≤ k + 1
 | 0, u, h => by rw [Lib.decDigits, dif_pos (by simpa using h)]; simp
 | k + 1, u, h => by
  rw [Lib.decDigits]
  split
  ·simp
  ·rename_i hu
   have := dig_len k (u / 10) (by rw [Nat.pow_succ] at h; omega)
   rw [List.length_append]; simp; omega
theorem valP_itoa {n : Int} (h0 : 0 ≤ n) (h : n ≤ 1099511627776) : valP (Lib.itoa n) = n := by
 obtain ⟨u, rfl⟩ : ∃ u : Nat, n = u := ⟨n.toNat, by omega⟩
 rw [itoa_nat]
 have hl := dig_len 17 u (by omega)
 have hne : 0 < (Lib.decDigits u).length := by rw [Lib.decDigits]; split <;> simp
 have hd := val_dig u []
 rw [List.append_nil] at hd
 unfold valP
 rw [decide_eq_false (by omega), decide_eq_false (by omega)]
 simpa [valGo] using hd
def itL (x : GItem) : Str := Lib.itoa x.ID ++ 32 :: x.Name
def paL (n : Int) : Str := [112,97,114,101,110,116] ++ 32 :: Lib.itoa n
theorem itL_ne {x : GItem} (h : iOK x) : ∀ c ∈ itL x, c ≠ 10 := fun c hc => by
 rcases List.mem_append.1 hc with hc | hc
 ·exact (dig_ne h.2.2.1 c hc).1
 ·rcases List.mem_cons.1 hc with rfl | hc
  ·decide
  ·exact (h.1 c hc).1
theorem segs_items : ∀ (xs : List GItem), (∀ x ∈ xs, iOK x) → segs [] (xs.flatMap itB) = xs.map itL
 | [], _ => rfl
 | x :: r, h => by
  have hx := h x (by simp)
  rw [List.flatMap_cons, List.map_cons]
  have e : itB x ++ r.flatMap itB = itL x ++ 10 :: r.flatMap itB := by simp [itB, itL]
  rw [e, segs_app _ _ _ (itL_ne hx), segs_items r fun y hy => h y (by simp [hy])]
  rfl
theorem itP_it {x : GItem} (h : iOK x) : itP (itL x) = x := by
 unfold itP itL
 rw [pairP_app _ _ fun c hc => (dig_ne h.2.2.1 c hc).2]
 simp only
 rw [valP_itoa h.2.2.1 (by have := h.2.2.2; omega)]
theorem paL_ne {n : Int} (h : 0 ≤ n) : ∀ c ∈ paL n, c ≠ 10 := fun c hc => by
 rcases List.mem_append.1 hc with hc | hc
 ·exact (show ∀ c ∈ ([112,97,114,101,110,116] : Str), c ≠ 10 by decide) c hc
 ·rcases List.mem_cons.1 hc with rfl | hc
  ·decide
  ·exact (dig_ne h c hc).1
theorem segs_pars (t : Str) : ∀ (xs : List Int), (∀ x ∈ xs, 0 ≤ x ∧ x ≤ 1073741824) → segs [] (xs.flatMap paB ++ t) = xs.map paL ++ segs [] t
 | [], _ => rfl
 | x :: r, h => by
  rw [List.flatMap_cons, List.map_cons]
  have e : (paB x ++ r.flatMap paB) ++ t = paL x ++ 10 :: (r.flatMap paB ++ t) := by simp [paB, paL]
  rw [e, segs_app _ _ _ (paL_ne (h x (by simp)).1), segs_pars t r fun y hy => h y (by simp [hy])]
  rfl
theorem cmF_pars : ∀ (xs : List Int) (t : Int) (a : Str) (m : Int) (ps : List Int), (∀ x ∈ xs, 0 ≤ x ∧ x ≤ 1073741824) → (xs.map paL).foldl cmF (t, a, m, ps) = (t, a, m, ps ++ xs)
 | [], t, a, m, ps, _ => by simp
 | x :: r, t, a, m, ps, h => by
  obtain ⟨h1, h2⟩ := h x (by simp)
  have e : cmF (t, a, m, ps) (paL x) = (t, a, m, ps ++ [x]) := by
   unfold cmF paL
   rw [pairP_app _ _ (by decide)]
   simp only
   rw [valP_itoa h1 (by omega)]
   rfl
  rw [List.map_cons, List.foldl_cons, e, cmF_pars r t a m _ fun y hy => h y (by simp [hy])]
  simp
theorem guess_back {o : GObject} (hf : Few o) (hv : vlB o = 0) : guessP o.ID (txt o) = o := by
 obtain ⟨hid, hr⟩ := vl_id hv
 unfold guessP
 rcases ryt_of hr with ⟨k, i0, ho⟩ | ⟨k, d0, ho, ht⟩ | ⟨k, d0, i0, hc⟩
 ·obtain ⟨t0, p0, a0, m0⟩ := oth_of ho
  have et : txt o = [98,108,111,98,10] ++ o.Data := by unfold txt; rw [decide_eq_true k]; rfl
  rw [et]
  simp only [List.take_append_of_le_length (show 5 ≤ ([98,108,111,98,10] : Str).length by decide), show ([98,108,111,98,10] : Str).take 5 = [98,108,111,98,10] from rfl, decide_true, cond_true]
  cases o; simp_all
 ·obtain ⟨t0, p0, a0, m0⟩ := oth_of ho
  have et : txt o = [116,114,101,101] ++ 10 :: o.Items.flatMap itB := by unfold txt; rw [decide_eq_false (by omega), decide_eq_true k]; rfl
  have c : decide ((txt o).take 5 = [98,108,111,98,10]) = false := by rw [et]; exact decide_eq_false (by simp)
  rw [c, et, segs_app _ _ _ (by decide), segs_items _ (trA_ok ht)]
  have hl : (o.Items.map itL).length + 1 ≤ 100 := by have := hf.2.1; simp; omega
  simp only [cond_false, List.nil_append]
  rw [List.take_of_length_le (by simpa using hl)]
  simp only [decide_true, cond_true, List.map_map]
  have : o.Items.map (itP ∘ itL) = o.Items := by
   conv => rhs; rw [← List.map_id o.Items]
   exact List.map_congr_left fun x hx => itP_it (trA_ok ht x hx)
  rw [this]
  cases o; simp_all
 ·unfold coA cmB at hc
  simp only [Bool.and_eq_true, decide_eq_true_eq] at hc
  obtain ⟨hp, ⟨ht, ha⟩, m1, m2⟩ := hc
  obtain ⟨t1, t2⟩ := idB_iff ht
  have hps : ∀ x ∈ o.Parents, 0 ≤ x ∧ x ≤ 1073741824 := fun x hx => by
   obtain ⟨i, e, hq⟩ := getD_all hp hx
   unfold coB at hq
   rw [e, Bool.and_eq_true] at hq
   exact idB_iff hq.1
  have et : txt o = [99,111,109,109,105,116] ++ 10 :: (([116,114,101,101] ++ 32 :: Lib.itoa o.Tree) ++ 10 :: (o.Parents.flatMap paB ++ (([97,117,116,104,111,114] ++ 32 :: o.Author) ++ 10 :: (([116,105,109,101] ++ 32 :: Lib.itoa o.Time) ++ 10 :: [])))) := by
   unfold txt; rw [decide_eq_false (by omega), decide_eq_false (by omega)]; simp
  have k1 : ∀ c ∈ ([116,114,101,101] ++ 32 :: Lib.itoa o.Tree : Str), c ≠ 10 := fun c hc => by
   rcases List.mem_append.1 hc with hc | hc
   ·exact (show ∀ c ∈ ([116,114,101,101] : Str), c ≠ 10 by decide) c hc
   ·rcases List.mem_cons.1 hc with rfl | hc
    ·decide
    ·exact (dig_ne t1 c hc).1
  have k2 : ∀ c ∈ ([97,117,116,104,111,114] ++ 32 :: o.Author : Str), c ≠ 10 := fun c hc => by
   rcases List.mem_append.1 hc with hc | hc
   ·exact (show ∀ c ∈ ([97,117,116,104,111,114] : Str), c ≠ 10 by decide) c hc
   ·rcases List.mem_cons.1 hc with rfl | hc
    ·decide
    ·exact (nm_ne ha c hc).1
  have k3 : ∀ c ∈ ([116,105,109,101] ++ 32 :: Lib.itoa o.Time : Str), c ≠ 10 := fun c hc => by
   rcases List.mem_append.1 hc with hc | hc
   ·exact (show ∀ c ∈ ([116,105,109,101] : Str), c ≠ 10 by decide) c hc
   ·rcases List.mem_cons.1 hc with rfl | hc
    ·decide
    ·exact (dig_ne m1 c hc).1
  have c : decide ((txt o).take 5 = [98,108,111,98,10]) = false := by rw [et]; exact decide_eq_false (by simp)
  rw [c, et, segs_app _ _ _ (by decide), segs_app _ _ _ k1, segs_pars _ _ hps, segs_app _ _ _ k2, segs_app _ _ _ k3]
  simp only [cond_false, List.nil_append, segs]
  have hl := hf.2.2.1
  rw [List.take_of_length_le (by simp; omega)]
  have f1 : ∀ x : Int × Str × Int × List Int, cmF x ([116,114,101,101] ++ 32 :: Lib.itoa o.Tree) = (o.Tree, x.2.1, x.2.2.1, x.2.2.2) := fun x => by
   unfold cmF
   rw [pairP_app _ _ (by decide)]
   simp only
   rw [valP_itoa t1 (by omega)]
   rfl
  have f2 : ∀ x : Int × Str × Int × List Int, cmF x ([97,117,116,104,111,114] ++ 32 :: o.Author) = (x.1, o.Author, x.2.2.1, x.2.2.2) := fun x => by
   unfold cmF
   rw [pairP_app _ _ (by decide)]
   rfl
  have f3 : ∀ x : Int × Str × Int × List Int, cmF x ([116,105,109,101] ++ 32 :: Lib.itoa o.Time) = (x.1, x.2.1, o.Time, x.2.2.2) := fun x => by
   unfold cmF
   rw [pairP_app _ _ (by decide)]
   simp only
   rw [valP_itoa m1 m2]
   rfl
  simp only [show decide (([99,111,109,109,105,116] : Str) = [116,114,101,101]) = false by decide, cond_false, List.foldl_cons, List.foldl_append, f1, f2, f3, List.foldl_nil, cmF_pars _ _ _ _ _ hps, List.nil_append]
  cases o; simp_all
theorem rvalid_any {o : GObject} (hn : Lng o) (ha : (o.Author.length : Int) ≤ 9223372036854775807) (hd : o.Data.length ≤ 3000) : F_p o = some (vlB o) := by
 by_cases hl : o.Items.length ≤ 64 ∧ o.Parents.length ≤ 8
 ·unfold F_p vlB
  rw [rid_eq, rtree_eq (by omega) hn, rcommit_eq (by omega) ha]
  simp only [grp, jn, Option.bind_some, F_1e]
  unfold ryt
  have key : ∀ b : Bool, o.Kind = 1 → decide (o.Kind = 2) = false ∧ decide (o.Kind = 3) = false := fun b k => ⟨decide_eq_false (by omega), decide_eq_false (by omega)⟩
  by_cases k1 : o.Kind = 1
  ·rw [(key true k1).1, (key true k1).2, decide_eq_true k1]
   simp only [oth]
   cases idB o.ID <;> cases decide (65536 < (o.Data.length : Int)) <;> cases decide (64 < (o.Items.length : Int)) <;> cases decide (8 < (o.Parents.length : Int)) <;> cases decide (o.Tree = 0) <;> cases decide ((o.Parents.length : Int) = 0) <;> cases decide (o.Author = []) <;> cases decide (o.Time = 0) <;> cases decide ((o.Items.length : Int) = 0) <;> rfl
  ·by_cases k2 : o.Kind = 2
   ·have k3 : ¬ o.Kind = 3 := by omega
    rw [decide_eq_false k1, decide_eq_true k2, decide_eq_false k3]
    simp only [oth, trA]
    generalize (List.range' 0 o.Items.length).all (trB o.Items) = b
    cases idB o.ID <;> cases decide (65536 < (o.Data.length : Int)) <;> cases decide (64 < (o.Items.length : Int)) <;> cases decide (8 < (o.Parents.length : Int)) <;> cases decide (o.Tree = 0) <;> cases decide ((o.Parents.length : Int) = 0) <;> cases decide (o.Author = []) <;> cases decide (o.Time = 0) <;> cases decide ((o.Data.length : Int) = 0) <;> cases b <;> rfl
   ·by_cases k3 : o.Kind = 3
    ·rw [decide_eq_false k1, decide_eq_false k2, decide_eq_true k3]
     simp only [coA]
     generalize (List.range' 0 o.Parents.length).all (coB o.Parents) = b
     cases idB o.ID <;> cases decide (65536 < (o.Data.length : Int)) <;> cases decide (64 < (o.Items.length : Int)) <;> cases decide (8 < (o.Parents.length : Int)) <;> cases decide ((o.Items.length : Int) = 0) <;> cases decide ((o.Data.length : Int) = 0) <;> cases b <;> cases idB o.Tree <;> cases nmB o.Author <;> cases cmB o <;> rfl
    ·rw [decide_eq_false k1, decide_eq_false k2, decide_eq_false k3]
     cases idB o.ID <;> cases decide (65536 < (o.Data.length : Int)) <;> cases decide (64 < (o.Items.length : Int)) <;> cases decide (8 < (o.Parents.length : Int)) <;> rfl
 ·unfold F_p vlB
  rw [rid_eq]
  simp only [grp, Option.bind_some]
  rw [lim_of_big hl]
  cases idB o.ID <;> rfl
theorem guess_lens {id : Int} {s : Str} (h : s.length ≤ 3000) : Lng (guessP id s) ∧ ((guessP id s).Author.length : Int) ≤ 9223372036854775807 ∧ (guessP id s).Data.length ≤ 3000 ∧ (guessP id s).ID = id := by
 have hl : ∀ l ∈ (segs [] s).take 100, l.length ≤ 3000 := fun l hl => by
  have := segs_len s [] l (List.mem_of_mem_take hl)
  simp at this; omega
 unfold guessP
 cases decide (s.take 5 = [98,108,111,98,10]) with
 | true => exact ⟨(fun x hx => by cases hx), by simp, by simp; omega, rfl⟩
 | false =>
  simp only [cond_false]
  generalize (segs [] s).take 100 = all at hl ⊢
  cases all with
  | nil => exact ⟨(fun x hx => by cases hx), by simp, by simp, rfl⟩
  | cons w r =>
   simp only
   cases decide (w = [116,114,101,101]) with
   | true =>
    refine ⟨fun x hx => ?_, by simp, by simp, rfl⟩
    simp only [cond_true, List.mem_map] at hx
    obtain ⟨l, h1, rfl⟩ := hx
    have h2 := hl l (by simp [h1])
    have h3 := (pairP_len l).2
    simp only [itP]
    omega
   | false =>
    refine ⟨(fun x hx => by cases hx), ?_, by simp, rfl⟩
    simp only [cond_false]
    have : ∀ (xs : List Str) (x : Int × Str × Int × List Int), (∀ l ∈ xs, l.length ≤ 3000) → x.2.1.length ≤ 3000 → (xs.foldl cmF x).2.1.length ≤ 3000 := fun xs => by
     induction xs with
     | nil => intro x _ h; exact h
     | cons l q ih =>
      intro x h1 h2
      rw [List.foldl_cons]
      refine ih _ (fun y hy => h1 y (by simp [hy])) ?_
      have h3 := (pairP_len l).2
      have h4 := h1 l (by simp)
      unfold cmF
      cases decide ((pairP l).1 = [116,114,101,101]) <;> cases decide ((pairP l).1 = [112,97,114,101,110,116]) <;> cases decide ((pairP l).1 = [97,117,116,104,111,114]) <;> cases decide ((pairP l).1 = [116,105,109,101]) <;> simp only [cond_true, cond_false] <;> omega
    have := this r (0,[],0,[]) (fun l hq => hl l (by simp [hq])) (by simp)
    omega
theorem rparse_ok {k : Int} {x : Str} (h : x.length ≤ 3000) : Ok (F_g k x) (PR k x) := by
 unfold F_g
 rw [rid_eq]
 simp only [Option.bind_some]
 refine Ok.ite (fun hc => Ok.ret (.inl ⟨by simpa using hc, rfl⟩)) fun hc => ?_
 have hid : idB k = true := by simpa using hc
 obtain ⟨h1, h2, h3, h4⟩ := guess_lens (id := k) h
 rw [guess_eq (by omega)]
 simp only [Option.bind_some]
 rw [rvalid_any h1 h2 h3]
 simp only [Option.bind_some]
 refine Ok.ite (fun _ => Ok.ret (.inr (.inl ⟨hid, rfl⟩))) fun hv => ?_
 have hv : vlB (guessP k x) = 0 := by simpa using hv
 have hf := few_of hv h3
 rw [(write_txt hf (vl_VO hv)).2]
 simp only [Option.bind_some]
 exact Ok.ite (fun _ => Ok.ret (.inr (.inl ⟨hid, rfl⟩))) fun he => Ok.ret (.inr (.inr ⟨hid, hv, h4, rfl, hf, by simpa using he⟩))
theorem rparse_back {o : GObject} (hf : Few o) (hv : vlB o = 0) (hx : (txt o).length ≤ 3000) : F_g o.ID (txt o) = some (o, 0) := by
 unfold F_g
 have hid := (vl_id hv).1
 have hg := guess_back hf hv
 obtain ⟨h1, h2, h3, h4⟩ := guess_lens (id := o.ID) hx
 rw [hg] at h1 h2 h3
 rw [rid_eq, hid, guess_eq (by omega), hg]
 simp only [Option.bind_some, Bool.not_true, cond_false]
 rw [rvalid_any h1 h2 h3, hv, (write_txt hf (vl_VO hv)).2]
 simp only [Option.bind_some, decide_true, Bool.not_true, cond_false]
theorem parse_same {k : Int} {x : Str} (h : x.length ≤ 3000) : ∃ y, F_d k x = some y ∧ F_g k x = some y ∧ Few y.1 := by
 obtain ⟨y, e1, p1⟩ := parse_ok (k := k) h
 obtain ⟨z, e2, p2⟩ := rparse_ok (k := k) h
 have fz : Few z0 := ⟨by simp [z0], by simp [z0], by simp [z0], by simp [z0]⟩
 have back : ∀ y : GObject × Int, vlB y.1 = 0 → y.1.ID = k → y.2 = 0 → Few y.1 → txt y.1 = x → F_d k x = some y ∧ F_g k x = some y := fun y h1 h2 h3 h4 h5 => by
  obtain ⟨o, n⟩ := y
  simp only at h1 h2 h3 h4 h5
  subst h2 h3
  have g1 := parse_back h4 h1
  have g2 := rparse_back h4 h1 (by rw [h5]; exact h)
  rw [h5] at g1 g2
  exact ⟨g1, g2⟩
 rcases p1 with ⟨a1, rfl⟩ | ⟨a1, rfl⟩ | ⟨a1, a2, a3, a4, a5, a6⟩
 ·rcases p2 with ⟨b1, rfl⟩ | ⟨b1, rfl⟩ | ⟨b1, _⟩
  ·exact ⟨_, e1, e2, fz⟩
  ·rw [a1] at b1; cases b1
  ·rw [a1] at b1; cases b1
 ·rcases p2 with ⟨b1, rfl⟩ | ⟨b1, rfl⟩ | ⟨b1, b2, b3, b4, b5, b6⟩
  ·rw [a1] at b1; cases b1
  ·exact ⟨_, e1, e2, fz⟩
  ·obtain ⟨g1, g2⟩ := back z b2 b3 b4 b5 b6
   exact ⟨z, g1, g2, b5⟩
 ·obtain ⟨g1, g2⟩ := back y a2 a3 a4 a5 a6
  exact ⟨y, g1, g2, a5⟩
end Go.Ab
set_option maxRecDepth 20000
namespace Go.Ab
open Go.Proofs
theorem awake13 : F_y = some true := by
 have hf : Few (GObject.mk 4 2 [] [(GItem.mk [97,46,116,120,116] 3)] 0 [] [] 0) := ⟨by simp, by simp, by simp, by simp⟩
 have hv : vlB (GObject.mk 4 2 [] [(GItem.mk [97,46,116,120,116] 3)] 0 [] [] 0) = 0 := by decide
 have hw : F_5 (GObject.mk 4 2 [] [(GItem.mk [97,46,116,120,116] 3)] 0 [] [] 0) = some [116,114,101,101,10,51,32,97,46,116,120,116,10] := by
  have hd : Lib.itoa 3 = [51] := by
   rw [show (3 : Int) = ((3 : Nat) : Int) from rfl, itoa_nat, Lib.decDigits, dif_pos (by omega)]; rfl
  unfold F_5
  simp only [show decide ((2 : Int) = 1) = false from rfl, show decide ((2 : Int) = 2) = true from rfl, cond_true, cond_false]
  rw [bws_sm (by simp)]
  simp only [Option.bind_some, List.nil_append, foldL, F_1c]
  rw [itoaI_sm (by omega) (by omega), hd]
  simp only [Option.bind_some]
  rw [write1_eq (by simp) (by simp) (by simp)]
  rfl
 unfold F_y F_1d
 rw [valid_eq hf, hv]
 simp only [Option.bind_some, jn]
 rw [hw]
 rfl
theorem flatS_len {α : Type} {f : α → Str} : ∀ xs : List α, (∀ x ∈ xs, (f x).length ≤ 1000) → (xs.flatMap f).length ≤ 1000 * xs.length
 | [], _ => by simp
 | x :: q, h => by
  have := h x (by simp)
  have := flatS_len q fun x hx => h x (by simp [hx])
  simp only [List.flatMap_cons, List.length_append, List.length_cons]; omega
theorem txt_len {o : GObject} (hf : Few o) (h : VO o) : 5 ≤ (txt o).length ∧ (txt o).length ≤ 200000 := by
 obtain ⟨f1, f2, f3, f4⟩ := hf
 rcases h with k | ⟨k, hi⟩ | ⟨k, hp, t1, t2, a1, m1, m2⟩
 ·unfold txt; rw [decide_eq_true k]; simp; omega
 ·have := flatS_len (f := itB) o.Items fun x hx => by
   have h1 := hi x hx
   have h2 := itoa_sm h1.2.1 (by omega)
   simp [itB]; omega
  unfold txt; rw [decide_eq_false (by omega), decide_eq_true k]
  simp only [cond_true, cond_false, List.length_append, List.length_cons, List.length_nil]; omega
 ·have := flatS_len (f := paB) o.Parents fun x hx => by
   have h1 := hp x hx
   have h2 := itoa_sm h1.1 (by omega)
   simp [paB]; omega
  have ht := itoa_sm t1 (by omega)
  have hm := itoa_sm m1 (by omega)
  unfold txt; rw [decide_eq_false (by omega), decide_eq_false (by omega)]
  simp only [cond_true, cond_false, List.length_append, List.length_cons, List.length_nil]; omega
theorem acall_fact {P : Program} {f : FuncId} {ys : List V} {H : Heap} {Q : V → Heap → Prop} (hc : callable P f = true) (h : (∀ y ∈ ys, y.fact) → ACall P f ys H Q) : ACall P f ys H Q :=
 ⟨hc, fun g w vals hH hs hr => (h fun y hy => by
  obtain ⟨i, hi⟩ := List.getElem?_of_mem hy
  exact (hr i y hi).fact).2 g w vals hH hs hr⟩
theorem parses13 {tape : List Int} {raw : List UInt8} {id at_ : Int} {by_ : UInt8} (ht : (V.sl (tape.map (V.int .i64))).fact) : F_1k tape raw id at_ by_ = some true := by
 have h0 : TO (GTape.mk tape 0) := ⟨Int.le_refl 0, Int.ofNat_le.2 (fact_sl ht)⟩
 refine Ok.eq ?_
 unfold F_1k
 refine Ok.bind (repo_ok h0) fun r hr => ?_
 obtain ⟨r1, r2, r3, r4⟩ := hr
 refine Ok.bind (nx_ok r4 (by omega)) fun k hk => Ok.chk (inb_iff.2 ⟨hk.1, hk.2.1⟩) ?_
 have pick : ∀ i : Int, 0 ≤ i → i < r.1.Objects.length → GV (r.1.Objects.getD i.toNat default) ∧ idB (r.1.Objects.getD i.toNat default).ID = true := fun i h1 h2 => by
  have hlt : i.toNat < r.1.Objects.length := by omega
  rw [List.getD_eq_getElem?_getD, List.getElem?_eq_getElem hlt]
  exact r3 _ (List.getElem_mem hlt)
 obtain ⟨ga, ia⟩ := pick k.1 hk.1 hk.2.1
 generalize r.1.Objects.getD k.1.toNat default = a at ga ia
 have va : vlB a = 0 := ga.2 a.ID ia
 obtain ⟨l1, l2⟩ := txt_len ga.1 (vl_VO va)
 refine Ok.bind (Ok.of (write_txt ga.1 (vl_VO va)).2 rfl) fun y hy => ?_
 subst hy
 generalize txt a = b at l1 l2
 simp only [List.nil_append, List.length_nil, Nat.zero_add, List.length_cons]
 have hm : 0 ≤ at_ % 2 ^ 8 := Int.emod_nonneg _ (by decide)
 have hlb : (0 : Int) < b.length := by omega
 refine Ok.chk (room_iff.2 (by omega)) (Ok.chk (divs_iff.2 ⟨hm, hlb⟩) (Ok.chk (inb_iff.2 ⟨Int.emod_nonneg _ (by omega), Int.emod_lt_of_pos _ hlb⟩) (Ok.chk (room_iff.2 (by omega)) (Ok.chk (room_iff.2 (by omega)) (Ok.chk (in64_iff.2 ⟨by omega, by omega⟩) (Ok.chk (inc_iff.2 ⟨by omega, by omega, by omega⟩) ?_))))))
 refine Ok.bind (P := fun y => y = .nx ()) (Ok.for (fun _ => True) _ _ _ trivial (fun j x s hx _ => ?_) fun _ _ => rfl) fun y hy => ?_
 ·unfold F_1u
  refine Ok.ite (fun _ => Ok.ret trivial) fun hc => ?_
  have hc := of_decide_eq_false hc
  have hi : 0 ≤ id % 2 ^ 8 := Int.emod_nonneg _ (by decide)
  have hi2 : id % 2 ^ 8 < 256 := Int.emod_lt_of_pos _ (by decide)
  refine Ok.chk (in64_iff.2 ⟨by omega, by omega⟩) ?_
  refine Ok.bind (P := fun y => y = .nx ()) (Ok.for (fun _ => True) _ _ _ trivial (fun j q s hq _ => ?_) fun _ _ => rfl) fun y hy => ?_
  ·unfold F_1t
   obtain ⟨y, e1, e2, hf⟩ := parse_same (k := q) (x := x) (by omega)
   rw [e1, e2]
   simp only [Option.bind_some, decide_true, Bool.not_true, cond_false]
   rw [rsame_eq hf hf, same_iff.2 rfl]
   exact Ok.ret trivial
  ·subst hy; exact Ok.ret trivial
 ·subst hy
  simp only [Fl.elim, awake13, Option.bind_some]
  exact Ok.ret rfl
theorem call13p {tape : List Int} {raw : List UInt8} {id at_ : Int} {by_ : UInt8} : ACall Tryd.prog 5 [.sl (tape.map (V.int .i64)), .sl (raw.map byteV), .int .i64 id, .int .i64 at_, byteV by_] [] (fun r H => r = .bool true ∧ H = []) :=
 acall_fact (by kernel_rfl) fun h => Wq_1k.w (parses13 (h _ (by simp)))
end Go.Ab
