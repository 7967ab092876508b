/- Plain forms of the checks of objects. -/
import Derived.Test.YtdcjekffkibboaaGreatDoorLB
import Derived.Test.YtdcjekffkibboaaGreatDoorAbHo
import Derived.Test.YtdcjekffkibboaaGreatDoorAbStr
set_option linter.all false
set_option linter.all false
namespace Go.Ab
theorem forL_allN {α ρ : Type} {body : Int → α → Unit → Option (Fl Unit ρ)} {p : Nat → Bool} {r : ρ} : ∀ (xs : List α) (k : Nat), (∀ i (hi : i < xs.length), body ((k + i : Nat) : Int) xs[i] () = some (bif p (k + i) then .nx () else .ex r)) →
  forL body xs k () = some (bif (List.range' k xs.length).all p then .nx () else .ex r)
 | [], k, h => rfl
 | x :: q, k, h => by
  have h0 := h 0 (by simp)
  simp only [Nat.add_zero, List.getElem_cons_zero] at h0
  simp only [forL, h0, Option.bind_some, List.length_cons, List.range'_succ, List.all_cons]
  cases hp : p k with
  | false => rfl
  | true =>
   have := forL_allN q (k + 1) fun i hi => by
    have := h (i + 1) (by simpa using hi)
    rw [show k + 1 + i = k + (i + 1) by omega]
    simpa using this
   simpa [Fl.elim] using this
theorem loop_allN {ρ σ : Type} {step : Int → Option (Fl Int (Sum Unit ρ))} {p : Nat → Bool} {r : ρ} {n : Nat} (h2 : step n = some (.ex (.inl ()))) (h : ∀ i, i < n → step (i : Int) = some (bif p i then .nx ((i : Int) + 1) else .ex (.inr r))) : ∀ (m k : Nat), k + m = n →
  loop step k = some (bif (List.range' k m).all p then .inl () else .inr r)
 | 0, k, e => by
  obtain rfl : k = n := by omega
  rw [loop_eq, h2]; rfl
 | m + 1, k, e => by
  rw [loop_eq, h k (by omega)]
  simp only [Option.bind_some, List.range'_succ, List.all_cons]
  cases hp : p k with
  | false => rfl
  | true =>
   have := loop_allN (σ := σ) h2 h m (k + 1) (by omega)
   simpa [Fl.elim] using this
theorem loop_all0 {ρ : Type} {step : Int → Option (Fl Int (Sum Unit ρ))} {p : Nat → Bool} {r : ρ} {n : Nat} (h2 : step n = some (.ex (.inl ()))) (h : ∀ i, i < n → step (i : Int) = some (bif p i then .nx ((i : Int) + 1) else .ex (.inr r))) :
  loop step 0 = some (bif (List.range' 0 n).all p then .inl () else .inr r) := loop_allN (σ := Unit) h2 h n 0 (by omega)
theorem forL_all0 {α ρ : Type} {body : Int → α → Unit → Option (Fl Unit ρ)} {p : Nat → Bool} {r : ρ} (xs : List α) (h : ∀ i (hi : i < xs.length), body (i : Int) xs[i] () = some (bif p i then .nx () else .ex r)) :
  forL body xs 0 () = some (bif (List.range' 0 xs.length).all p then .nx () else .ex r) := forL_allN xs 0 fun i hi => by simpa using h i hi
def idB (n : Int) : Bool := decide (1 ≤ n) && decide (n ≤ 1073741824)
def chB (s : Str) (i : Nat) : Bool := !(decide (((s.getD i 0).toNat : Int) < 33) || decide (126 < ((s.getD i 0).toNat : Int)) || decide (((s.getD i 0).toNat : Int) = 47))
def nmB (s : Str) : Bool := (List.range' 0 s.length).all (chB s) && (decide (1 ≤ (s.length : Int)) && decide ((s.length : Int) ≤ 40))
theorem number_eq (n : Int) : F_5 n = some (idB n) := rfl
theorem rid_eq (n : Int) : F_8 n = some (idB n) := rfl
theorem name_eq (s : Str) : F_u s = some (nmB s) := by
 unfold F_u
 rw [forL_all0 (p := chB s) (r := false) s fun i hi => by
  have : s.getD i 0 = s[i] := by simp [hi]
  simp only [F_3d, chB, this, grp]
  cases decide ((s[i].toNat : Int) < 33) <;> cases decide (126 < (s[i].toNat : Int)) <;> cases decide ((s[i].toNat : Int) = 47) <;> rfl]
 unfold nmB grp
 cases (List.range' 0 s.length).all (chB s) <;> rfl
theorem in64_kn {i n : Nat} (hi : i < n) (h : (n : Int) ≤ 9223372036854775807) : in64 ((i : Int) + 1) = true := kI (Int.le_trans (Int.ofNat_le.2 (Nat.succ_le_of_lt hi)) h)
theorem rname_eq {s : Str} (h : (s.length : Int) ≤ 9223372036854775807) : F_y s = some (nmB s) := by
 unfold F_y
 rw [loop_all0 (p := chB s) (r := false) (n := s.length) (by unfold F_3j; rw [dlt]; rfl) fun i hi => by
  have e : ((i : Int)).toNat = i := by simp
  have c : decide ((i : Int) < (s.length : Int)) = true := by simpa using hi
  have c2 : inb (i : Int) s.length = true := kB hi
  have c3 : in64 ((i : Int) + 1) = true := in64_kn hi h
  simp only [F_3j, chB, c, c2, c3, e, chk, cond_true]
  cases decide (((s.getD i 0).toNat : Int) < 33) <;> cases decide (126 < ((s.getD i 0).toNat : Int)) <;> cases decide (((s.getD i 0).toNat : Int) = 47) <;> simp]
 unfold nmB grp
 cases (List.range' 0 s.length).all (chB s) <;> simp only [cond_true, cond_false, Option.bind_some, Sum.elim_inl, Sum.elim_inr, Bool.true_and, Bool.false_and]
theorem less_tri : ∀ (x y : Str), (!Op.bytesLess x y) = (Op.bytesLess y x || decide (y = x))
 | [],[] => by simp [Op.bytesLess]
 | _ :: _, [] => by simp [Op.bytesLess]
 | [], _ :: _ => by simp [Op.bytesLess]
 | a :: x, b :: y => by
  have ih := less_tri x y
  simp only [Op.bytesLess]
  by_cases h1 : a < b
  ·have h2 : ¬ b < a := fun h => absurd h1 (by simpa using UInt8.le_of_lt h)
   have h3 : b ≠ a := fun h => by subst h; exact absurd h1 (by simp)
   simp [h1, h2, h3]
  ·by_cases h2 : b < a
   ·have h3 : a ≠ b := fun h => by subst h; exact absurd h2 (by simp)
    simp [h1, h2, h3]
   ·have h3 : a = b := UInt8.le_antisymm (by simpa using h2) (by simpa using h1)
    subst h3
    simp [h1, ih]
def trB (l : List GItem) (i : Nat) : Bool := nmB (l.getD i default).Name && (idB (l.getD i default).ID && (decide (i = 0) || Op.bytesLess (l.getD (i - 1) default).Name (l.getD i default).Name))
theorem tree_eq {o : GObject} (h : o.Items.length ≤ 1000) : F_1k o = some ((List.range' 0 o.Items.length).all (trB o.Items)) := by
 unfold F_1k
 rw [forL_all0 (p := trB o.Items) (r := false) o.Items fun i hi => by
  have e1 : o.Items.getD i default = o.Items[i] := by simp [hi]
  simp only [F_3e, trB, name_eq, number_eq, Option.bind_some, e1]
  cases nmB o.Items[i].Name with
  | false => rfl
  | true =>
   cases idB o.Items[i].ID with
   | false => rfl
   | true =>
    by_cases h0 : i = 0
    ·subst h0; rfl
    ·have c : decide ((0 : Int) < (i : Int)) = true := by simp; omega
     have e : ((i : Int) - 1).toNat = i - 1 := by omega
     have c1 : in64 ((i : Int) - 1) = true := in64_iff.2 ⟨by omega, by omega⟩
     have c2 : inb ((i : Int) - 1) o.Items.length = true := inb_iff.2 ⟨by omega, by omega⟩
     have c4 : decide (i = 0) = false := by simpa using h0
     simp only [c, c1, c2, c4, e, chk, cond_true, Bool.not_true, cond_false, Bool.true_and, Bool.false_or]
     cases Op.bytesLess (o.Items.getD (i - 1) default).Name o.Items[i].Name <;> rfl]
 cases (List.range' 0 o.Items.length).all (trB o.Items) <;> rfl
theorem rtree_eq {o : GObject} (h : o.Items.length ≤ 1000) (hn : ∀ x ∈ o.Items, (x.Name.length : Int) ≤ 9223372036854775807) : F_1w o = some ((List.range' 0 o.Items.length).all (trB o.Items) && (decide ((o.Data.length : Int) = 0) && decide (o.Tree = 0) && decide ((o.Parents.length : Int) = 0) && decide (o.Author = []) && decide (o.Time = 0))) := by
 unfold F_1w
 rw [loop_all0 (p := trB o.Items) (r := false) (n := o.Items.length) (by simp [F_3k]) fun i hi => by
  have e1 : o.Items.getD i default = o.Items[i] := by simp [hi]
  have e : ((i : Int)).toNat = i := by simp
  have c : decide ((i : Int) < (o.Items.length : Int)) = true := by simpa using hi
  have c2 : inb (i : Int) o.Items.length = true := inb_iff.2 ⟨by omega, by omega⟩
  have c3 : in64 ((i : Int) + 1) = true := in64_iff.2 ⟨by omega, by omega⟩
  simp only [F_3k, trB, rid_eq, Option.bind_some, e, e1, c, c2, c3, chk, cond_true, rname_eq (hn _ (List.getElem_mem hi)), jn]
  cases nmB o.Items[i].Name with
  | false => rfl
  | true =>
   cases idB o.Items[i].ID with
   | false => rfl
   | true =>
    by_cases h0 : i = 0
    ·subst h0; rfl
    ·have c' : decide ((0 : Int) < (i : Int)) = true := by simp; omega
     have e' : ((i : Int) - 1).toNat = i - 1 := by omega
     have c1 : in64 ((i : Int) - 1) = true := in64_iff.2 ⟨by omega, by omega⟩
     have c2' : inb ((i : Int) - 1) o.Items.length = true := inb_iff.2 ⟨by omega, by omega⟩
     have c4 : decide (i = 0) = false := by simpa using h0
     simp only [c', c1, c2', c4, e', cond_true, Bool.not_true, cond_false, Bool.true_and, Bool.false_or, ← less_tri]
     cases Op.bytesLess (o.Items.getD (i - 1) default).Name o.Items[i].Name <;> rfl]
 unfold grp
 cases (List.range' 0 o.Items.length).all (trB o.Items) <;> rfl
theorem index_eq (v : Int) : ∀ (s : List Int) (k : Int),0 ≤ k → ∃ j, 0 ≤ j ∧ forL (F_2e v) s k () = some (bif s.any (fun z => decide (v = z)) then .ex j else .nx ())
 | [], k, h => ⟨0, by omega, rfl⟩
 | x :: q, k, h => by
  simp only [forL, F_2e, List.any_cons]
  by_cases hx : v = x
  ·exact ⟨k, h, by simp [hx, Fl.elim]⟩
  ·obtain ⟨j, h1, h2⟩ := index_eq v q (k + 1) (by omega)
   exact ⟨j, h1, by simpa [hx, Fl.elim] using h2⟩
theorem contains_eq (s : List Int) (v : Int) : F_g s v = some (s.any (fun z => decide (v = z))) := by
 unfold F_g F_2f
 obtain ⟨j, h1, h2⟩ := index_eq v s 0 (by omega)
 rw [h2]
 cases s.any (fun z => decide (v = z)) with
 | false => rfl
 | true => simp [h1, Fl.elim]
def duB (l : List Int) (i j : Nat) : Bool := !decide (l.getD j default = l.getD i default)
def coB (l : List Int) (i : Nat) : Bool := idB (l.getD i default) && (List.range' 0 i).all (duB l i)
theorem any_take {l : List Int} {i : Nat} (hi : i < l.length) : (l.take i).any (fun z => decide (l[i] = z)) = !(List.range' 0 i).all (duB l i) := by
 have e1 : l.getD i default = l[i] := by simp [hi]
 rw [Bool.eq_iff_iff]
 simp only [List.any_eq_true, Bool.not_eq_true', List.all_eq_false, List.mem_range'_1, duB, e1, decide_eq_true_eq]
 constructor
 ·rintro ⟨z, hz, e⟩
  obtain ⟨j, hj, rfl⟩ := List.mem_take_iff_getElem.1 hz
  refine ⟨j, by omega, ?_⟩
  have : j < l.length := by omega
  simp [this, e]
 ·rintro ⟨j, hj, e⟩
  have hjl : j < l.length := by omega
  refine ⟨l[j], List.mem_take_iff_getElem.2 ⟨j, by omega, rfl⟩, ?_⟩
  have : l.getD j default = l[j] := by simp [hjl]
  rw [this] at e
  have e' : l[j] = l[i] := by simpa using e
  simpa using e'.symm
def cmB (o : GObject) : Bool := decide (0 ≤ o.Time) && decide (o.Time ≤ 1099511627776)
theorem commit_eq {o : GObject} (h : o.Parents.length ≤ 1000) : F_1l o = some ((List.range' 0 o.Parents.length).all (coB o.Parents) && (idB o.Tree && nmB o.Author && cmB o)) := by
 unfold F_1l
 rw [forL_all0 (p := coB o.Parents) (r := false) o.Parents fun i hi => by
  have e1 : o.Parents.getD i default = o.Parents[i] := by simp [hi]
  have e : ((i : Int)).toNat = i := by simp
  have c : inc 0 (i : Int) o.Parents.length = true := inc_iff.2 ⟨by omega, by omega, by omega⟩
  simp only [F_3f, coB, number_eq, Option.bind_some, e1, e, c, chk, cond_true, contains_eq, any_take hi]
  cases idB o.Parents[i] with
  | false => rfl
  | true => cases (List.range' 0 i).all (duB o.Parents i) <;> rfl]
 simp only [number_eq, name_eq, grp, jn, Option.bind_some, cmB]
 cases (List.range' 0 o.Parents.length).all (coB o.Parents) <;> cases idB o.Tree <;> cases nmB o.Author <;> rfl
theorem rcommit_eq {o : GObject} (h : o.Parents.length ≤ 1000) (hn : (o.Author.length : Int) ≤ 9223372036854775807) : F_1x o = some ((List.range' 0 o.Parents.length).all (coB o.Parents) && (decide ((o.Data.length : Int) = 0) && decide ((o.Items.length : Int) = 0) && idB o.Tree && nmB o.Author && cmB o)) := by
 unfold F_1x
 rw [loop_all0 (p := coB o.Parents) (r := false) (n := o.Parents.length) (by simp [F_3l]) fun i hi => by
  have e1 : o.Parents.getD i default = o.Parents[i] := by simp [hi]
  have e : ((i : Int)).toNat = i := by simp
  have c : decide ((i : Int) < (o.Parents.length : Int)) = true := by simpa using hi
  have c2 : inb (i : Int) o.Parents.length = true := inb_iff.2 ⟨by omega, by omega⟩
  have c3 : in64 ((i : Int) + 1) = true := in64_iff.2 ⟨by omega, by omega⟩
  have hin := loop_all0 (step := F_2n o i) (p := duB o.Parents i) (r := false) (n := i) (by simp [F_2n]) fun j hj => by
   have e2 : ((j : Int)).toNat = j := by simp
   have d : decide ((j : Int) < (i : Int)) = true := by simpa using hj
   have d2 : inb (j : Int) o.Parents.length = true := inb_iff.2 ⟨by omega, by omega⟩
   have d3 : in64 ((j : Int) + 1) = true := in64_iff.2 ⟨by omega, by omega⟩
   simp only [F_2n, duB, e, e2, d, d2, d3, c2, chk, cond_true]
   cases decide (o.Parents.getD j default = o.Parents.getD i default) <;> rfl
  simp only [F_3l, coB, rid_eq, Option.bind_some, e, c, c2, c3, chk, cond_true, hin]
  cases idB (o.Parents.getD i default) with
  | false => rfl
  | true => cases (List.range' 0 i).all (duB o.Parents i) <;> rfl]
 simp only [rid_eq, rname_eq hn, grp, jn, Option.bind_some, cmB]
 cases (List.range' 0 o.Parents.length).all (coB o.Parents) <;> cases decide ((o.Data.length : Int) = 0) <;> cases decide ((o.Items.length : Int) = 0) <;> cases idB o.Tree <;> cases nmB o.Author <;> rfl
end Go.Ab
namespace Go.Ab
def Few (o : GObject) : Prop := o.Data.length ≤ 3000 ∧ o.Items.length ≤ 80 ∧ o.Parents.length ≤ 20 ∧ o.Author.length ≤ 100
def Lng (o : GObject) : Prop := ∀ x ∈ o.Items, (x.Name.length : Int) ≤ 9223372036854775807
def VO (o : GObject) : Prop := o.Kind = 1 ∨ (o.Kind = 2 ∧ ∀ x ∈ o.Items, x.Name.length ≤ 40 ∧ 0 ≤ x.ID ∧ x.ID ≤ 1073741824) ∨ (o.Kind = 3 ∧ (∀ x ∈ o.Parents, 0 ≤ x ∧ x ≤ 1073741824) ∧ 0 ≤ o.Tree ∧ o.Tree ≤ 1073741824 ∧ o.Author.length ≤ 40 ∧ 0 ≤ o.Time ∧ o.Time ≤ 1099511627776)
def trA (o : GObject) : Bool := (List.range' 0 o.Items.length).all (trB o.Items)
def coA (o : GObject) : Bool := (List.range' 0 o.Parents.length).all (coB o.Parents) && (idB o.Tree && nmB o.Author && cmB o)
def oth (o : GObject) : Bool := decide (o.Tree = 0) && decide ((o.Parents.length : Int) = 0) && decide (o.Author = []) && decide (o.Time = 0)
def ryt (o : GObject) : Bool := (decide (o.Kind = 1) && (decide ((o.Items.length : Int) = 0) && oth o)) || (decide (o.Kind = 2) && (decide ((o.Data.length : Int) = 0) && oth o && trA o)) || (decide (o.Kind = 3) && (decide ((o.Data.length : Int) = 0) && decide ((o.Items.length : Int) = 0) && coA o))
def vlB (o : GObject) : Int := bif !idB o.ID then 2 else bif decide (65536 < (o.Data.length : Int)) || decide (64 < (o.Items.length : Int)) || decide (8 < (o.Parents.length : Int)) then 3 else bif ryt o then 0 else 1
theorem pos_ne (n : Nat) : decide (0 < (n : Int)) = !decide ((n : Int) = 0) := by
 cases n with
 | zero => rfl
 | succ n =>
  have h1 : (0 : Int) < ((n + 1 : Nat) : Int) := by omega
  have h2 : ¬ ((n + 1 : Nat) : Int) = 0 := by omega
  rw [decide_eq_true h1, decide_eq_false h2]; rfl
theorem right_eq {o : GObject} (h : Few o) : F_v o = some (ryt o) := by
 obtain ⟨h1, h2, h3, h4⟩ := h
 unfold F_v ryt
 rw [tree_eq (by omega), commit_eq (by omega), pos_ne]
 simp only [grp, jn, Option.bind_some, oth, trA, coA]
 by_cases k1 : o.Kind = 1
 ·have k2 : ¬ o.Kind = 2 := by omega
  have k3 : ¬ o.Kind = 3 := by omega
  rw [decide_eq_true k1, decide_eq_false k2, decide_eq_false k3]
  cases decide (o.Tree = 0) <;> cases decide ((o.Parents.length : Int) = 0) <;> cases decide (o.Author = []) <;> cases decide (o.Time = 0) <;> cases decide ((o.Items.length : Int) = 0) <;> rfl
 ·by_cases k2 : o.Kind = 2
  ·have k3 : ¬ o.Kind = 3 := by omega
   rw [decide_eq_false k1, decide_eq_true k2, decide_eq_false k3]
   generalize (List.range' 0 o.Items.length).all (trB o.Items) = b
   cases decide (o.Tree = 0) <;> cases decide ((o.Parents.length : Int) = 0) <;> cases decide (o.Author = []) <;> cases decide (o.Time = 0) <;> cases decide ((o.Data.length : Int) = 0) <;> cases b <;> rfl
  ·by_cases k3 : o.Kind = 3
   ·rw [decide_eq_false k1, decide_eq_false k2, decide_eq_true k3]
    generalize ((List.range' 0 o.Parents.length).all (coB o.Parents) && (idB o.Tree && nmB o.Author && cmB o)) = b
    cases decide ((o.Items.length : Int) = 0) <;> cases decide ((o.Data.length : Int) = 0) <;> cases b <;> rfl
   ·rw [decide_eq_false k1, decide_eq_false k2, decide_eq_false k3]; rfl
theorem valid_eq {o : GObject} (h : Few o) : F_9 o = some (vlB o) := by
 unfold F_9 vlB
 rw [number_eq, right_eq h]
 simp only [grp, Option.bind_some]
 cases idB o.ID <;> cases decide (65536 < (o.Data.length : Int)) <;> cases decide (64 < (o.Items.length : Int)) <;> cases decide (8 < (o.Parents.length : Int)) <;> cases ryt o <;> rfl
theorem idB_iff {n : Int} (h : idB n = true) : 0 ≤ n ∧ n ≤ 1073741824 := by
 unfold idB at h; simp at h; omega
theorem nmB_len {s : Str} (h : nmB s = true) : s.length ≤ 40 := by
 unfold nmB at h; simp at h; omega
theorem getD_all {α : Type} [Inhabited α] {l : List α} {p : Nat → Bool} (h : (List.range' 0 l.length).all p = true) {x : α} (hx : x ∈ l) : ∃ i, l.getD i default = x ∧ p i = true := by
 obtain ⟨i, hi, rfl⟩ := List.getElem_of_mem hx
 refine ⟨i, by simp [hi], ?_⟩
 rw [List.all_eq_true] at h
 exact h i (by simp; exact hi)
theorem vl_VO {o : GObject} (h : vlB o = 0) : VO o := by
 have hr : ryt o = true := by
  unfold vlB at h
  cases hc : ryt o with
  | true => rfl
  | false =>
   rw [hc] at h
   revert h
   cases idB o.ID <;> cases (decide (65536 < (o.Data.length : Int)) || decide (64 < (o.Items.length : Int)) || decide (8 < (o.Parents.length : Int))) <;> exact fun h => absurd h (by decide)
 unfold ryt at hr
 have hr : ((o.Kind = 1 ∧ (decide ((o.Items.length : Int) = 0) && oth o) = true) ∨ (o.Kind = 2 ∧ (decide ((o.Data.length : Int) = 0) && oth o && trA o) = true)) ∨ (o.Kind = 3 ∧ (decide ((o.Data.length : Int) = 0) && decide ((o.Items.length : Int) = 0) && coA o) = true) := by
  rcases (Bool.or_eq_true _ _).mp hr with h | h
  ·rcases (Bool.or_eq_true _ _).mp h with h | h
   ·exact .inl (.inl ⟨of_decide_eq_true ((Bool.and_eq_true _ _).mp h).1, ((Bool.and_eq_true _ _).mp h).2⟩)
   ·exact .inl (.inr ⟨of_decide_eq_true ((Bool.and_eq_true _ _).mp h).1, ((Bool.and_eq_true _ _).mp h).2⟩)
  ·exact .inr ⟨of_decide_eq_true ((Bool.and_eq_true _ _).mp h).1, ((Bool.and_eq_true _ _).mp h).2⟩
 rcases hr with (⟨k, _⟩ | ⟨k, h2⟩) | ⟨k, h3⟩
 ·exact .inl k
 ·refine .inr (.inl ⟨k, fun x hx => ?_⟩)
  rw [Bool.and_eq_true] at h2
  obtain ⟨i, e, hp⟩ := getD_all h2.2 hx
  unfold trB at hp
  rw [e, Bool.and_eq_true, Bool.and_eq_true] at hp
  exact ⟨nmB_len hp.1, idB_iff hp.2.1⟩
 ·rw [Bool.and_eq_true] at h3
  have h4 := h3.2
  unfold coA at h4
  rw [Bool.and_eq_true, Bool.and_eq_true, Bool.and_eq_true] at h4
  obtain ⟨h5, ⟨h6, h7⟩, h8⟩ := h4
  refine .inr (.inr ⟨k, fun x hx => ?_, (idB_iff h6).1, (idB_iff h6).2, nmB_len h7, ?_⟩)
  ·obtain ⟨i, e, hp⟩ := getD_all h5 hx
   unfold coB at hp
   rw [e, Bool.and_eq_true] at hp
   exact idB_iff hp.1
  ·unfold cmB at h8; simpa using h8
end Go.Ab
namespace Go.Ab
theorem foldL_app {α : Type} {body : Int → α → List UInt8 → Option (List UInt8)} {f : α → Str} : ∀ (xs : List α) (k : Int) (s : Str), (∀ k x (s : Str), x ∈ xs → s.length ≤ 1000000 → body k x s = some (s ++ f x)) → (∀ x ∈ xs, (f x).length ≤ 1000) → s.length + 1000 * xs.length ≤ 1000000 → foldL body xs k s = some (s ++ xs.flatMap f)
 | [], k, s, h, hl, hs => by simp [foldL]
 | x :: q, k, s, h, hl, hs => by
  have h1 := hl x (by simp)
  simp only [List.length_cons] at hs
  simp only [foldL, h k x s (by simp) (by omega), Option.bind_some, List.flatMap_cons]
  rw [foldL_app q (k + 1) (s ++ f x) (fun k x s hx => h k x s (by simp [hx])) (fun x hx => hl x (by simp [hx])) (by rw [List.length_append]; omega), List.append_assoc]
theorem loop_app {α : Type} {step : Str × Int → Option (Fl (Str × Int) Str)} {f : α → Str} {all : List α} (h2 : ∀ s : Str, step (s, (all.length : Int)) = some (.ex s)) (h : ∀ (i : Nat) (hi : i < all.length) (s : Str), s.length ≤ 1000000 → step (s, (i : Int)) = some (.nx (s ++ f all[i], (i : Int) + 1))) (hl : ∀ x ∈ all, (f x).length ≤ 1000) :
  ∀ (xs : List α) (pre : List α) (s : Str), all = pre ++ xs → s.length + 1000 * xs.length ≤ 1000000 → loop step (s, (pre.length : Int)) = some (s ++ xs.flatMap f)
 | [], pre, s, e, hs => by
  have : pre.length = all.length := by rw [e]; simp
  rw [loop_eq, this, h2]; simp [Fl.elim]
 | x :: q, pre, s, e, hs => by
  have hi : pre.length < all.length := by rw [e]; simp
  have ex : all[pre.length] = x := by simp [e]
  have h1 := hl x (by rw [e]; simp)
  simp only [List.length_cons] at hs
  rw [loop_eq, h pre.length hi s (by omega), ex]
  have := loop_app h2 h hl q (pre ++ [x]) (s ++ f x) (by simp [e]) (by rw [List.length_append]; omega)
  simp only [List.length_append, List.length_cons, List.length_nil, Nat.zero_add] at this
  simpa [Fl.elim] using this
theorem strl_sm {n : Nat} (h : n ≤ 100000000) : strl n = true := strl_iff.2 (by omega)
theorem room_sO {n : Nat} (h : n ≤ 100000000) : room n 1 = true := room_iff.2 (by omega)
theorem itoa_nat (u : Nat) : Lib.itoa (u : Int) = Lib.decDigits u := by
 unfold Lib.itoa
 rw [if_neg (by omega)]; rfl
theorem itoaI_sm {n : Int} (h0 : 0 ≤ n) (h : n ≤ 1099511627776) : itoaI n = some (Lib.itoa n) := by
 unfold itoaI chk
 rw [in64_iff.2 ⟨by omega, by omega⟩]; rfl
theorem itoa_sm {n : Int} (h0 : 0 ≤ n) (h : n ≤ 1099511627776) : (Lib.itoa n).length ≤ 21 := Lib.itoa_length_le n (by omega) (by omega)
theorem dig_eq {u : Nat} : u8 (48 + ((u8 (u : Int)).toNat : Int)) = UInt8.ofNat (48 + u) := by
 apply UInt8.toNat_inj.1
 have h := u8_toNat (48 + ((u8 (u : Int)).toNat : Int))
 have h3 := u8_toNat (u : Int)
 have h2 : (UInt8.ofNat (48 + u)).toNat = (48 + u) % 256 := by simp
 rw [h2]
 omega
theorem number_ev (u : Nat) (h : u ≤ 1099511627776) : EvS (fun m => FR_1 m (u : Int)) (Lib.decDigits u) := by
 induction u using Nat.strongRecOn with
 | _ u ih =>
  by_cases c : u < 10
  ·refine ⟨1, fun m hm => ?_⟩
   obtain ⟨m, rfl⟩ : ∃ k, m = k + 1 := ⟨m - 1, by omega⟩
   have c' : decide ((u : Int) < 10) = true := by simp; omega
   simp only [FR_1]
   rw [c', Lib.decDigits, dif_pos c, dig_eq]
   rfl
  ·obtain ⟨n, hn⟩ := ih (u / 10) (by omega) (by omega)
   refine ⟨n + 1, fun m hm => ?_⟩
   obtain ⟨m, rfl⟩ : ∃ k, m = k + 1 := ⟨m - 1, by omega⟩
   have c' : decide ((u : Int) < 10) = false := by simp; omega
   have c2 : divs (u : Int) 10 = true := divs_iff.2 ⟨by omega, by omega⟩
   have e1 : (u : Int) / 10 = ((u / 10 : Nat) : Int) := by omega
   have e2 : (u : Int) % 10 = ((u % 10 : Nat) : Int) := by omega
   have hl : (Lib.decDigits (u / 10)).length ≤ 21 := by rw [← itoa_nat]; exact itoa_sm (by omega) (by omega)
   simp only [FR_1]
   have := hn m (by omega)
   simp only at this
   have hd : Lib.decDigits u = Lib.decDigits (u / 10) ++ [UInt8.ofNat (48 + u % 10)] := by
    rw [Lib.decDigits, dif_neg c]
   rw [c', c2, e1, e2, this, hd]
   simp only [dig_eq]
   simp only [cond_false, chk, cond_true, Option.bind_some]
   rw [strl_sm (by simp; omega)]
   rfl
theorem rnumber_eq {n : Int} (h0 : 0 ≤ n) (h : n ≤ 1099511627776) : F_1 n = some (Lib.itoa n) := by
 obtain ⟨u, rfl⟩ : ∃ u : Nat, n = u := ⟨n.toNat, by omega⟩
 rw [itoa_nat]
 exact lim_of (number_ev u (by omega))
def itB (x : GItem) : Str := ((Lib.itoa x.ID ++ [32]) ++ x.Name) ++ [10]
def paB (n : Int) : Str := ([112,97,114,101,110,116,32] ++ Lib.itoa n) ++ [10]
theorem bws_sm {b s : Str} (h : b.length + s.length ≤ 100000000) : bws b s = some (b ++ s) := by
 unfold bws chk
 rw [room_sO h]; rfl
theorem write1_eq {w r p : Str} (h1 : w.length ≤ 1000) (h2 : r.length ≤ 1000) (h3 : p.length ≤ 10000000) : F_4 w r p = some (p ++ (((w ++ [32]) ++ r) ++ [10])) := by
 unfold F_4 chk
 rw [strl_sm (by simp; omega), strl_sm (by simp; omega), strl_sm (by simp; omega), bws_sm (by simp; omega)]
 rfl
def txt (o : GObject) : Str := bif decide (o.Kind = 1) then [98,108,111,98,10] ++ o.Data else bif decide (o.Kind = 2) then [116,114,101,101,10] ++ o.Items.flatMap itB else ((((((([99,111,109,109,105,116,10,116,114,101,101,32] ++ Lib.itoa o.Tree) ++ [10]) ++ o.Parents.flatMap paB) ++ [97,117,116,104,111,114,32]) ++ o.Author) ++ [10,116,105,109,101,32]) ++ Lib.itoa o.Time) ++ [10]
theorem write_txt {o : GObject} (hf : Few o) (h : VO o) : F_a o = some (txt o) ∧ F_z o = some (txt o) := by
 obtain ⟨f1, f2, f3, f4⟩ := hf
 rcases h with k | ⟨k, hi⟩ | ⟨k, hp, t1, t2, a1, m1, m2⟩
 ·have et : txt o = [98,108,111,98,10] ++ o.Data := by unfold txt; rw [decide_eq_true k]; rfl
  rw [et]
  refine ⟨?_, ?_⟩
  ·unfold F_a chk
   rw [decide_eq_true k, room_sO (by simp; omega)]; rfl
  ·unfold F_z chk
   rw [decide_eq_true k, room_sO (by simp; omega)]; rfl
 ·have hl : ∀ x ∈ o.Items, (itB x).length ≤ 1000 := fun x hx => by
   have h1 := hi x hx
   have h2 := itoa_sm h1.2.1 (by omega)
   simp [itB]; omega
  have et : txt o = [116,114,101,101,10] ++ o.Items.flatMap itB := by unfold txt; rw [decide_eq_false (by omega), decide_eq_true k]; rfl
  rw [et]
  refine ⟨?_, ?_⟩
  ·unfold F_a
   rw [decide_eq_false (by omega), decide_eq_true k]
   simp only [cond_true, cond_false]
   rw [bws_sm (by simp)]
   simp only [Option.bind_some, List.nil_append]
   rw [foldL_app (f := itB) o.Items 0 _ (fun k x s hx hs => by
    have h1 := hi x hx
    have h2 := itoa_sm h1.2.1 (by omega)
    simp only [F_3g]
    rw [itoaI_sm h1.2.1 (by omega)]
    simp only [Option.bind_some]
    rw [write1_eq (by omega) (by omega) (by omega)]
    rfl) hl (by simp; omega)]
   rfl
  ·unfold F_z
   rw [decide_eq_false (by omega), decide_eq_true k]
   simp only [cond_true, cond_false]
   have := loop_app (step := F_2o o) (f := itB) (all := o.Items) (fun s => by unfold F_2o; rw [dlt]; rfl) (fun i hi' s hs => by
    have hx := List.getElem_mem hi'
    have h1 := hi _ hx
    have h2 := itoa_sm h1.2.1 (by omega)
    have e1 : o.Items.getD i default = o.Items[i] := by simp [hi']
    have e : ((i : Int)).toNat = i := by simp
    have c : decide ((i : Int) < (o.Items.length : Int)) = true := by simpa using hi'
    have c2 : inb (i : Int) o.Items.length = true := kB hi'
    have c3 : in64 ((i : Int) + 1) = true := in64_iff.2 ⟨by omega, by omega⟩
    unfold F_2o
    simp only [e, e1, c, c2, c3, chk, cond_true]
    rw [rnumber_eq h1.2.1 (by omega)]
    simp only [Option.bind_some]
    rw [strl_sm (by simp; omega), strl_sm (by simp; omega), strl_sm (by simp; omega), strl_sm (by simp; omega)]
    rfl) hl o.Items [] [116,114,101,101,10] rfl (by simp; omega)
   simp only [List.length_nil, Int.natCast_zero] at this
   rw [this]; rfl
 ·have hl : ∀ x ∈ o.Parents, (paB x).length ≤ 1000 := fun x hx => by
   have h1 := hp x hx
   have h2 := itoa_sm h1.1 (by omega)
   simp [paB]; omega
  have ht := itoa_sm t1 (by omega)
  have hm := itoa_sm m1 (by omega)
  have hfl : (o.Parents.flatMap paB).length ≤ 1000 * o.Parents.length := by
   have : ∀ xs : List Int, (∀ x ∈ xs, (paB x).length ≤ 1000) → (xs.flatMap paB).length ≤ 1000 * xs.length := fun xs => by
    induction xs with
    | nil => intro _; simp
    | cons x q ih => intro h; have := h x (by simp); have := ih fun x hx => h x (by simp [hx]); simp only [List.flatMap_cons, List.length_append, List.length_cons]; omega
   exact this _ hl
  have hs0 : (([99,111,109,109,105,116,10,116,114,101,101,32] ++ Lib.itoa o.Tree) ++ [10]).length ≤ 34 := by simp; omega
  have et : txt o = ((((((([99,111,109,109,105,116,10,116,114,101,101,32] ++ Lib.itoa o.Tree) ++ [10]) ++ o.Parents.flatMap paB) ++ [97,117,116,104,111,114,32]) ++ o.Author) ++ [10,116,105,109,101,32]) ++ Lib.itoa o.Time) ++ [10] := by unfold txt; rw [decide_eq_false (by omega), decide_eq_false (by omega)]; rfl
  rw [et]
  refine ⟨?_, ?_⟩
  ·unfold F_a
   rw [decide_eq_false (by omega), decide_eq_false (by omega)]
   simp only [cond_true, cond_false]
   rw [bws_sm (by simp), itoaI_sm t1 (by omega)]
   simp only [Option.bind_some, List.nil_append]
   rw [write1_eq (by simp) (by omega) (by simp)]
   simp only [Option.bind_some]
   rw [foldL_app (f := paB) o.Parents 0 _ (fun k x s hx hs => by
    have h1 := hp x hx
    have h2 := itoa_sm h1.1 (by omega)
    simp only [F_3h]
    rw [itoaI_sm h1.1 (by omega)]
    simp only [Option.bind_some]
    rw [write1_eq (by simp) (by omega) (by omega)]
    rfl) hl (by simp; omega)]
   simp only [Option.bind_some]
   rw [write1_eq (by simp) (by omega) (by simp only [List.length_append, List.length_cons, List.length_nil]; omega)]
   simp only [Option.bind_some]
   rw [itoaI_sm m1 m2]
   simp only [Option.bind_some]
   rw [write1_eq (by simp) (by omega) (by simp only [List.length_append, List.length_cons, List.length_nil]; omega)]
   simp only [Option.bind_some, bstr]
   simp
  ·unfold F_z
   rw [decide_eq_false (by omega), decide_eq_false (by omega)]
   simp only [cond_true, cond_false]
   rw [rnumber_eq t1 (by omega)]
   simp only [Option.bind_some, chk]
   rw [strl_sm (by simp; omega), strl_sm (by simp; omega)]
   simp only [cond_true]
   have := loop_app (step := F_2p o) (f := paB) (all := o.Parents) (fun s => by unfold F_2p; rw [dlt]; rfl) (fun i hi' s hs => by
    have hx := List.getElem_mem hi'
    have h1 := hp _ hx
    have h2 := itoa_sm h1.1 (by omega)
    have e1 : o.Parents.getD i default = o.Parents[i] := by simp [hi']
    have e : ((i : Int)).toNat = i := by simp
    have c : decide ((i : Int) < (o.Parents.length : Int)) = true := by simpa using hi'
    have c2 : inb (i : Int) o.Parents.length = true := kB hi'
    have c3 : in64 ((i : Int) + 1) = true := in64_iff.2 ⟨by omega, by omega⟩
    unfold F_2p
    simp only [e, e1, c, c2, c3, chk, cond_true]
    rw [rnumber_eq h1.1 (by omega)]
    simp only [Option.bind_some]
    rw [strl_sm (by simp; omega), strl_sm (by simp; omega), strl_sm (by simp; omega)]
    rfl) hl o.Parents [] (([99,111,109,109,105,116,10,116,114,101,101,32] ++ Lib.itoa o.Tree) ++ [10]) rfl (by omega)
   simp only [List.length_nil, Int.natCast_zero] at this
   rw [this]
   simp only [Option.bind_some]
   rw [strl_sm (by simp only [List.length_append, List.length_cons, List.length_nil]; omega), strl_sm (by simp only [List.length_append, List.length_cons, List.length_nil]; omega), strl_sm (by simp only [List.length_append, List.length_cons, List.length_nil]; omega), rnumber_eq m1 m2]
   simp only [Option.bind_some, cond_true]
   rw [strl_sm (by simp only [List.length_append, List.length_cons, List.length_nil]; omega), strl_sm (by simp only [List.length_append, List.length_cons, List.length_nil]; omega)]
   rfl
end Go.Ab
namespace Go.Ab
theorem linesL_app : ∀ (l r : Str), (∀ c ∈ l, c ≠ 10) → linesL (l ++ 10 :: r) = (l ++ [10]) :: linesL r
 | [], r, _ => rfl
 | c :: l, r, h => by
  have hc : (c == 10) = false := by simpa using h c (by simp)
  have ih := linesL_app l r fun c hc => h c (by simp [hc])
  simp only [List.cons_append, linesL, hc, cond_false]
  rw [ih]
theorem index_app (c : UInt8) : ∀ (l r : Str), (∀ x ∈ l, x ≠ c) → Lib.indexByte (l ++ c :: r) c = l.length
 | [], r, _ => by simp [Lib.indexByte]
 | x :: l, r, h => by
  have hx : (x == c) = false := by simpa using h x (by simp)
  have ih := index_app c l r fun y hy => h y (by simp [hy])
  simp only [List.cons_append, Lib.indexByte, hx, ih, List.length_cons]
  have : ¬ ((l.length : Int) == -1) = true := by simp
  simp [this]
theorem dig_bounds (u : Nat) : ∀ c ∈ Lib.decDigits u, 48 ≤ c.toNat ∧ c.toNat ≤ 57 := by
 induction u using Nat.strongRecOn with
 | _ u ih =>
  intro c hc
  rw [Lib.decDigits] at hc
  split at hc
  ·rename_i h
   simp at hc; subst hc
   simp; omega
  ·rcases List.mem_append.1 hc with hc | hc
   ·exact ih (u / 10) (by omega) c hc
   ·simp at hc; subst hc
    simp; omega
theorem parse_dig (u : Nat) (h : u ≤ 1099511627776) (l : Str) : Lib.parseUint10 0 (Lib.decDigits u ++ l) = Lib.parseUint10 u l := by
 induction u using Nat.strongRecOn generalizing l with
 | _ u ih =>
  rw [Lib.decDigits]
  split
  ·rename_i hu
   have e : (UInt8.ofNat (48 + u)).toNat = 48 + u := by simp; omega
   simp only [List.cons_append, List.nil_append, Lib.parseUint10, e]
   rw [if_pos (by omega), if_neg (by omega), if_neg (by omega)]
   congr 1; omega
  ·rename_i hu
   rw [List.append_assoc, ih (u / 10) (by omega) (by omega)]
   have e : (UInt8.ofNat (48 + u % 10)).toNat = 48 + u % 10 := by simp; omega
   simp only [List.cons_append, List.nil_append, Lib.parseUint10, e]
   rw [if_pos (by omega), if_neg (by omega), if_neg (by omega)]
   congr 1; omega
theorem atoiV_itoa {n : Int} (h0 : 0 ≤ n) (h : n ≤ 1099511627776) : atoiV (Lib.itoa n) = n := by
 obtain ⟨u, rfl⟩ : ∃ u : Nat, n = u := ⟨n.toNat, by omega⟩
 rw [itoa_nat]
 have hb := dig_bounds u
 have hp := parse_dig u (by omega) []
 rw [List.append_nil] at hp
 have hne : Lib.decDigits u ≠ [] := by rw [Lib.decDigits]; split <;> simp
 unfold atoiV
 cases hd : Lib.decDigits u with
 | nil => exact absurd hd hne
 | cons c r =>
  have h1 := hb c (by rw [hd]; simp)
  rw [Lib.atoiAll_plain c r (by omega) (by omega)]
  have hm : Lib.parseMag (c :: r) = .ok u := by
   unfold Lib.parseMag
   rw [if_neg (by simp), ← hd, hp]; rfl
  rw [hm]
  simp only [Lib.signless]
  rw [if_neg (by omega)]
theorem atoiI_itoa {n : Int} (h0 : 0 ≤ n) (h : n ≤ 1099511627776) : atoiI (Lib.itoa n) = some n := by
 unfold atoiI chk
 have := itoa_sm h0 h
 rw [decide_eq_true (by omega), atoiV_itoa h0 h]; rfl
theorem trim_eq {l : Str} (h : l.length ≤ 1000000) : F_s (l ++ [10]) [10] = some l := by
 unfold F_s F_2i F_2h
 have e1 : decide ((([10] : Str).length : Int) ≤ ((l ++ [10]).length : Int)) = true := by simp; omega
 have e2 : ((l ++ [10]).length : Int) - (([10] : Str).length : Int) = l.length := by simp
 have c1 : in64 (l.length : Int) = true := in64_iff.2 ⟨by omega, by omega⟩
 have c2 : inc (l.length : Int) ((l ++ [10]).length : Int) (l ++ [10]).length = true := inc_iff.2 ⟨by omega, by simp; omega, by omega⟩
 have c3 : inc 0 (l.length : Int) (l ++ [10]).length = true := inc_iff.2 ⟨by omega, by omega, by simp; omega⟩
 have e3 : ((l.length : Int)).toNat = l.length := by simp
 have e4 : (l ++ [10]).drop l.length = [10] := by simp
 have e5 : (l ++ [10]).take l.length = l := by simp
 rw [e1, e2]
 simp only [cond_true, chk, c1, c2, c3, e3, e4, e5, jn, Option.bind_some, decide_true]
theorem cut_eq {l r : Str} (h : ∀ c ∈ l, c ≠ 32) (hl : (l ++ 32 :: r).length ≤ 1000000) : F_t (l ++ 32 :: r) [32] = some (l, r, true) := by
 unfold F_t F_2j
 have ei : ix1 (l ++ 32 :: r) [32] = some (l.length : Int) := by
  show some (Lib.indexByte (l ++ 32 :: r) 32) = _
  rw [index_app 32 l r h]
 rw [ei]
 have c0 : decide ((0 : Int) ≤ (l.length : Int)) = true := by simp
 have hl2 : l.length + 1 ≤ (l ++ 32 :: r).length := by simp
 have c1 : inc 0 (l.length : Int) (l ++ 32 :: r).length = true := inc_iff.2 ⟨by omega, by omega, by omega⟩
 have e2 : (l.length : Int) + (([32] : Str).length : Int) = l.length + 1 := by simp
 have c2 : in64 ((l.length : Int) + 1) = true := in64_iff.2 ⟨by omega, by omega⟩
 have c3 : inc ((l.length : Int) + 1) ((l ++ 32 :: r).length : Int) (l ++ 32 :: r).length = true := inc_iff.2 ⟨by omega, by omega, by omega⟩
 have e3 : ((l.length : Int)).toNat = l.length := by simp
 have e4 : ((l.length : Int) + 1).toNat = l.length + 1 := by omega
 have e5 : (l ++ 32 :: r).take l.length = l := by simp
 have e6 : (l ++ 32 :: r).drop (l.length + 1) = r := by
  rw [List.drop_append]; simp
 simp only [Option.bind_some, c0, cond_true, chk, c1, e2, c2, c3, e3, e4, e5, e6]
end Go.Ab
namespace Go.Ab
theorem dig_ne {n : Int} (h0 : 0 ≤ n) : ∀ c ∈ Lib.itoa n, c ≠ 10 ∧ c ≠ 32 := by
 obtain ⟨u, rfl⟩ : ∃ u : Nat, n = u := ⟨n.toNat, by omega⟩
 rw [itoa_nat]
 intro c hc
 have := dig_bounds u c hc
 exact ⟨fun e => by subst e; simp at this, fun e => by subst e; simp at this⟩
theorem nm_ne {s : Str} (h : nmB s = true) : ∀ c ∈ s, c ≠ 10 ∧ c ≠ 32 := by
 intro c hc
 unfold nmB at h
 rw [Bool.and_eq_true] at h
 obtain ⟨i, hi, rfl⟩ := List.getElem_of_mem hc
 have h1 := (List.all_eq_true.1 h.1) i (by simp; exact hi)
 have e : s.getD i 0 = s[i] := by simp [hi]
 unfold chB at h1
 rw [e] at h1
 simp at h1
 have h2 := h1.1.1
 exact ⟨fun e => by rw [e] at h2; simp at h2, fun e => by rw [e] at h2; simp at h2⟩
def iOK (x : GItem) : Prop := (∀ c ∈ x.Name, c ≠ 10 ∧ c ≠ 32) ∧ x.Name.length ≤ 40 ∧ 0 ≤ x.ID ∧ x.ID ≤ 1073741824
theorem lines_items : ∀ (xs : List GItem), (∀ x ∈ xs, iOK x) → linesL (xs.flatMap itB) = xs.map itB
 | [], _ => rfl
 | x :: r, h => by
  have hx := h x (by simp)
  rw [List.flatMap_cons, List.map_cons]
  have e : itB x ++ r.flatMap itB = (Lib.itoa x.ID ++ 32 :: x.Name) ++ 10 :: r.flatMap itB := by simp [itB]
  have e2 : itB x = (Lib.itoa x.ID ++ 32 :: x.Name) ++ [10] := by simp [itB]
  rw [e, linesL_app _ _ (fun c hc => ?_), lines_items r fun y hy => h y (by simp [hy]), e2]
  rcases List.mem_append.1 hc with hc | hc
  ·exact (dig_ne hx.2.2.1 c hc).1
  ·rcases List.mem_cons.1 hc with rfl | hc
   ·decide
   ·exact (hx.1 c hc).1
theorem readItems : ∀ (xs : List GItem) (k : Int) (out : List GItem), (∀ x ∈ xs, iOK x) → out.length + xs.length ≤ 1000 → forL F_4e (xs.map itB) k out = some (.nx (out ++ xs))
 | [], k, out, _, _ => by simp [forL]
 | x :: r, k, out, h, hl => by
  obtain ⟨h1, h2, h3, h4⟩ := h x (by simp)
  have ht := itoa_sm h3 (by omega)
  simp only [List.length_cons] at hl
  have e2 : itB x = (Lib.itoa x.ID ++ 32 :: x.Name) ++ [10] := by simp [itB]
  have hb : F_4e k (itB x) out = some (.nx (out ++ [x])) := by
   unfold F_4e
   rw [e2, trim_eq (by simp; omega)]
   simp only [Option.bind_some]
   rw [cut_eq (fun c hc => (dig_ne h3 c hc).2) (by simp; omega)]
   simp only [Option.bind_some]
   rw [atoiI_itoa h3 (by omega)]
   simp only [Option.bind_some, chk]
   rw [room_iff.2 (by simp; omega)]
   rfl
  simp only [List.map_cons, forL, hb, Option.bind_some]
  have := readItems r (k + 1) (out ++ [x]) (fun y hy => h y (by simp [hy])) (by simp; omega)
  simpa [Fl.elim] using this
theorem readTree_eq {xs : List GItem} (h : ∀ x ∈ xs, iOK x) (hl : xs.length ≤ 1000) : F_1i (xs.flatMap itB) = some (GObject.mk 0 2 [] xs 0 [] [] 0) := by
 unfold F_1i linF
 rw [lines_items xs h, readItems xs 0 [] h (by simpa using hl)]
 rfl
theorem line_step {w r : Str} {y : Int} (hw : ∀ c ∈ w, c ≠ 32) (hl : (w ++ 32 :: r).length ≤ 100000) (ha : atoiI r = some y) (k : Int) (x : Int × Str × Int × List Int) : F_4d k ((w ++ 32 :: r) ++ [10]) x =
  bif decide (w = [116,114,101,101]) then some (.nx (y, x.2.1, x.2.2.1, x.2.2.2)) else bif decide (w = [112,97,114,101,110,116]) then chk (room (x.2.2.2.length + [y].length) 8) (some (.nx (x.1, x.2.1, x.2.2.1, (x.2.2.2 ++ [y])))) else bif decide (w = [97,117,116,104,111,114]) then some (.nx (x.1, r, x.2.2.1, x.2.2.2)) else bif decide (w = [116,105,109,101]) then some (.nx (x.1, x.2.1, y, x.2.2.2)) else some (.nx (x.1, x.2.1, x.2.2.1, x.2.2.2)) := by
 conv => lhs; unfold F_4d
 rw [trim_eq (by omega)]
 simp only [Option.bind_some]
 rw [cut_eq hw (by omega)]
 simp only [Option.bind_some]
 rw [ha]; rfl
end Go.Ab
namespace Go.Ab
theorem atoi_some {r : Str} (h : r.length ≤ 1000) : ∃ y, atoiI r = some y := by
 unfold atoiI chk
 rw [decide_eq_true (by omega)]
 exact ⟨_, rfl⟩
theorem paB_eq (n : Int) : paB n = ([112,97,114,101,110,116] ++ 32 :: Lib.itoa n) ++ [10] := by simp [paB]
theorem lines_pars (t : Str) : ∀ (xs : List Int), (∀ x ∈ xs, 0 ≤ x) → linesL (xs.flatMap paB ++ t) = xs.map paB ++ linesL t
 | [], _ => rfl
 | x :: r, h => by
  have hx := h x (by simp)
  rw [List.flatMap_cons, List.map_cons]
  have e : (paB x ++ r.flatMap paB) ++ t = ([112,97,114,101,110,116] ++ 32 :: Lib.itoa x) ++ 10 :: (r.flatMap paB ++ t) := by simp [paB]
  rw [e, linesL_app _ _ (fun c hc => ?_), lines_pars t r fun y hy => h y (by simp [hy]), paB_eq]
  ·rfl
  rcases List.mem_append.1 hc with hc | hc
  ·have : ∀ c ∈ ([112,97,114,101,110,116] : Str), c ≠ 10 := by decide
   exact this c hc
  ·rcases List.mem_cons.1 hc with rfl | hc
   ·decide
   ·exact (dig_ne hx c hc).1
theorem forL_app' {α σ ρ : Type} {body : Int → α → σ → Option (Fl σ ρ)} : ∀ (xs ys : List α) (k : Int) (s s' : σ), forL body xs k s = some (.nx s') → forL body (xs ++ ys) k s = forL body ys (k + xs.length) s'
 | [], ys, k, s, s', h => by
  simp only [forL] at h; cases h; simp
 | x :: r, ys, k, s, s', h => by
  simp only [forL, List.cons_append] at h ⊢
  cases hb : body k x s with
  | none => rw [hb] at h; cases h
  | some o =>
   rw [hb] at h
   simp only [Option.bind_some] at h ⊢
   cases o with
   | ex e => cases h
   | nx s1 =>
    simp only [Fl.elim] at h ⊢
    rw [forL_app' r ys (k + 1) s1 s' h]
    congr 1
    simp; omega
theorem readPars : ∀ (xs : List Int) (k : Int) (t : Int) (a : Str) (m : Int) (out : List Int), (∀ x ∈ xs, 0 ≤ x ∧ x ≤ 1073741824) → out.length + xs.length ≤ 1000 → forL F_4d (xs.map paB) k (t, a, m, out) = some (.nx (t, a, m, out ++ xs))
 | [], k, t, a, m, out, _, _ => by simp [forL]
 | x :: r, k, t, a, m, out, h, hl => by
  obtain ⟨h3, h4⟩ := h x (by simp)
  have ht := itoa_sm h3 (by omega)
  simp only [List.length_cons] at hl
  have hb : F_4d k (paB x) (t, a, m, out) = some (.nx (t, a, m, out ++ [x])) := by
   rw [paB_eq, line_step (by decide) (by simp; omega) (atoiI_itoa h3 (by omega))]
   simp only [show decide (([112,97,114,101,110,116] : Str) = [116,114,101,101]) = false by decide, decide_true, cond_false, cond_true, chk]
   rw [room_iff.2 (by simp; omega)]
   rfl
  simp only [List.map_cons, forL, hb, Option.bind_some]
  have := readPars r (k + 1) t a m (out ++ [x]) (fun y hy => h y (by simp [hy])) (by simp; omega)
  simpa [Fl.elim] using this
theorem readCommit_eq {o : GObject} (hp : ∀ x ∈ o.Parents, 0 ≤ x ∧ x ≤ 1073741824) (hl : o.Parents.length ≤ 900) (t1 : 0 ≤ o.Tree) (t2 : o.Tree ≤ 1073741824) (a1 : ∀ c ∈ o.Author, c ≠ 10 ∧ c ≠ 32) (a2 : o.Author.length ≤ 40) (m1 : 0 ≤ o.Time) (m2 : o.Time ≤ 1099511627776) :
  F_1j ((((((([116,114,101,101,32] ++ Lib.itoa o.Tree) ++ [10]) ++ o.Parents.flatMap paB) ++ [97,117,116,104,111,114,32]) ++ o.Author) ++ [10,116,105,109,101,32]) ++ Lib.itoa o.Time ++ [10]) = some (GObject.mk 0 3 [] [] o.Tree o.Parents o.Author o.Time) := by
 have ht := itoa_sm t1 (by omega)
 have hm := itoa_sm m1 (by omega)
 have e : (((((([116,114,101,101,32] ++ Lib.itoa o.Tree) ++ [10]) ++ o.Parents.flatMap paB) ++ [97,117,116,104,111,114,32]) ++ o.Author) ++ [10,116,105,109,101,32]) ++ Lib.itoa o.Time ++ [10] = ([116,114,101,101] ++ 32 :: Lib.itoa o.Tree) ++ 10 :: (o.Parents.flatMap paB ++ (([97,117,116,104,111,114] ++ 32 :: o.Author) ++ 10 :: (([116,105,109,101] ++ 32 :: Lib.itoa o.Time) ++ 10 :: []))) := by simp
 have k1 : ∀ c ∈ ([116,114,101,101] ++ 32 :: Lib.itoa o.Tree : Str), c ≠ 10 := fun c hc => by
  rcases List.mem_append.1 hc with hc | hc
  ·exact (show ∀ c ∈ ([116,114,101,101] : Str), c ≠ 10 by decide) c hc
  ·rcases List.mem_cons.1 hc with rfl | hc
   ·decide
   ·exact (dig_ne t1 c hc).1
 have k2 : ∀ c ∈ ([97,117,116,104,111,114] ++ 32 :: o.Author : Str), c ≠ 10 := fun c hc => by
  rcases List.mem_append.1 hc with hc | hc
  ·exact (show ∀ c ∈ ([97,117,116,104,111,114] : Str), c ≠ 10 by decide) c hc
  ·rcases List.mem_cons.1 hc with rfl | hc
   ·decide
   ·exact (a1 c hc).1
 have k3 : ∀ c ∈ ([116,105,109,101] ++ 32 :: Lib.itoa o.Time : Str), c ≠ 10 := fun c hc => by
  rcases List.mem_append.1 hc with hc | hc
  ·exact (show ∀ c ∈ ([116,105,109,101] : Str), c ≠ 10 by decide) c hc
  ·rcases List.mem_cons.1 hc with rfl | hc
   ·decide
   ·exact (dig_ne m1 c hc).1
 obtain ⟨ya, hya⟩ := atoi_some (r := o.Author) (by omega)
 unfold F_1j linF
 rw [e, linesL_app _ _ k1, lines_pars _ _ (fun x hx => (hp x hx).1), linesL_app _ _ k2, linesL_app _ _ k3]
 simp only [forL, Option.bind_some]
 rw [line_step (by decide) (by simp; omega) (atoiI_itoa t1 (by omega))]
 simp only [decide_true, cond_true, Option.bind_some, Fl.elim]
 rw [forL_app' _ _ _ _ _ (readPars o.Parents _ o.Tree [] 0 [] hp (by simpa using by omega))]
 simp only [forL, Option.bind_some, linesL, List.nil_append]
 rw [line_step (by decide) (by simp; omega) hya]
 simp only [show decide (([97,117,116,104,111,114] : Str) = [116,114,101,101]) = false by decide, show decide (([97,117,116,104,111,114] : Str) = [112,97,114,101,110,116]) = false by decide, decide_true, cond_true, cond_false, Option.bind_some, Fl.elim, forL]
 rw [line_step (by decide) (by simp; omega) (atoiI_itoa m1 (by omega))]
 simp only [show decide (([116,105,109,101] : Str) = [116,114,101,101]) = false by decide, show decide (([116,105,109,101] : Str) = [112,97,114,101,110,116]) = false by decide, show decide (([116,105,109,101] : Str) = [97,117,116,104,111,114]) = false by decide, decide_true, cond_true, cond_false, Option.bind_some, Fl.elim]
end Go.Ab
namespace Go.Ab
theorem cutp_yes {p r : Str} : F_6 (p ++ r) p = some (r, true) := by
 unfold F_6 F_1h F_1g
 have c1 : decide ((p.length : Int) ≤ ((p ++ r).length : Int)) = true := by simp; omega
 have c2 : inc 0 (p.length : Int) (p ++ r).length = true := inc_iff.2 ⟨by omega, by omega, by simp; omega⟩
 have c3 : inc (p.length : Int) ((p ++ r).length : Int) (p ++ r).length = true := inc_iff.2 ⟨by omega, by simp; omega, by omega⟩
 have e3 : ((p.length : Int)).toNat = p.length := by simp
 have e4 : (p ++ r).take p.length = p := by simp
 have e5 : (p ++ r).drop p.length = r := by simp
 simp only [c1, c2, c3, e3, e4, e5, cond_true, chk, jn, Option.bind_some, decide_true, Bool.not_true, cond_false]
theorem cutp_no {s p : Str} (h : s.take p.length ≠ p) : F_6 s p = some (s, false) := by
 unfold F_6 F_1h F_1g
 have e3 : ((p.length : Int)).toNat = p.length := by simp
 cases hc : decide ((p.length : Int) ≤ (s.length : Int)) with
 | false => rfl
 | true =>
  have hc := of_decide_eq_true hc
  have c2 : inc 0 (p.length : Int) s.length = true := inc_iff.2 ⟨by omega, by omega, hc⟩
  simp only [c2, e3, cond_true, chk, jn, Option.bind_some, decide_eq_false h, Bool.not_false]
theorem vl_id {o : GObject} (h : vlB o = 0) : idB o.ID = true ∧ ryt o = true := by
 unfold vlB at h
 revert h
 cases idB o.ID <;> cases (decide (65536 < (o.Data.length : Int)) || decide (64 < (o.Items.length : Int)) || decide (8 < (o.Parents.length : Int))) <;> cases ryt o <;> simp
theorem oth_of {o : GObject} (h : oth o = true) : o.Tree = 0 ∧ o.Parents = [] ∧ o.Author = [] ∧ o.Time = 0 := by
 unfold oth at h
 simp only [Bool.and_eq_true, decide_eq_true_eq] at h
 obtain ⟨⟨⟨h1, h2⟩, h3⟩, h4⟩ := h
 exact ⟨h1, List.length_eq_zero_iff.1 (by omega), h3, h4⟩
theorem ryt_of {o : GObject} (h : ryt o = true) : (o.Kind = 1 ∧ o.Items = [] ∧ oth o = true) ∨ (o.Kind = 2 ∧ o.Data = [] ∧ oth o = true ∧ trA o = true) ∨ (o.Kind = 3 ∧ o.Data = [] ∧ o.Items = [] ∧ coA o = true) := by
 unfold ryt at h
 rcases (Bool.or_eq_true _ _).mp h with h | h
 ·rcases (Bool.or_eq_true _ _).mp h with h | h
  ·simp only [Bool.and_eq_true, decide_eq_true_eq] at h
   exact .inl ⟨h.1, List.length_eq_zero_iff.1 (by omega), h.2.2⟩
  ·simp only [Bool.and_eq_true, decide_eq_true_eq] at h
   exact .inr (.inl ⟨h.1, List.length_eq_zero_iff.1 (by omega), h.2.1.2, h.2.2⟩)
 ·simp only [Bool.and_eq_true, decide_eq_true_eq] at h
  exact .inr (.inr ⟨h.1, List.length_eq_zero_iff.1 (by omega), List.length_eq_zero_iff.1 (by omega), h.2.2⟩)
theorem trA_ok {o : GObject} (h : trA o = true) : ∀ x ∈ o.Items, iOK x := fun x hx => by
 obtain ⟨i, e, hp⟩ := getD_all h hx
 unfold trB at hp
 rw [e, Bool.and_eq_true, Bool.and_eq_true] at hp
 exact ⟨nm_ne hp.1, nmB_len hp.1, (idB_iff hp.2.1).1, (idB_iff hp.2.1).2⟩
theorem parse_fin {o j : GObject} (hf : Few o) (hv : vlB o = 0) (e : GObject.mk o.ID j.Kind j.Data j.Items j.Tree j.Parents j.Author j.Time = o) :
  ((F_9 (GObject.mk o.ID j.Kind j.Data j.Items j.Tree j.Parents j.Author j.Time)).bind fun y31 => bif (!decide (y31 = 0)) then some ((GObject.mk 0 0 [] [] 0 [] [] 0),10) else (F_a (GObject.mk o.ID j.Kind j.Data j.Items j.Tree j.Parents j.Author j.Time)).bind fun y32 => (F_1m y32 (txt o)).bind fun y33 => bif (!y33) then some ((GObject.mk 0 0 [] [] 0 [] [] 0),10) else some ((GObject.mk o.ID j.Kind j.Data j.Items j.Tree j.Parents j.Author j.Time), (0 : Int))) = some (o, 0) := by
 rw [e, valid_eq hf, hv]
 simp only [Option.bind_some, decide_true, Bool.not_true, cond_false]
 rw [(write_txt hf (vl_VO hv)).1]
 simp only [Option.bind_some, F_1m, decide_true, Bool.not_true, cond_false]
theorem parse_back {o : GObject} (hf : Few o) (hv : vlB o = 0) : F_k o.ID (txt o) = some (o, 0) := by
 obtain ⟨hid, hr⟩ := vl_id hv
 unfold F_k
 rw [number_eq, hid]
 simp only [Option.bind_some, Bool.not_true, cond_false]
 rcases ryt_of hr with ⟨k, i0, ho⟩ | ⟨k, d0, ho, ht⟩ | ⟨k, d0, i0, hc⟩
 ·obtain ⟨t0, p0, a0, m0⟩ := oth_of ho
  have et : txt o = [98,108,111,98,10] ++ o.Data := by unfold txt; rw [decide_eq_true k]; rfl
  have hj : F_6 (txt o) [98,108,111,98,10] = some (o.Data, true) := by rw [et]; exact cutp_yes
  rw [hj]
  simp only [Option.bind_some, cond_true, jn]
  exact parse_fin (j := GObject.mk 0 1 o.Data [] 0 [] [] 0) hf hv (by cases o; simp_all)
 ·obtain ⟨t0, p0, a0, m0⟩ := oth_of ho
  have et : txt o = [116,114,101,101,10] ++ o.Items.flatMap itB := by unfold txt; rw [decide_eq_false (by omega), decide_eq_true k]; rfl
  have h1 : F_6 (txt o) [98,108,111,98,10] = some (txt o, false) := cutp_no (by rw [et]; simp)
  have h2 : F_6 (txt o) [116,114,101,101,10] = some (o.Items.flatMap itB, true) := by rw [et]; exact cutp_yes
  rw [h1]
  simp only [Option.bind_some, cond_false]
  rw [h2]
  simp only [Option.bind_some, cond_true]
  rw [readTree_eq (trA_ok ht) (by have := hf.2.1; omega)]
  simp only [Option.bind_some, jn]
  exact parse_fin (j := GObject.mk 0 2 [] o.Items 0 [] [] 0) hf hv (by cases o; simp_all)
 ·unfold coA cmB at hc
  simp only [Bool.and_eq_true, decide_eq_true_eq] at hc
  obtain ⟨hp, ⟨ht, ha⟩, m1, m2⟩ := hc
  have et : txt o = [99,111,109,109,105,116,10] ++ ((((((([116,114,101,101,32] ++ Lib.itoa o.Tree) ++ [10]) ++ o.Parents.flatMap paB) ++ [97,117,116,104,111,114,32]) ++ o.Author) ++ [10,116,105,109,101,32]) ++ Lib.itoa o.Time ++ [10]) := by
   unfold txt; rw [decide_eq_false (by omega), decide_eq_false (by omega)]; simp
  have h1 : F_6 (txt o) [98,108,111,98,10] = some (txt o, false) := cutp_no (by rw [et]; simp)
  have h2 : F_6 (txt o) [116,114,101,101,10] = some (txt o, false) := cutp_no (by rw [et]; simp)
  have h3 := cutp_yes (p := [99,111,109,109,105,116,10]) (r := ((((((([116,114,101,101,32] ++ Lib.itoa o.Tree) ++ [10]) ++ o.Parents.flatMap paB) ++ [97,117,116,104,111,114,32]) ++ o.Author) ++ [10,116,105,109,101,32]) ++ Lib.itoa o.Time ++ [10]))
  rw [← et] at h3
  rw [h1]
  simp only [Option.bind_some, cond_false]
  rw [h2]
  simp only [Option.bind_some, cond_false]
  rw [h3]
  simp only [Option.bind_some, cond_true]
  rw [readCommit_eq (fun x hx => by
   obtain ⟨i, e, hq⟩ := getD_all hp hx
   unfold coB at hq
   rw [e, Bool.and_eq_true] at hq
   exact idB_iff hq.1) (by have := hf.2.2.1; omega) (idB_iff ht).1 (idB_iff ht).2 (nm_ne ha) (nmB_len ha) m1 m2]
  simp only [Option.bind_some, jn]
  exact parse_fin (j := GObject.mk 0 3 [] [] o.Tree o.Parents o.Author o.Time) hf hv (by cases o; simp_all)
end Go.Ab
namespace Go.Ab
end Go.Ab
namespace Go.Ab
def TO (t : GTape) : Prop := 0 ≤ t.at_ ∧ (t.L.length : Int) ≤ 9223372036854775807
def GV (o : GObject) : Prop := Few o ∧ ∀ id, idB id = true → vlB { o with ID := id } = 0
theorem sm64 {n : Int} (h1 : -1000000 ≤ n) (h2 : n ≤ 1000000) : in64 n = true := in64_iff.2 ⟨by omega, by omega⟩
theorem rm_sm {n b : Nat} (h : n * b ≤ 1000000) : room n b = true := room_iff.2 (by omega)
theorem nx_ok {t : GTape} {n : Int} (h : TO t) (hn : 0 < n) : Ok (F_0 t n) fun y => 0 ≤ y.1 ∧ y.1 < n ∧ TO y.2 := by
 unfold F_0
 refine Ok.ite (fun c => Ok.ret ⟨Int.le_refl 0, hn, h⟩) fun c => ?_
 have c' : t.at_ < t.L.length := by simpa using c
 have h1 := h.1; have h2 := h.2
 refine Ok.chk (inb_iff.2 ⟨h.1, c'⟩) (Ok.chk (in64_iff.2 ⟨by omega, by omega⟩) (Ok.chk (divs_iff.2 ⟨Int.emod_nonneg _ (by decide), hn⟩) (Ok.ret ⟨Int.emod_nonneg _ (by omega), Int.emod_lt_of_pos _ hn, ?_, h2⟩)))
 show 0 ≤ t.at_ + 1
 omega
theorem btw_ok {t : GTape} {a b : Int} (h : TO t) (h1 : -100000 ≤ a) (h2 : a ≤ b) (h3 : b ≤ 100000) : Ok (F_w t a b) fun y => a ≤ y.1 ∧ y.1 ≤ b ∧ TO y.2 := by
 unfold F_w
 refine Ok.chk (sm64 (by omega) (by omega)) (Ok.chk (sm64 (by omega) (by omega)) (Ok.bind (nx_ok h (by omega)) fun y hy => Ok.chk (sm64 (by omega) (by omega)) (Ok.ret ⟨?_, ?_, hy.2.2⟩)))
 ·show a ≤ a + y.1; omega
 ·show a + y.1 ≤ b; omega
theorem mbytes_ok {t : GTape} {n : Int} (h : TO t) (h0 : 0 ≤ n) (hn : n ≤ 100) : Ok (F_1p t n) fun y => (y.1.length : Int) ≤ n ∧ TO y.2 := by
 unfold F_1p
 refine Ok.bind (Ok.loop (Q := fun y : List UInt8 × GTape => (y.1.length : Int) ≤ n ∧ TO y.2) (fun x => (x.2.1.length : Int) = x.1 ∧ x.1 ≤ n ∧ TO x.2.2) (fun x => (n - x.1).toNat) (fun x hx => ?_) _ ⟨rfl, h0, h⟩) fun r hr => Ok.ret hr
 obtain ⟨i, out, t⟩ := x
 obtain ⟨h1, h2, h3⟩ := hx
 simp only at h1 h2 h3
 unfold F_3z
 refine Ok.ite (fun c => ?_) fun c => Ok.ret ⟨by simp only; omega, h3⟩
 have c : i < n := of_decide_eq_true c
 have rm : ∀ b : UInt8, room (out.length + [b].length) 1 = true := fun b => rm_sm (by simp; omega)
 refine Ok.jn (P := fun j : List UInt8 × GTape => (j.1.length : Int) = i + 1 ∧ TO j.2) ?_ fun j hj => ?_
 ·refine Ok.bind (nx_ok h3 (by omega)) fun y hy => ?_
  have ln : ∀ b : UInt8, ((out ++ [b]).length : Int) = i + 1 := fun b => by simp; omega
  refine Ok.ite (fun _ => ?_) fun _ => Ok.ite (fun _ => ?_) fun _ => ?_
  ·exact Ok.bind (nx_ok hy.2.2 (by omega)) fun z hz => Ok.chk (inb_iff.2 ⟨hz.1, hz.2.1⟩) (Ok.chk (rm_sm (by simp; omega)) (Ok.ret ⟨ln _, hz.2.2⟩))
  ·exact Ok.bind (nx_ok hy.2.2 (by omega)) fun z hz => Ok.chk (rm_sm (by simp; omega)) (Ok.ret ⟨ln _, hz.2.2⟩)
  ·refine Ok.jn (P := fun _ => True) (Ok.ite (fun _ => Ok.ret trivial) fun _ => Ok.ret trivial) fun b _ => ?_
   refine Ok.ite (fun _ => ?_) fun _ => ?_
   ·exact Ok.bind (nx_ok hy.2.2 (by omega)) fun z hz => Ok.chk (sm64 (by omega) (by omega)) (Ok.chk (rm_sm (by simp; omega)) (Ok.ret ⟨ln _, hz.2.2⟩))
   ·exact Ok.bind (nx_ok hy.2.2 (by omega)) fun z hz => Ok.chk (inb_iff.2 ⟨hz.1, hz.2.1⟩) (Ok.chk (rm_sm (by simp; omega)) (Ok.ret ⟨ln _, hz.2.2⟩))
 ·refine Ok.chk (sm64 (by omega) (by omega)) (Ok.ret ?_)
  simp only [Fl.elim]
  exact ⟨⟨hj.1, by omega, hj.2⟩, by omega⟩
theorem events_ok {t : GTape} {cs : List Int} (h : TO t) (hc : 0 < cs.length) (hc2 : cs.length ≤ 1000) : Ok (F_1q t cs) fun y => TO y.2 := by
 unfold F_1q
 refine Ok.bind (nx_ok h (by omega)) fun y hy => Ok.bind (nx_ok hy.2.2 (by omega)) fun z hz => ?_
 refine Ok.bind (Ok.loop (Q := fun y : List GRefEvent × GTape => TO y.2) (fun x => 0 ≤ x.1 ∧ x.1 + 3 * x.2.1 ≤ 30 ∧ 0 ≤ x.2.1 ∧ (x.2.2.2.1.length : Int) + x.2.1 ≤ 8 ∧ TO x.2.2.2.2) (fun x => x.2.1.toNat) (fun x hx => ?_) _ ⟨hy.1, ?_, hz.1, ?_, hz.2.2⟩) fun r hr => Ok.ret hr
 ·obtain ⟨a, k, m, out, t⟩ := x
  obtain ⟨h1, h2, h3, h4, h5⟩ := hx
  simp only at h1 h2 h3 h4 h5
  unfold F_40
  refine Ok.ite (fun c => ?_) fun c => Ok.ret h5
  have c : 0 < k := of_decide_eq_true c
  refine Ok.jn (P := fun j : Int × List (Str × Bool) × List GRefEvent × GTape => 0 ≤ j.1 ∧ j.1 ≤ a + 3 ∧ (j.2.2.1.length : Int) = out.length + 1 ∧ TO j.2.2.2) ?_ fun j hj => ?_
  ·refine Ok.bind (nx_ok h5 (by omega)) fun y hy => Ok.chk (sm64 (by simp only; omega) (by simp only; omega)) (Ok.bind (nx_ok hy.2.2 (by omega)) fun z hz => Ok.chk (inb_iff.2 ⟨hz.1, hz.2.1⟩) ?_)
   refine Ok.jn (P := fun j : Bool × GTape => TO j.2) (Ok.ite (fun _ => Ok.bind (nx_ok hz.2.2 (by omega)) fun w hw => Ok.ret hw.2.2) fun _ => Ok.ret hz.2.2) fun j hj => ?_
   refine Ok.ite (fun _ => Ok.chk (rm_sm (by simp; omega)) (Ok.ret ⟨by simp only; omega, by simp only; omega, by simp, hj⟩)) fun _ => ?_
   exact Ok.bind (nx_ok hj (by omega)) fun w hw => Ok.chk (inb_iff.2 ⟨hw.1, hw.2.1⟩) (Ok.chk (rm_sm (by simp; omega)) (Ok.ret ⟨by simp only; omega, by simp only; omega, by simp, hw.2.2⟩))
  ·obtain ⟨j1, j2, j3, j4⟩ := hj
   refine Ok.chk (sm64 (by simp only; omega) (by simp only; omega)) (Ok.ret ?_)
   simp only [Fl.elim]
   exact ⟨⟨j1, by omega, by omega, by omega, j4⟩, by omega⟩
 ·simp only; omega
 ·simp only [List.length_nil]; omega
theorem vl_of {o : GObject} (h1 : Few o) (h3 : o.Items.length ≤ 64) (h4 : o.Parents.length ≤ 8) (hr : ryt o = true) : GV o := by
 refine ⟨h1, fun id hid => ?_⟩
 have hr' : ryt { o with ID := id } = true := hr
 unfold vlB
 rw [hr']
 have e : idB ({ o with ID := id } : GObject).ID = true := hid
 obtain ⟨f1, _, _, _⟩ := h1
 have c1 : decide (65536 < ((({ o with ID := id } : GObject).Data).length : Int)) = false := decide_eq_false (by show ¬ (65536 < (o.Data.length : Int)); omega)
 have c2 : decide (64 < ((({ o with ID := id } : GObject).Items).length : Int)) = false := decide_eq_false (by show ¬ (64 < (o.Items.length : Int)); omega)
 have c3 : decide (8 < ((({ o with ID := id } : GObject).Parents).length : Int)) = false := decide_eq_false (by show ¬ (8 < (o.Parents.length : Int)); omega)
 rw [e, c1, c2, c3]; rfl
theorem blob_ok {d : List UInt8} (h : d.length ≤ 100) : GV (GObject.mk 0 1 d [] 0 [] [] 0) :=
 vl_of ⟨by simp; omega, by simp, by simp, by simp⟩ (by simp) (by simp) rfl
theorem commit_ok {t m : Int} {ps : List Int} (ht : idB t = true) (h0 : 0 ≤ m) (hm : m ≤ 100) (hl : ps.length ≤ 8) (hp : ∀ x ∈ ps, idB x = true) (hn : ps.Nodup) : GV (GObject.mk 0 3 [] [] t ps [97,110,110] m) := by
 refine vl_of ⟨by simp, by simp, by simp; omega, by simp⟩ (by simp) (by simpa using hl) ?_
 have hc : coA (GObject.mk 0 3 [] [] t ps [97,110,110] m) = true := by
  unfold coA cmB
  have hnm : nmB [97,110,110] = true := by decide
  simp only [Bool.and_eq_true, decide_eq_true_eq, List.all_eq_true, List.mem_range'_1]
  refine ⟨fun i hi => ?_, ⟨ht, hnm⟩, h0, by omega⟩
  have hi' : i < ps.length := by omega
  unfold coB
  have e : ps.getD i default = ps[i] := by simp [hi']
  rw [e, Bool.and_eq_true]
  refine ⟨hp _ (List.getElem_mem hi'), ?_⟩
  simp only [List.all_eq_true, List.mem_range'_1]
  intro j hj
  have hj' : j < ps.length := by omega
  have e2 : ps.getD j default = ps[j] := by simp [hj']
  unfold duB
  rw [e, e2, Bool.not_eq_true', decide_eq_false_iff_not]
  intro he
  have := (List.getElem_inj hn).1 he
  omega
 unfold ryt
 rw [hc]; rfl
theorem names_ok {l : List Str} (h : l.Sublist [[97],[98],[100]]) : l = [] ∨ l = [[97]] ∨ l = [[98]] ∨ l = [[100]] ∨ l = [[97],[98]] ∨ l = [[97],[100]] ∨ l = [[98],[100]] ∨ l = [[97],[98],[100]] := by
 rw [List.sublist_cons_iff] at h
 rcases h with h | ⟨r, rfl, h⟩ <;> rw [List.sublist_cons_iff] at h <;> rcases h with h | ⟨r', rfl, h⟩ <;> rw [List.sublist_cons_iff] at h <;> rcases h with h | ⟨r'', rfl, h⟩ <;> rw [List.sublist_nil] at h <;> subst h <;> simp
end Go.Ab
namespace Go.Ab
theorem tree_ok {xs : List GItem} (hn : (xs.map (·.Name)).Sublist [[97],[98],[100]]) (hi : ∀ x ∈ xs, idB x.ID = true) : GV (GObject.mk 0 2 [] xs 0 [] [] 0) := by
 have hl : xs.length ≤ 3 := by have := hn.length_le; simpa using this
 refine vl_of ⟨by simp, by simp; omega, by simp, by simp⟩ (by simp; omega) (by simp) ?_
 have n1 : nmB [97] = true := by decide
 have n2 : nmB [98] = true := by decide
 have n3 : nmB [100] = true := by decide
 have l1 : Op.bytesLess [97] [98] = true := by decide
 have l2 : Op.bytesLess [97] [100] = true := by decide
 have l3 : Op.bytesLess [98] [100] = true := by decide
 have ht : trA (GObject.mk 0 2 [] xs 0 [] [] 0) = true := by
  have hc := names_ok hn
  unfold trA
  match xs, hi, hc with
  | [], _, _ => rfl
  | [x], hi, hc =>
   have h1 := hi x (by simp)
   simp only [List.map_cons, List.map_nil] at hc
   rcases hc with hc | hc | hc | hc | hc | hc | hc | hc <;> simp at hc <;> simp [List.range', trB, hc, n1, n2, n3, h1]
  | [x, y], hi, hc =>
   have h1 := hi x (by simp)
   have h2 := hi y (by simp)
   simp only [List.map_cons, List.map_nil] at hc
   rcases hc with hc | hc | hc | hc | hc | hc | hc | hc <;> simp at hc <;> simp [List.range', trB, hc.1, hc.2, n1, n2, n3, l1, l2, l3, h1, h2]
  | [x, y, z], hi, hc =>
   have h1 := hi x (by simp)
   have h2 := hi y (by simp)
   have h3 := hi z (by simp)
   simp only [List.map_cons, List.map_nil] at hc
   rcases hc with hc | hc | hc | hc | hc | hc | hc | hc <;> simp at hc <;> simp [List.range', trB, hc.1, hc.2.1, hc.2.2, n1, n2, n3, l1, l2, l3, h1, h2, h3]
  | _ :: _ :: _ :: _ :: _, hi, hc => simp at hc
 unfold ryt
 rw [ht]; rfl
end Go.Ab
namespace Go.Ab
theorem idB_app {l : List Int} {n : Int} (h : ∀ z ∈ l, idB z = true) (hn : idB n = true) : ∀ z ∈ l ++ [n], idB z = true := fun z hz => by
 rcases List.mem_append.1 hz with hz | hz
 ·exact h z hz
 ·simp at hz; subst hz; exact hn
theorem idB_getD {l : List Int} (h : ∀ z ∈ l, idB z = true) {i : Nat} (hi : i < l.length) : idB (l.getD i default) = true := by
 have e : l.getD i default = l[i] := by simp [hi]
 rw [e]; exact h _ (List.getElem_mem hi)
end Go.Ab
