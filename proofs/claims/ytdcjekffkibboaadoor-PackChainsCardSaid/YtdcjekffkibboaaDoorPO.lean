/- Plain forms of the checks of objects. -/
import Derived.Test.YtdcjekffkibboaaDoorLA
import Derived.Test.YtdcjekffkibboaaDoorAbHo
import Derived.Test.YtdcjekffkibboaaDoorAbStr
import Derived.Test.YtdcjekffkibboaaDoorLC
import Derived.KernelRfl
set_option linter.all false
set_option linter.all false
namespace Go.Ab
theorem forL_allN {α ρ : Type} {body : Int → α → Unit → Option (Fl Unit ρ)} {p : Nat → Bool} {r : ρ} : ∀ (xs : List α) (k : Nat), (∀ i (hi : i < xs.length), body ((k + i : Nat) : Int) xs[i] () = some (bif p (k + i) then .nx () else .ex r)) →
  forL body xs k () = some (bif (List.range' k xs.length).all p then .nx () else .ex r)
 | [], k, h => rfl
 | x :: q, k, h => by
  have h0 := h 0 (by simp)
  simp only [Nat.add_zero, List.getElem_cons_zero] at h0
  simp only [forL, h0, Option.bind_some, List.length_cons, List.range'_succ, List.all_cons]
  cases hp : p k with
  | false => rfl
  | true =>
   have := forL_allN q (k + 1) fun i hi => by
    have := h (i + 1) (by simpa using hi)
    rw [show k + 1 + i = k + (i + 1) by omega]
    simpa using this
   simpa [Fl.elim] using this
theorem forL_all0 {α ρ : Type} {body : Int → α → Unit → Option (Fl Unit ρ)} {p : Nat → Bool} {r : ρ} (xs : List α) (h : ∀ i (hi : i < xs.length), body (i : Int) xs[i] () = some (bif p i then .nx () else .ex r)) :
  forL body xs 0 () = some (bif (List.range' 0 xs.length).all p then .nx () else .ex r) := forL_allN xs 0 fun i hi => by simpa using h i hi
def idB (n : Int) : Bool := decide (1 ≤ n) && decide (n ≤ 1073741824)
def chB (s : Str) (i : Nat) : Bool := !(decide (((s.getD i 0).toNat : Int) < 33) || decide (126 < ((s.getD i 0).toNat : Int)) || decide (((s.getD i 0).toNat : Int) = 47))
def nmB (s : Str) : Bool := (List.range' 0 s.length).all (chB s) && (decide (1 ≤ (s.length : Int)) && decide ((s.length : Int) ≤ 40))
theorem number_eq (n : Int) : F_2 n = some (idB n) := rfl
theorem name_eq (s : Str) : F_k s = some (nmB s) := by
 unfold F_k
 rw [forL_all0 (p := chB s) (r := false) s fun i hi => by
  have : s.getD i 0 = s[i] := by simp [hi]
  simp only [F_1j, chB, this, grp]
  cases decide ((s[i].toNat : Int) < 33) <;> cases decide (126 < (s[i].toNat : Int)) <;> cases decide ((s[i].toNat : Int) = 47) <;> rfl]
 unfold nmB grp
 cases (List.range' 0 s.length).all (chB s) <;> rfl
def trB (l : List GItem) (i : Nat) : Bool := nmB (l.getD i default).Name && (idB (l.getD i default).ID && (decide (i = 0) || Op.bytesLess (l.getD (i - 1) default).Name (l.getD i default).Name))
theorem tree_eq {o : GObject} (h : o.Items.length ≤ 1000) : F_10 o = some ((List.range' 0 o.Items.length).all (trB o.Items)) := by
 unfold F_10
 rw [forL_all0 (p := trB o.Items) (r := false) o.Items fun i hi => by
  have e1 : o.Items.getD i default = o.Items[i] := by simp [hi]
  simp only [F_1k, trB, name_eq, number_eq, Option.bind_some, e1]
  cases nmB o.Items[i].Name with
  | false => rfl
  | true =>
   cases idB o.Items[i].ID with
   | false => rfl
   | true =>
    by_cases h0 : i = 0
    ·subst h0; rfl
    ·have c : decide ((0 : Int) < (i : Int)) = true := by simp; omega
     have e : ((i : Int) - 1).toNat = i - 1 := by omega
     have c1 : in64 ((i : Int) - 1) = true := in64_iff.2 ⟨by omega, by omega⟩
     have c2 : inb ((i : Int) - 1) o.Items.length = true := inb_iff.2 ⟨by omega, by omega⟩
     have c4 : decide (i = 0) = false := by simpa using h0
     simp only [c, c1, c2, c4, e, chk, cond_true, Bool.not_true, cond_false, Bool.true_and, Bool.false_or]
     cases Op.bytesLess (o.Items.getD (i - 1) default).Name o.Items[i].Name <;> rfl]
 cases (List.range' 0 o.Items.length).all (trB o.Items) <;> rfl
theorem index_eq (v : Int) : ∀ (s : List Int) (k : Int),0 ≤ k → ∃ j, 0 ≤ j ∧ forL (F_16 v) s k () = some (bif s.any (fun z => decide (v = z)) then .ex j else .nx ())
 | [], k, h => ⟨0, by omega, rfl⟩
 | x :: q, k, h => by
  simp only [forL, F_16, List.any_cons]
  by_cases hx : v = x
  ·exact ⟨k, h, by simp [hx, Fl.elim]⟩
  ·obtain ⟨j, h1, h2⟩ := index_eq v q (k + 1) (by omega)
   exact ⟨j, h1, by simpa [hx, Fl.elim] using h2⟩
theorem contains_eq (s : List Int) (v : Int) : F_d s v = some (s.any (fun z => decide (v = z))) := by
 unfold F_d F_17
 obtain ⟨j, h1, h2⟩ := index_eq v s 0 (by omega)
 rw [h2]
 cases s.any (fun z => decide (v = z)) with
 | false => rfl
 | true => simp [h1, Fl.elim]
def duB (l : List Int) (i j : Nat) : Bool := !decide (l.getD j default = l.getD i default)
def coB (l : List Int) (i : Nat) : Bool := idB (l.getD i default) && (List.range' 0 i).all (duB l i)
theorem any_take {l : List Int} {i : Nat} (hi : i < l.length) : (l.take i).any (fun z => decide (l[i] = z)) = !(List.range' 0 i).all (duB l i) := by
 have e1 : l.getD i default = l[i] := by simp [hi]
 rw [Bool.eq_iff_iff]
 simp only [List.any_eq_true, Bool.not_eq_true', List.all_eq_false, List.mem_range'_1, duB, e1, decide_eq_true_eq]
 constructor
 ·rintro ⟨z, hz, e⟩
  obtain ⟨j, hj, rfl⟩ := List.mem_take_iff_getElem.1 hz
  refine ⟨j, by omega, ?_⟩
  have : j < l.length := by omega
  simp [this, e]
 ·rintro ⟨j, hj, e⟩
  have hjl : j < l.length := by omega
  refine ⟨l[j], List.mem_take_iff_getElem.2 ⟨j, by omega, rfl⟩, ?_⟩
  have : l.getD j default = l[j] := by simp [hjl]
  rw [this] at e
  have e' : l[j] = l[i] := by simpa using e
  simpa using e'.symm
def cmB (o : GObject) : Bool := decide (0 ≤ o.Time) && decide (o.Time ≤ 1099511627776)
theorem commit_eq {o : GObject} (h : o.Parents.length ≤ 1000) : F_11 o = some ((List.range' 0 o.Parents.length).all (coB o.Parents) && (idB o.Tree && nmB o.Author && cmB o)) := by
 unfold F_11
 rw [forL_all0 (p := coB o.Parents) (r := false) o.Parents fun i hi => by
  have e1 : o.Parents.getD i default = o.Parents[i] := by simp [hi]
  have e : ((i : Int)).toNat = i := by simp
  have c : inc 0 (i : Int) o.Parents.length = true := inc_iff.2 ⟨by omega, by omega, by omega⟩
  simp only [F_1l, coB, number_eq, Option.bind_some, e1, e, c, chk, cond_true, contains_eq, any_take hi]
  cases idB o.Parents[i] with
  | false => rfl
  | true => cases (List.range' 0 i).all (duB o.Parents i) <;> rfl]
 simp only [number_eq, name_eq, grp, jn, Option.bind_some, cmB]
 cases (List.range' 0 o.Parents.length).all (coB o.Parents) <;> cases idB o.Tree <;> cases nmB o.Author <;> rfl
end Go.Ab
namespace Go.Ab
def Few (o : GObject) : Prop := o.Data.length ≤ 3000 ∧ o.Items.length ≤ 80 ∧ o.Parents.length ≤ 20 ∧ o.Author.length ≤ 100
def VO (o : GObject) : Prop := o.Kind = 1 ∨ (o.Kind = 2 ∧ ∀ x ∈ o.Items, x.Name.length ≤ 40 ∧ 0 ≤ x.ID ∧ x.ID ≤ 1073741824) ∨ (o.Kind = 3 ∧ (∀ x ∈ o.Parents, 0 ≤ x ∧ x ≤ 1073741824) ∧ 0 ≤ o.Tree ∧ o.Tree ≤ 1073741824 ∧ o.Author.length ≤ 40 ∧ 0 ≤ o.Time ∧ o.Time ≤ 1099511627776)
def trA (o : GObject) : Bool := (List.range' 0 o.Items.length).all (trB o.Items)
def coA (o : GObject) : Bool := (List.range' 0 o.Parents.length).all (coB o.Parents) && (idB o.Tree && nmB o.Author && cmB o)
def oth (o : GObject) : Bool := decide (o.Tree = 0) && decide ((o.Parents.length : Int) = 0) && decide (o.Author = []) && decide (o.Time = 0)
def ryt (o : GObject) : Bool := (decide (o.Kind = 1) && (decide ((o.Items.length : Int) = 0) && oth o)) || (decide (o.Kind = 2) && (decide ((o.Data.length : Int) = 0) && oth o && trA o)) || (decide (o.Kind = 3) && (decide ((o.Data.length : Int) = 0) && decide ((o.Items.length : Int) = 0) && coA o))
def vlB (o : GObject) : Int := bif !idB o.ID then 2 else bif decide (65536 < (o.Data.length : Int)) || decide (64 < (o.Items.length : Int)) || decide (8 < (o.Parents.length : Int)) then 3 else bif ryt o then 0 else 1
theorem pos_ne (n : Nat) : decide (0 < (n : Int)) = !decide ((n : Int) = 0) := by
 cases n with
 | zero => rfl
 | succ n =>
  have h1 : (0 : Int) < ((n + 1 : Nat) : Int) := by omega
  have h2 : ¬ ((n + 1 : Nat) : Int) = 0 := by omega
  rw [decide_eq_true h1, decide_eq_false h2]; rfl
theorem right_eq {o : GObject} (h : Few o) : F_12 o = some (ryt o) := by
 obtain ⟨h1, h2, h3, h4⟩ := h
 unfold F_12 ryt
 rw [tree_eq (by omega), commit_eq (by omega), pos_ne]
 simp only [grp, jn, Option.bind_some, oth, trA, coA]
 by_cases k1 : o.Kind = 1
 ·have k2 : ¬ o.Kind = 2 := by omega
  have k3 : ¬ o.Kind = 3 := by omega
  rw [decide_eq_true k1, decide_eq_false k2, decide_eq_false k3]
  cases decide (o.Tree = 0) <;> cases decide ((o.Parents.length : Int) = 0) <;> cases decide (o.Author = []) <;> cases decide (o.Time = 0) <;> cases decide ((o.Items.length : Int) = 0) <;> rfl
 ·by_cases k2 : o.Kind = 2
  ·have k3 : ¬ o.Kind = 3 := by omega
   rw [decide_eq_false k1, decide_eq_true k2, decide_eq_false k3]
   generalize (List.range' 0 o.Items.length).all (trB o.Items) = b
   cases decide (o.Tree = 0) <;> cases decide ((o.Parents.length : Int) = 0) <;> cases decide (o.Author = []) <;> cases decide (o.Time = 0) <;> cases decide ((o.Data.length : Int) = 0) <;> cases b <;> rfl
  ·by_cases k3 : o.Kind = 3
   ·rw [decide_eq_false k1, decide_eq_false k2, decide_eq_true k3]
    generalize ((List.range' 0 o.Parents.length).all (coB o.Parents) && (idB o.Tree && nmB o.Author && cmB o)) = b
    cases decide ((o.Items.length : Int) = 0) <;> cases decide ((o.Data.length : Int) = 0) <;> cases b <;> rfl
   ·rw [decide_eq_false k1, decide_eq_false k2, decide_eq_false k3]; rfl
theorem valid_eq {o : GObject} (h : Few o) : F_l o = some (vlB o) := by
 unfold F_l vlB
 rw [number_eq, right_eq h]
 simp only [grp, Option.bind_some]
 cases idB o.ID <;> cases decide (65536 < (o.Data.length : Int)) <;> cases decide (64 < (o.Items.length : Int)) <;> cases decide (8 < (o.Parents.length : Int)) <;> cases ryt o <;> rfl
theorem idB_iff {n : Int} (h : idB n = true) : 0 ≤ n ∧ n ≤ 1073741824 := by
 unfold idB at h; simp at h; omega
theorem nmB_len {s : Str} (h : nmB s = true) : s.length ≤ 40 := by
 unfold nmB at h; simp at h; omega
theorem getD_all {α : Type} [Inhabited α] {l : List α} {p : Nat → Bool} (h : (List.range' 0 l.length).all p = true) {x : α} (hx : x ∈ l) : ∃ i, l.getD i default = x ∧ p i = true := by
 obtain ⟨i, hi, rfl⟩ := List.getElem_of_mem hx
 refine ⟨i, by simp [hi], ?_⟩
 rw [List.all_eq_true] at h
 exact h i (by simp; exact hi)
theorem vl_VO {o : GObject} (h : vlB o = 0) : VO o := by
 have hr : ryt o = true := by
  unfold vlB at h
  cases hc : ryt o with
  | true => rfl
  | false =>
   rw [hc] at h
   revert h
   cases idB o.ID <;> cases (decide (65536 < (o.Data.length : Int)) || decide (64 < (o.Items.length : Int)) || decide (8 < (o.Parents.length : Int))) <;> exact fun h => absurd h (by decide)
 unfold ryt at hr
 have hr : ((o.Kind = 1 ∧ (decide ((o.Items.length : Int) = 0) && oth o) = true) ∨ (o.Kind = 2 ∧ (decide ((o.Data.length : Int) = 0) && oth o && trA o) = true)) ∨ (o.Kind = 3 ∧ (decide ((o.Data.length : Int) = 0) && decide ((o.Items.length : Int) = 0) && coA o) = true) := by
  rcases (Bool.or_eq_true _ _).mp hr with h | h
  ·rcases (Bool.or_eq_true _ _).mp h with h | h
   ·exact .inl (.inl ⟨of_decide_eq_true ((Bool.and_eq_true _ _).mp h).1, ((Bool.and_eq_true _ _).mp h).2⟩)
   ·exact .inl (.inr ⟨of_decide_eq_true ((Bool.and_eq_true _ _).mp h).1, ((Bool.and_eq_true _ _).mp h).2⟩)
  ·exact .inr ⟨of_decide_eq_true ((Bool.and_eq_true _ _).mp h).1, ((Bool.and_eq_true _ _).mp h).2⟩
 rcases hr with (⟨k, _⟩ | ⟨k, h2⟩) | ⟨k, h3⟩
 ·exact .inl k
 ·refine .inr (.inl ⟨k, fun x hx => ?_⟩)
  rw [Bool.and_eq_true] at h2
  obtain ⟨i, e, hp⟩ := getD_all h2.2 hx
  unfold trB at hp
  rw [e, Bool.and_eq_true, Bool.and_eq_true] at hp
  exact ⟨nmB_len hp.1, idB_iff hp.2.1⟩
 ·rw [Bool.and_eq_true] at h3
  have h4 := h3.2
  unfold coA at h4
  rw [Bool.and_eq_true, Bool.and_eq_true, Bool.and_eq_true] at h4
  obtain ⟨h5, ⟨h6, h7⟩, h8⟩ := h4
  refine .inr (.inr ⟨k, fun x hx => ?_, (idB_iff h6).1, (idB_iff h6).2, nmB_len h7, ?_⟩)
  ·obtain ⟨i, e, hp⟩ := getD_all h5 hx
   unfold coB at hp
   rw [e, Bool.and_eq_true] at hp
   exact idB_iff hp.1
  ·unfold cmB at h8; simpa using h8
end Go.Ab
namespace Go.Ab
theorem foldL_app {α : Type} {body : Int → α → List UInt8 → Option (List UInt8)} {f : α → Str} : ∀ (xs : List α) (k : Int) (s : Str), (∀ k x (s : Str), x ∈ xs → s.length ≤ 1000000 → body k x s = some (s ++ f x)) → (∀ x ∈ xs, (f x).length ≤ 1000) → s.length + 1000 * xs.length ≤ 1000000 → foldL body xs k s = some (s ++ xs.flatMap f)
 | [], k, s, h, hl, hs => by simp [foldL]
 | x :: q, k, s, h, hl, hs => by
  have h1 := hl x (by simp)
  simp only [List.length_cons] at hs
  simp only [foldL, h k x s (by simp) (by omega), Option.bind_some, List.flatMap_cons]
  rw [foldL_app q (k + 1) (s ++ f x) (fun k x s hx => h k x s (by simp [hx])) (fun x hx => hl x (by simp [hx])) (by rw [List.length_append]; omega), List.append_assoc]
theorem loop_app {α : Type} {step : Str × Int → Option (Fl (Str × Int) Str)} {f : α → Str} {all : List α} (h2 : ∀ s : Str, step (s, (all.length : Int)) = some (.ex s)) (h : ∀ (i : Nat) (hi : i < all.length) (s : Str), s.length ≤ 1000000 → step (s, (i : Int)) = some (.nx (s ++ f all[i], (i : Int) + 1))) (hl : ∀ x ∈ all, (f x).length ≤ 1000) :
  ∀ (xs : List α) (pre : List α) (s : Str), all = pre ++ xs → s.length + 1000 * xs.length ≤ 1000000 → loop step (s, (pre.length : Int)) = some (s ++ xs.flatMap f)
 | [], pre, s, e, hs => by
  have : pre.length = all.length := by rw [e]; simp
  rw [loop_eq, this, h2]; simp [Fl.elim]
 | x :: q, pre, s, e, hs => by
  have hi : pre.length < all.length := by rw [e]; simp
  have ex : all[pre.length] = x := by simp [e]
  have h1 := hl x (by rw [e]; simp)
  simp only [List.length_cons] at hs
  rw [loop_eq, h pre.length hi s (by omega), ex]
  have := loop_app h2 h hl q (pre ++ [x]) (s ++ f x) (by simp [e]) (by rw [List.length_append]; omega)
  simp only [List.length_append, List.length_cons, List.length_nil, Nat.zero_add] at this
  simpa [Fl.elim] using this
theorem strl_sm {n : Nat} (h : n ≤ 100000000) : strl n = true := strl_iff.2 (by omega)
theorem room_sO {n : Nat} (h : n ≤ 100000000) : room n 1 = true := room_iff.2 (by omega)
theorem itoa_nat (u : Nat) : Lib.itoa (u : Int) = Lib.decDigits u := by
 unfold Lib.itoa
 rw [if_neg (by omega)]; rfl
theorem itoaI_sm {n : Int} (h0 : 0 ≤ n) (h : n ≤ 1099511627776) : itoaI n = some (Lib.itoa n) := by
 unfold itoaI chk
 rw [in64_iff.2 ⟨by omega, by omega⟩]; rfl
theorem itoa_sm {n : Int} (h0 : 0 ≤ n) (h : n ≤ 1099511627776) : (Lib.itoa n).length ≤ 21 := Lib.itoa_length_le n (by omega) (by omega)
theorem dig_eq {u : Nat} : u8 (48 + ((u8 (u : Int)).toNat : Int)) = UInt8.ofNat (48 + u) := by
 apply UInt8.toNat_inj.1
 have h := u8_toNat (48 + ((u8 (u : Int)).toNat : Int))
 have h3 := u8_toNat (u : Int)
 have h2 : (UInt8.ofNat (48 + u)).toNat = (48 + u) % 256 := by simp
 rw [h2]
 omega
theorem number_ev (u : Nat) (h : u ≤ 1099511627776) : EvS (fun m => FR_m m (u : Int)) (Lib.decDigits u) := by
 induction u using Nat.strongRecOn with
 | _ u ih =>
  by_cases c : u < 10
  ·refine ⟨1, fun m hm => ?_⟩
   obtain ⟨m, rfl⟩ : ∃ k, m = k + 1 := ⟨m - 1, by omega⟩
   have c' : decide ((u : Int) < 10) = true := by simp; omega
   simp only [FR_m]
   rw [c', Lib.decDigits, dif_pos c, dig_eq]
   rfl
  ·obtain ⟨n, hn⟩ := ih (u / 10) (by omega) (by omega)
   refine ⟨n + 1, fun m hm => ?_⟩
   obtain ⟨m, rfl⟩ : ∃ k, m = k + 1 := ⟨m - 1, by omega⟩
   have c' : decide ((u : Int) < 10) = false := by simp; omega
   have c2 : divs (u : Int) 10 = true := divs_iff.2 ⟨by omega, by omega⟩
   have e1 : (u : Int) / 10 = ((u / 10 : Nat) : Int) := by omega
   have e2 : (u : Int) % 10 = ((u % 10 : Nat) : Int) := by omega
   have hl : (Lib.decDigits (u / 10)).length ≤ 21 := by rw [← itoa_nat]; exact itoa_sm (by omega) (by omega)
   simp only [FR_m]
   have := hn m (by omega)
   simp only at this
   have hd : Lib.decDigits u = Lib.decDigits (u / 10) ++ [UInt8.ofNat (48 + u % 10)] := by
    rw [Lib.decDigits, dif_neg c]
   rw [c', c2, e1, e2, this, hd]
   simp only [dig_eq]
   simp only [cond_false, chk, cond_true, Option.bind_some]
   rw [strl_sm (by simp; omega)]
   rfl
theorem rnumber_eq {n : Int} (h0 : 0 ≤ n) (h : n ≤ 1099511627776) : F_m n = some (Lib.itoa n) := by
 obtain ⟨u, rfl⟩ : ∃ u : Nat, n = u := ⟨n.toNat, by omega⟩
 rw [itoa_nat]
 exact lim_of (number_ev u (by omega))
def itB (x : GItem) : Str := ((Lib.itoa x.ID ++ [32]) ++ x.Name) ++ [10]
def paB (n : Int) : Str := ([112,97,114,101,110,116,32] ++ Lib.itoa n) ++ [10]
theorem bws_sm {b s : Str} (h : b.length + s.length ≤ 100000000) : bws b s = some (b ++ s) := by
 unfold bws chk
 rw [room_sO h]; rfl
theorem write1_eq {w r p : Str} (h1 : w.length ≤ 1000) (h2 : r.length ≤ 1000) (h3 : p.length ≤ 10000000) : F_1 w r p = some (p ++ (((w ++ [32]) ++ r) ++ [10])) := by
 unfold F_1 chk
 rw [strl_sm (by simp; omega), strl_sm (by simp; omega), strl_sm (by simp; omega), bws_sm (by simp; omega)]
 rfl
def txt (o : GObject) : Str := bif decide (o.Kind = 1) then [98,108,111,98,10] ++ o.Data else bif decide (o.Kind = 2) then [116,114,101,101,10] ++ o.Items.flatMap itB else ((((((([99,111,109,109,105,116,10,116,114,101,101,32] ++ Lib.itoa o.Tree) ++ [10]) ++ o.Parents.flatMap paB) ++ [97,117,116,104,111,114,32]) ++ o.Author) ++ [10,116,105,109,101,32]) ++ Lib.itoa o.Time) ++ [10]
theorem write_txt {o : GObject} (hf : Few o) (h : VO o) : F_f o = some (txt o) ∧ F_1t o = some (txt o) := by
 obtain ⟨f1, f2, f3, f4⟩ := hf
 rcases h with k | ⟨k, hi⟩ | ⟨k, hp, t1, t2, a1, m1, m2⟩
 ·have et : txt o = [98,108,111,98,10] ++ o.Data := by unfold txt; rw [decide_eq_true k]; rfl
  rw [et]
  refine ⟨?_, ?_⟩
  ·unfold F_f chk
   rw [decide_eq_true k, room_sO (by simp; omega)]; rfl
  ·unfold F_1t chk
   rw [decide_eq_true k, room_sO (by simp; omega)]; rfl
 ·have hl : ∀ x ∈ o.Items, (itB x).length ≤ 1000 := fun x hx => by
   have h1 := hi x hx
   have h2 := itoa_sm h1.2.1 (by omega)
   simp [itB]; omega
  have et : txt o = [116,114,101,101,10] ++ o.Items.flatMap itB := by unfold txt; rw [decide_eq_false (by omega), decide_eq_true k]; rfl
  rw [et]
  refine ⟨?_, ?_⟩
  ·unfold F_f
   rw [decide_eq_false (by omega), decide_eq_true k]
   simp only [cond_true, cond_false]
   rw [bws_sm (by simp)]
   simp only [Option.bind_some, List.nil_append]
   rw [foldL_app (f := itB) o.Items 0 _ (fun k x s hx hs => by
    have h1 := hi x hx
    have h2 := itoa_sm h1.2.1 (by omega)
    simp only [F_1m]
    rw [itoaI_sm h1.2.1 (by omega)]
    simp only [Option.bind_some]
    rw [write1_eq (by omega) (by omega) (by omega)]
    rfl) hl (by simp; omega)]
   rfl
  ·unfold F_1t
   rw [decide_eq_false (by omega), decide_eq_true k]
   simp only [cond_true, cond_false]
   have := loop_app (step := F_1r o) (f := itB) (all := o.Items) (fun s => by unfold F_1r; rw [dlt]; rfl) (fun i hi' s hs => by
    have hx := List.getElem_mem hi'
    have h1 := hi _ hx
    have h2 := itoa_sm h1.2.1 (by omega)
    have e1 : o.Items.getD i default = o.Items[i] := by simp [hi']
    have e : ((i : Int)).toNat = i := by simp
    have c : decide ((i : Int) < (o.Items.length : Int)) = true := by simpa using hi'
    have c2 : inb (i : Int) o.Items.length = true := kB hi'
    have c3 : in64 ((i : Int) + 1) = true := in64_iff.2 ⟨by omega, by omega⟩
    unfold F_1r
    simp only [e, e1, c, c2, c3, chk, cond_true]
    rw [rnumber_eq h1.2.1 (by omega)]
    simp only [Option.bind_some]
    rw [strl_sm (by simp; omega), strl_sm (by simp; omega), strl_sm (by simp; omega), strl_sm (by simp; omega)]
    rfl) hl o.Items [] [116,114,101,101,10] rfl (by simp; omega)
   simp only [List.length_nil, Int.natCast_zero] at this
   rw [this]; rfl
 ·have hl : ∀ x ∈ o.Parents, (paB x).length ≤ 1000 := fun x hx => by
   have h1 := hp x hx
   have h2 := itoa_sm h1.1 (by omega)
   simp [paB]; omega
  have ht := itoa_sm t1 (by omega)
  have hm := itoa_sm m1 (by omega)
  have hfl : (o.Parents.flatMap paB).length ≤ 1000 * o.Parents.length := by
   have : ∀ xs : List Int, (∀ x ∈ xs, (paB x).length ≤ 1000) → (xs.flatMap paB).length ≤ 1000 * xs.length := fun xs => by
    induction xs with
    | nil => intro _; simp
    | cons x q ih => intro h; have := h x (by simp); have := ih fun x hx => h x (by simp [hx]); simp only [List.flatMap_cons, List.length_append, List.length_cons]; omega
   exact this _ hl
  have hs0 : (([99,111,109,109,105,116,10,116,114,101,101,32] ++ Lib.itoa o.Tree) ++ [10]).length ≤ 34 := by simp; omega
  have et : txt o = ((((((([99,111,109,109,105,116,10,116,114,101,101,32] ++ Lib.itoa o.Tree) ++ [10]) ++ o.Parents.flatMap paB) ++ [97,117,116,104,111,114,32]) ++ o.Author) ++ [10,116,105,109,101,32]) ++ Lib.itoa o.Time) ++ [10] := by unfold txt; rw [decide_eq_false (by omega), decide_eq_false (by omega)]; rfl
  rw [et]
  refine ⟨?_, ?_⟩
  ·unfold F_f
   rw [decide_eq_false (by omega), decide_eq_false (by omega)]
   simp only [cond_true, cond_false]
   rw [bws_sm (by simp), itoaI_sm t1 (by omega)]
   simp only [Option.bind_some, List.nil_append]
   rw [write1_eq (by simp) (by omega) (by simp)]
   simp only [Option.bind_some]
   rw [foldL_app (f := paB) o.Parents 0 _ (fun k x s hx hs => by
    have h1 := hp x hx
    have h2 := itoa_sm h1.1 (by omega)
    simp only [F_1n]
    rw [itoaI_sm h1.1 (by omega)]
    simp only [Option.bind_some]
    rw [write1_eq (by simp) (by omega) (by omega)]
    rfl) hl (by simp; omega)]
   simp only [Option.bind_some]
   rw [write1_eq (by simp) (by omega) (by simp only [List.length_append, List.length_cons, List.length_nil]; omega)]
   simp only [Option.bind_some]
   rw [itoaI_sm m1 m2]
   simp only [Option.bind_some]
   rw [write1_eq (by simp) (by omega) (by simp only [List.length_append, List.length_cons, List.length_nil]; omega)]
   simp only [Option.bind_some, bstr]
   simp
  ·unfold F_1t
   rw [decide_eq_false (by omega), decide_eq_false (by omega)]
   simp only [cond_true, cond_false]
   rw [rnumber_eq t1 (by omega)]
   simp only [Option.bind_some, chk]
   rw [strl_sm (by simp; omega), strl_sm (by simp; omega)]
   simp only [cond_true]
   have := loop_app (step := F_1s o) (f := paB) (all := o.Parents) (fun s => by unfold F_1s; rw [dlt]; rfl) (fun i hi' s hs => by
    have hx := List.getElem_mem hi'
    have h1 := hp _ hx
    have h2 := itoa_sm h1.1 (by omega)
    have e1 : o.Parents.getD i default = o.Parents[i] := by simp [hi']
    have e : ((i : Int)).toNat = i := by simp
    have c : decide ((i : Int) < (o.Parents.length : Int)) = true := by simpa using hi'
    have c2 : inb (i : Int) o.Parents.length = true := kB hi'
    have c3 : in64 ((i : Int) + 1) = true := in64_iff.2 ⟨by omega, by omega⟩
    unfold F_1s
    simp only [e, e1, c, c2, c3, chk, cond_true]
    rw [rnumber_eq h1.1 (by omega)]
    simp only [Option.bind_some]
    rw [strl_sm (by simp; omega), strl_sm (by simp; omega), strl_sm (by simp; omega)]
    rfl) hl o.Parents [] (([99,111,109,109,105,116,10,116,114,101,101,32] ++ Lib.itoa o.Tree) ++ [10]) rfl (by omega)
   simp only [List.length_nil, Int.natCast_zero] at this
   rw [this]
   simp only [Option.bind_some]
   rw [strl_sm (by simp only [List.length_append, List.length_cons, List.length_nil]; omega), strl_sm (by simp only [List.length_append, List.length_cons, List.length_nil]; omega), strl_sm (by simp only [List.length_append, List.length_cons, List.length_nil]; omega), rnumber_eq m1 m2]
   simp only [Option.bind_some, cond_true]
   rw [strl_sm (by simp only [List.length_append, List.length_cons, List.length_nil]; omega), strl_sm (by simp only [List.length_append, List.length_cons, List.length_nil]; omega)]
   rfl
end Go.Ab
namespace Go.Ab
theorem linesL_app : ∀ (l r : Str), (∀ c ∈ l, c ≠ 10) → linesL (l ++ 10 :: r) = (l ++ [10]) :: linesL r
 | [], r, _ => rfl
 | c :: l, r, h => by
  have hc : (c == 10) = false := by simpa using h c (by simp)
  have ih := linesL_app l r fun c hc => h c (by simp [hc])
  simp only [List.cons_append, linesL, hc, cond_false]
  rw [ih]
theorem index_app (c : UInt8) : ∀ (l r : Str), (∀ x ∈ l, x ≠ c) → Lib.indexByte (l ++ c :: r) c = l.length
 | [], r, _ => by simp [Lib.indexByte]
 | x :: l, r, h => by
  have hx : (x == c) = false := by simpa using h x (by simp)
  have ih := index_app c l r fun y hy => h y (by simp [hy])
  simp only [List.cons_append, Lib.indexByte, hx, ih, List.length_cons]
  have : ¬ ((l.length : Int) == -1) = true := by simp
  simp [this]
theorem dig_bounds (u : Nat) : ∀ c ∈ Lib.decDigits u, 48 ≤ c.toNat ∧ c.toNat ≤ 57 := by
 induction u using Nat.strongRecOn with
 | _ u ih =>
  intro c hc
  rw [Lib.decDigits] at hc
  split at hc
  ·rename_i h
   simp at hc; subst hc
   simp; omega
  ·rcases List.mem_append.1 hc with hc | hc
   ·exact ih (u / 10) (by omega) c hc
   ·simp at hc; subst hc
    simp; omega
theorem parse_dig (u : Nat) (h : u ≤ 1099511627776) (l : Str) : Lib.parseUint10 0 (Lib.decDigits u ++ l) = Lib.parseUint10 u l := by
 induction u using Nat.strongRecOn generalizing l with
 | _ u ih =>
  rw [Lib.decDigits]
  split
  ·rename_i hu
   have e : (UInt8.ofNat (48 + u)).toNat = 48 + u := by simp; omega
   simp only [List.cons_append, List.nil_append, Lib.parseUint10, e]
   rw [if_pos (by omega), if_neg (by omega), if_neg (by omega)]
   congr 1; omega
  ·rename_i hu
   rw [List.append_assoc, ih (u / 10) (by omega) (by omega)]
   have e : (UInt8.ofNat (48 + u % 10)).toNat = 48 + u % 10 := by simp; omega
   simp only [List.cons_append, List.nil_append, Lib.parseUint10, e]
   rw [if_pos (by omega), if_neg (by omega), if_neg (by omega)]
   congr 1; omega
theorem atoiV_itoa {n : Int} (h0 : 0 ≤ n) (h : n ≤ 1099511627776) : atoiV (Lib.itoa n) = n := by
 obtain ⟨u, rfl⟩ : ∃ u : Nat, n = u := ⟨n.toNat, by omega⟩
 rw [itoa_nat]
 have hb := dig_bounds u
 have hp := parse_dig u (by omega) []
 rw [List.append_nil] at hp
 have hne : Lib.decDigits u ≠ [] := by rw [Lib.decDigits]; split <;> simp
 unfold atoiV
 cases hd : Lib.decDigits u with
 | nil => exact absurd hd hne
 | cons c r =>
  have h1 := hb c (by rw [hd]; simp)
  rw [Lib.atoiAll_plain c r (by omega) (by omega)]
  have hm : Lib.parseMag (c :: r) = .ok u := by
   unfold Lib.parseMag
   rw [if_neg (by simp), ← hd, hp]; rfl
  rw [hm]
  simp only [Lib.signless]
  rw [if_neg (by omega)]
theorem atoiI_itoa {n : Int} (h0 : 0 ≤ n) (h : n ≤ 1099511627776) : atoiI (Lib.itoa n) = some n := by
 unfold atoiI chk
 have := itoa_sm h0 h
 rw [decide_eq_true (by omega), atoiV_itoa h0 h]; rfl
theorem trim_eq {l : Str} (h : l.length ≤ 1000000) : F_i (l ++ [10]) [10] = some l := by
 unfold F_i F_1b F_1a
 have e1 : decide ((([10] : Str).length : Int) ≤ ((l ++ [10]).length : Int)) = true := by simp; omega
 have e2 : ((l ++ [10]).length : Int) - (([10] : Str).length : Int) = l.length := by simp
 have c1 : in64 (l.length : Int) = true := in64_iff.2 ⟨by omega, by omega⟩
 have c2 : inc (l.length : Int) ((l ++ [10]).length : Int) (l ++ [10]).length = true := inc_iff.2 ⟨by omega, by simp; omega, by omega⟩
 have c3 : inc 0 (l.length : Int) (l ++ [10]).length = true := inc_iff.2 ⟨by omega, by omega, by simp; omega⟩
 have e3 : ((l.length : Int)).toNat = l.length := by simp
 have e4 : (l ++ [10]).drop l.length = [10] := by simp
 have e5 : (l ++ [10]).take l.length = l := by simp
 rw [e1, e2]
 simp only [cond_true, chk, c1, c2, c3, e3, e4, e5, jn, Option.bind_some, decide_true]
theorem cut_eq {l r : Str} (h : ∀ c ∈ l, c ≠ 32) (hl : (l ++ 32 :: r).length ≤ 1000000) : F_j (l ++ 32 :: r) [32] = some (l, r, true) := by
 unfold F_j F_1c
 have ei : ix1 (l ++ 32 :: r) [32] = some (l.length : Int) := by
  show some (Lib.indexByte (l ++ 32 :: r) 32) = _
  rw [index_app 32 l r h]
 rw [ei]
 have c0 : decide ((0 : Int) ≤ (l.length : Int)) = true := by simp
 have hl2 : l.length + 1 ≤ (l ++ 32 :: r).length := by simp
 have c1 : inc 0 (l.length : Int) (l ++ 32 :: r).length = true := inc_iff.2 ⟨by omega, by omega, by omega⟩
 have e2 : (l.length : Int) + (([32] : Str).length : Int) = l.length + 1 := by simp
 have c2 : in64 ((l.length : Int) + 1) = true := in64_iff.2 ⟨by omega, by omega⟩
 have c3 : inc ((l.length : Int) + 1) ((l ++ 32 :: r).length : Int) (l ++ 32 :: r).length = true := inc_iff.2 ⟨by omega, by omega, by omega⟩
 have e3 : ((l.length : Int)).toNat = l.length := by simp
 have e4 : ((l.length : Int) + 1).toNat = l.length + 1 := by omega
 have e5 : (l ++ 32 :: r).take l.length = l := by simp
 have e6 : (l ++ 32 :: r).drop (l.length + 1) = r := by
  rw [List.drop_append]; simp
 simp only [Option.bind_some, c0, cond_true, chk, c1, e2, c2, c3, e3, e4, e5, e6]
end Go.Ab
namespace Go.Ab
theorem dig_ne {n : Int} (h0 : 0 ≤ n) : ∀ c ∈ Lib.itoa n, c ≠ 10 ∧ c ≠ 32 := by
 obtain ⟨u, rfl⟩ : ∃ u : Nat, n = u := ⟨n.toNat, by omega⟩
 rw [itoa_nat]
 intro c hc
 have := dig_bounds u c hc
 exact ⟨fun e => by subst e; simp at this, fun e => by subst e; simp at this⟩
theorem nm_ne {s : Str} (h : nmB s = true) : ∀ c ∈ s, c ≠ 10 ∧ c ≠ 32 := by
 intro c hc
 unfold nmB at h
 rw [Bool.and_eq_true] at h
 obtain ⟨i, hi, rfl⟩ := List.getElem_of_mem hc
 have h1 := (List.all_eq_true.1 h.1) i (by simp; exact hi)
 have e : s.getD i 0 = s[i] := by simp [hi]
 unfold chB at h1
 rw [e] at h1
 simp at h1
 have h2 := h1.1.1
 exact ⟨fun e => by rw [e] at h2; simp at h2, fun e => by rw [e] at h2; simp at h2⟩
def iOK (x : GItem) : Prop := (∀ c ∈ x.Name, c ≠ 10 ∧ c ≠ 32) ∧ x.Name.length ≤ 40 ∧ 0 ≤ x.ID ∧ x.ID ≤ 1073741824
theorem lines_items : ∀ (xs : List GItem), (∀ x ∈ xs, iOK x) → linesL (xs.flatMap itB) = xs.map itB
 | [], _ => rfl
 | x :: r, h => by
  have hx := h x (by simp)
  rw [List.flatMap_cons, List.map_cons]
  have e : itB x ++ r.flatMap itB = (Lib.itoa x.ID ++ 32 :: x.Name) ++ 10 :: r.flatMap itB := by simp [itB]
  have e2 : itB x = (Lib.itoa x.ID ++ 32 :: x.Name) ++ [10] := by simp [itB]
  rw [e, linesL_app _ _ (fun c hc => ?_), lines_items r fun y hy => h y (by simp [hy]), e2]
  rcases List.mem_append.1 hc with hc | hc
  ·exact (dig_ne hx.2.2.1 c hc).1
  ·rcases List.mem_cons.1 hc with rfl | hc
   ·decide
   ·exact (hx.1 c hc).1
theorem readItems : ∀ (xs : List GItem) (k : Int) (out : List GItem), (∀ x ∈ xs, iOK x) → out.length + xs.length ≤ 1000 → forL F_1q (xs.map itB) k out = some (.nx (out ++ xs))
 | [], k, out, _, _ => by simp [forL]
 | x :: r, k, out, h, hl => by
  obtain ⟨h1, h2, h3, h4⟩ := h x (by simp)
  have ht := itoa_sm h3 (by omega)
  simp only [List.length_cons] at hl
  have e2 : itB x = (Lib.itoa x.ID ++ 32 :: x.Name) ++ [10] := by simp [itB]
  have hb : F_1q k (itB x) out = some (.nx (out ++ [x])) := by
   unfold F_1q
   rw [e2, trim_eq (by simp; omega)]
   simp only [Option.bind_some]
   rw [cut_eq (fun c hc => (dig_ne h3 c hc).2) (by simp; omega)]
   simp only [Option.bind_some]
   rw [atoiI_itoa h3 (by omega)]
   simp only [Option.bind_some, chk]
   rw [room_iff.2 (by simp; omega)]
   rfl
  simp only [List.map_cons, forL, hb, Option.bind_some]
  have := readItems r (k + 1) (out ++ [x]) (fun y hy => h y (by simp [hy])) (by simp; omega)
  simpa [Fl.elim] using this
theorem readTree_eq {xs : List GItem} (h : ∀ x ∈ xs, iOK x) (hl : xs.length ≤ 1000) : F_y (xs.flatMap itB) = some (GObject.mk 0 2 [] xs 0 [] [] 0) := by
 unfold F_y linF
 rw [lines_items xs h, readItems xs 0 [] h (by simpa using hl)]
 rfl
theorem line_step {w r : Str} {y : Int} (hw : ∀ c ∈ w, c ≠ 32) (hl : (w ++ 32 :: r).length ≤ 100000) (ha : atoiI r = some y) (k : Int) (x : Int × Str × Int × List Int) : F_1p k ((w ++ 32 :: r) ++ [10]) x =
  bif decide (w = [116,114,101,101]) then some (.nx (y, x.2.1, x.2.2.1, x.2.2.2)) else bif decide (w = [112,97,114,101,110,116]) then chk (room (x.2.2.2.length + [y].length) 8) (some (.nx (x.1, x.2.1, x.2.2.1, (x.2.2.2 ++ [y])))) else bif decide (w = [97,117,116,104,111,114]) then some (.nx (x.1, r, x.2.2.1, x.2.2.2)) else bif decide (w = [116,105,109,101]) then some (.nx (x.1, x.2.1, y, x.2.2.2)) else some (.nx (x.1, x.2.1, x.2.2.1, x.2.2.2)) := by
 conv => lhs; unfold F_1p
 rw [trim_eq (by omega)]
 simp only [Option.bind_some]
 rw [cut_eq hw (by omega)]
 simp only [Option.bind_some]
 rw [ha]; rfl
end Go.Ab
namespace Go.Ab
theorem atoi_some {r : Str} (h : r.length ≤ 1000) : ∃ y, atoiI r = some y := by
 unfold atoiI chk
 rw [decide_eq_true (by omega)]
 exact ⟨_, rfl⟩
theorem paB_eq (n : Int) : paB n = ([112,97,114,101,110,116] ++ 32 :: Lib.itoa n) ++ [10] := by simp [paB]
theorem lines_pars (t : Str) : ∀ (xs : List Int), (∀ x ∈ xs, 0 ≤ x) → linesL (xs.flatMap paB ++ t) = xs.map paB ++ linesL t
 | [], _ => rfl
 | x :: r, h => by
  have hx := h x (by simp)
  rw [List.flatMap_cons, List.map_cons]
  have e : (paB x ++ r.flatMap paB) ++ t = ([112,97,114,101,110,116] ++ 32 :: Lib.itoa x) ++ 10 :: (r.flatMap paB ++ t) := by simp [paB]
  rw [e, linesL_app _ _ (fun c hc => ?_), lines_pars t r fun y hy => h y (by simp [hy]), paB_eq]
  ·rfl
  rcases List.mem_append.1 hc with hc | hc
  ·have : ∀ c ∈ ([112,97,114,101,110,116] : Str), c ≠ 10 := by decide
   exact this c hc
  ·rcases List.mem_cons.1 hc with rfl | hc
   ·decide
   ·exact (dig_ne hx c hc).1
theorem forL_app' {α σ ρ : Type} {body : Int → α → σ → Option (Fl σ ρ)} : ∀ (xs ys : List α) (k : Int) (s s' : σ), forL body xs k s = some (.nx s') → forL body (xs ++ ys) k s = forL body ys (k + xs.length) s'
 | [], ys, k, s, s', h => by
  simp only [forL] at h; cases h; simp
 | x :: r, ys, k, s, s', h => by
  simp only [forL, List.cons_append] at h ⊢
  cases hb : body k x s with
  | none => rw [hb] at h; cases h
  | some o =>
   rw [hb] at h
   simp only [Option.bind_some] at h ⊢
   cases o with
   | ex e => cases h
   | nx s1 =>
    simp only [Fl.elim] at h ⊢
    rw [forL_app' r ys (k + 1) s1 s' h]
    congr 1
    simp; omega
theorem readPars : ∀ (xs : List Int) (k : Int) (t : Int) (a : Str) (m : Int) (out : List Int), (∀ x ∈ xs, 0 ≤ x ∧ x ≤ 1073741824) → out.length + xs.length ≤ 1000 → forL F_1p (xs.map paB) k (t, a, m, out) = some (.nx (t, a, m, out ++ xs))
 | [], k, t, a, m, out, _, _ => by simp [forL]
 | x :: r, k, t, a, m, out, h, hl => by
  obtain ⟨h3, h4⟩ := h x (by simp)
  have ht := itoa_sm h3 (by omega)
  simp only [List.length_cons] at hl
  have hb : F_1p k (paB x) (t, a, m, out) = some (.nx (t, a, m, out ++ [x])) := by
   rw [paB_eq, line_step (by decide) (by simp; omega) (atoiI_itoa h3 (by omega))]
   simp only [show decide (([112,97,114,101,110,116] : Str) = [116,114,101,101]) = false by decide, decide_true, cond_false, cond_true, chk]
   rw [room_iff.2 (by simp; omega)]
   rfl
  simp only [List.map_cons, forL, hb, Option.bind_some]
  have := readPars r (k + 1) t a m (out ++ [x]) (fun y hy => h y (by simp [hy])) (by simp; omega)
  simpa [Fl.elim] using this
theorem readCommit_eq {o : GObject} (hp : ∀ x ∈ o.Parents, 0 ≤ x ∧ x ≤ 1073741824) (hl : o.Parents.length ≤ 900) (t1 : 0 ≤ o.Tree) (t2 : o.Tree ≤ 1073741824) (a1 : ∀ c ∈ o.Author, c ≠ 10 ∧ c ≠ 32) (a2 : o.Author.length ≤ 40) (m1 : 0 ≤ o.Time) (m2 : o.Time ≤ 1099511627776) :
  F_z ((((((([116,114,101,101,32] ++ Lib.itoa o.Tree) ++ [10]) ++ o.Parents.flatMap paB) ++ [97,117,116,104,111,114,32]) ++ o.Author) ++ [10,116,105,109,101,32]) ++ Lib.itoa o.Time ++ [10]) = some (GObject.mk 0 3 [] [] o.Tree o.Parents o.Author o.Time) := by
 have ht := itoa_sm t1 (by omega)
 have hm := itoa_sm m1 (by omega)
 have e : (((((([116,114,101,101,32] ++ Lib.itoa o.Tree) ++ [10]) ++ o.Parents.flatMap paB) ++ [97,117,116,104,111,114,32]) ++ o.Author) ++ [10,116,105,109,101,32]) ++ Lib.itoa o.Time ++ [10] = ([116,114,101,101] ++ 32 :: Lib.itoa o.Tree) ++ 10 :: (o.Parents.flatMap paB ++ (([97,117,116,104,111,114] ++ 32 :: o.Author) ++ 10 :: (([116,105,109,101] ++ 32 :: Lib.itoa o.Time) ++ 10 :: []))) := by simp
 have k1 : ∀ c ∈ ([116,114,101,101] ++ 32 :: Lib.itoa o.Tree : Str), c ≠ 10 := fun c hc => by
  rcases List.mem_append.1 hc with hc | hc
  ·exact (show ∀ c ∈ ([116,114,101,101] : Str), c ≠ 10 by decide) c hc
  ·rcases List.mem_cons.1 hc with rfl | hc
   ·decide
   ·exact (dig_ne t1 c hc).1
 have k2 : ∀ c ∈ ([97,117,116,104,111,114] ++ 32 :: o.Author : Str), c ≠ 10 := fun c hc => by
  rcases List.mem_append.1 hc with hc | hc
  ·exact (show ∀ c ∈ ([97,117,116,104,111,114] : Str), c ≠ 10 by decide) c hc
  ·rcases List.mem_cons.1 hc with rfl | hc
   ·decide
   ·exact (a1 c hc).1
 have k3 : ∀ c ∈ ([116,105,109,101] ++ 32 :: Lib.itoa o.Time : Str), c ≠ 10 := fun c hc => by
  rcases List.mem_append.1 hc with hc | hc
  ·exact (show ∀ c ∈ ([116,105,109,101] : Str), c ≠ 10 by decide) c hc
  ·rcases List.mem_cons.1 hc with rfl | hc
   ·decide
   ·exact (dig_ne m1 c hc).1
 obtain ⟨ya, hya⟩ := atoi_some (r := o.Author) (by omega)
 unfold F_z linF
 rw [e, linesL_app _ _ k1, lines_pars _ _ (fun x hx => (hp x hx).1), linesL_app _ _ k2, linesL_app _ _ k3]
 simp only [forL, Option.bind_some]
 rw [line_step (by decide) (by simp; omega) (atoiI_itoa t1 (by omega))]
 simp only [decide_true, cond_true, Option.bind_some, Fl.elim]
 rw [forL_app' _ _ _ _ _ (readPars o.Parents _ o.Tree [] 0 [] hp (by simpa using by omega))]
 simp only [forL, Option.bind_some, linesL, List.nil_append]
 rw [line_step (by decide) (by simp; omega) hya]
 simp only [show decide (([97,117,116,104,111,114] : Str) = [116,114,101,101]) = false by decide, show decide (([97,117,116,104,111,114] : Str) = [112,97,114,101,110,116]) = false by decide, decide_true, cond_true, cond_false, Option.bind_some, Fl.elim, forL]
 rw [line_step (by decide) (by simp; omega) (atoiI_itoa m1 (by omega))]
 simp only [show decide (([116,105,109,101] : Str) = [116,114,101,101]) = false by decide, show decide (([116,105,109,101] : Str) = [112,97,114,101,110,116]) = false by decide, show decide (([116,105,109,101] : Str) = [97,117,116,104,111,114]) = false by decide, decide_true, cond_true, cond_false, Option.bind_some, Fl.elim]
end Go.Ab
namespace Go.Ab
theorem cutp_yes {p r : Str} : F_3 (p ++ r) p = some (r, true) := by
 unfold F_3 F_x F_w
 have c1 : decide ((p.length : Int) ≤ ((p ++ r).length : Int)) = true := by simp; omega
 have c2 : inc 0 (p.length : Int) (p ++ r).length = true := inc_iff.2 ⟨by omega, by omega, by simp; omega⟩
 have c3 : inc (p.length : Int) ((p ++ r).length : Int) (p ++ r).length = true := inc_iff.2 ⟨by omega, by simp; omega, by omega⟩
 have e3 : ((p.length : Int)).toNat = p.length := by simp
 have e4 : (p ++ r).take p.length = p := by simp
 have e5 : (p ++ r).drop p.length = r := by simp
 simp only [c1, c2, c3, e3, e4, e5, cond_true, chk, jn, Option.bind_some, decide_true, Bool.not_true, cond_false]
theorem cutp_no {s p : Str} (h : s.take p.length ≠ p) : F_3 s p = some (s, false) := by
 unfold F_3 F_x F_w
 have e3 : ((p.length : Int)).toNat = p.length := by simp
 cases hc : decide ((p.length : Int) ≤ (s.length : Int)) with
 | false => rfl
 | true =>
  have hc := of_decide_eq_true hc
  have c2 : inc 0 (p.length : Int) s.length = true := inc_iff.2 ⟨by omega, by omega, hc⟩
  simp only [c2, e3, cond_true, chk, jn, Option.bind_some, decide_eq_false h, Bool.not_false]
theorem vl_id {o : GObject} (h : vlB o = 0) : idB o.ID = true ∧ ryt o = true := by
 unfold vlB at h
 revert h
 cases idB o.ID <;> cases (decide (65536 < (o.Data.length : Int)) || decide (64 < (o.Items.length : Int)) || decide (8 < (o.Parents.length : Int))) <;> cases ryt o <;> simp
theorem oth_of {o : GObject} (h : oth o = true) : o.Tree = 0 ∧ o.Parents = [] ∧ o.Author = [] ∧ o.Time = 0 := by
 unfold oth at h
 simp only [Bool.and_eq_true, decide_eq_true_eq] at h
 obtain ⟨⟨⟨h1, h2⟩, h3⟩, h4⟩ := h
 exact ⟨h1, List.length_eq_zero_iff.1 (by omega), h3, h4⟩
theorem ryt_of {o : GObject} (h : ryt o = true) : (o.Kind = 1 ∧ o.Items = [] ∧ oth o = true) ∨ (o.Kind = 2 ∧ o.Data = [] ∧ oth o = true ∧ trA o = true) ∨ (o.Kind = 3 ∧ o.Data = [] ∧ o.Items = [] ∧ coA o = true) := by
 unfold ryt at h
 rcases (Bool.or_eq_true _ _).mp h with h | h
 ·rcases (Bool.or_eq_true _ _).mp h with h | h
  ·simp only [Bool.and_eq_true, decide_eq_true_eq] at h
   exact .inl ⟨h.1, List.length_eq_zero_iff.1 (by omega), h.2.2⟩
  ·simp only [Bool.and_eq_true, decide_eq_true_eq] at h
   exact .inr (.inl ⟨h.1, List.length_eq_zero_iff.1 (by omega), h.2.1.2, h.2.2⟩)
 ·simp only [Bool.and_eq_true, decide_eq_true_eq] at h
  exact .inr (.inr ⟨h.1, List.length_eq_zero_iff.1 (by omega), List.length_eq_zero_iff.1 (by omega), h.2.2⟩)
theorem trA_ok {o : GObject} (h : trA o = true) : ∀ x ∈ o.Items, iOK x := fun x hx => by
 obtain ⟨i, e, hp⟩ := getD_all h hx
 unfold trB at hp
 rw [e, Bool.and_eq_true, Bool.and_eq_true] at hp
 exact ⟨nm_ne hp.1, nmB_len hp.1, (idB_iff hp.2.1).1, (idB_iff hp.2.1).2⟩
theorem parse_fin {o j : GObject} (hf : Few o) (hv : vlB o = 0) (e : GObject.mk o.ID j.Kind j.Data j.Items j.Tree j.Parents j.Author j.Time = o) :
  ((F_l (GObject.mk o.ID j.Kind j.Data j.Items j.Tree j.Parents j.Author j.Time)).bind fun y31 => bif (!decide (y31 = 0)) then some ((GObject.mk 0 0 [] [] 0 [] [] 0),10) else (F_f (GObject.mk o.ID j.Kind j.Data j.Items j.Tree j.Parents j.Author j.Time)).bind fun y32 => (F_13 y32 (txt o)).bind fun y33 => bif (!y33) then some ((GObject.mk 0 0 [] [] 0 [] [] 0),10) else some ((GObject.mk o.ID j.Kind j.Data j.Items j.Tree j.Parents j.Author j.Time), (0 : Int))) = some (o, 0) := by
 rw [e, valid_eq hf, hv]
 simp only [Option.bind_some, decide_true, Bool.not_true, cond_false]
 rw [(write_txt hf (vl_VO hv)).1]
 simp only [Option.bind_some, F_13, decide_true, Bool.not_true, cond_false]
theorem parse_back {o : GObject} (hf : Few o) (hv : vlB o = 0) : F_b o.ID (txt o) = some (o, 0) := by
 obtain ⟨hid, hr⟩ := vl_id hv
 unfold F_b
 rw [number_eq, hid]
 simp only [Option.bind_some, Bool.not_true, cond_false]
 rcases ryt_of hr with ⟨k, i0, ho⟩ | ⟨k, d0, ho, ht⟩ | ⟨k, d0, i0, hc⟩
 ·obtain ⟨t0, p0, a0, m0⟩ := oth_of ho
  have et : txt o = [98,108,111,98,10] ++ o.Data := by unfold txt; rw [decide_eq_true k]; rfl
  have hj : F_3 (txt o) [98,108,111,98,10] = some (o.Data, true) := by rw [et]; exact cutp_yes
  rw [hj]
  simp only [Option.bind_some, cond_true, jn]
  exact parse_fin (j := GObject.mk 0 1 o.Data [] 0 [] [] 0) hf hv (by cases o; simp_all)
 ·obtain ⟨t0, p0, a0, m0⟩ := oth_of ho
  have et : txt o = [116,114,101,101,10] ++ o.Items.flatMap itB := by unfold txt; rw [decide_eq_false (by omega), decide_eq_true k]; rfl
  have h1 : F_3 (txt o) [98,108,111,98,10] = some (txt o, false) := cutp_no (by rw [et]; simp)
  have h2 : F_3 (txt o) [116,114,101,101,10] = some (o.Items.flatMap itB, true) := by rw [et]; exact cutp_yes
  rw [h1]
  simp only [Option.bind_some, cond_false]
  rw [h2]
  simp only [Option.bind_some, cond_true]
  rw [readTree_eq (trA_ok ht) (by have := hf.2.1; omega)]
  simp only [Option.bind_some, jn]
  exact parse_fin (j := GObject.mk 0 2 [] o.Items 0 [] [] 0) hf hv (by cases o; simp_all)
 ·unfold coA cmB at hc
  simp only [Bool.and_eq_true, decide_eq_true_eq] at hc
  obtain ⟨hp, ⟨ht, ha⟩, m1, m2⟩ := hc
  have et : txt o = [99,111,109,109,105,116,10] ++ ((((((([116,114,101,101,32] ++ Lib.itoa o.Tree) ++ [10]) ++ o.Parents.flatMap paB) ++ [97,117,116,104,111,114,32]) ++ o.Author) ++ [10,116,105,109,101,32]) ++ Lib.itoa o.Time ++ [10]) := by
   unfold txt; rw [decide_eq_false (by omega), decide_eq_false (by omega)]; simp
  have h1 : F_3 (txt o) [98,108,111,98,10] = some (txt o, false) := cutp_no (by rw [et]; simp)
  have h2 : F_3 (txt o) [116,114,101,101,10] = some (txt o, false) := cutp_no (by rw [et]; simp)
  have h3 := cutp_yes (p := [99,111,109,109,105,116,10]) (r := ((((((([116,114,101,101,32] ++ Lib.itoa o.Tree) ++ [10]) ++ o.Parents.flatMap paB) ++ [97,117,116,104,111,114,32]) ++ o.Author) ++ [10,116,105,109,101,32]) ++ Lib.itoa o.Time ++ [10]))
  rw [← et] at h3
  rw [h1]
  simp only [Option.bind_some, cond_false]
  rw [h2]
  simp only [Option.bind_some, cond_false]
  rw [h3]
  simp only [Option.bind_some, cond_true]
  rw [readCommit_eq (fun x hx => by
   obtain ⟨i, e, hq⟩ := getD_all hp hx
   unfold coB at hq
   rw [e, Bool.and_eq_true] at hq
   exact idB_iff hq.1) (by have := hf.2.2.1; omega) (idB_iff ht).1 (idB_iff ht).2 (nm_ne ha) (nmB_len ha) m1 m2]
  simp only [Option.bind_some, jn]
  exact parse_fin (j := GObject.mk 0 3 [] [] o.Tree o.Parents o.Author o.Time) hf hv (by cases o; simp_all)
end Go.Ab
namespace Go.Ab
end Go.Ab
namespace Go.Ab
theorem aget_aput {β : Type} (q k : Int) (v : β) : ∀ m : List (Int × β), aget q (aput k v m) = if q = k then some v else aget q m
 | [] => by by_cases e : q = k <;> simp [aput, aget, e]
 | (a, b) :: r => by
  by_cases e : k = a
  ·subst e
   by_cases e2 : q = k <;> simp [aput, aget, e2]
  ·simp only [aput, if_neg e, aget, aget_aput q k v r]
   by_cases e2 : q = a
   ·subst e2
    have : ¬ q = k := fun h => e h.symm
    simp [this]
   ·simp [e2]
theorem forL_push {α β ρ : Type} {body : Int → α → List β → Option (Fl (List β) ρ)} {f : Nat → β} : ∀ (xs : List α) (k : Nat) (out : List β), (∀ i (h : i < xs.length) (out' : List β), out'.length = k + i → body ((k + i : Nat) : Int) xs[i] out' = some (.nx (out' ++ [f (k + i)]))) → out.length = k →
  forL body xs k out = some (.nx (out ++ (List.range' k xs.length).map f))
 | [], k, out, _, _ => by simp [forL]
 | x :: r, k, out, h, hk => by
  have h0 := h 0 (by simp) out (by simpa using hk)
  simp only [Nat.add_zero, List.getElem_cons_zero] at h0
  have := forL_push r (k + 1) (out ++ [f k]) (fun i hi out' ho => by
   have := h (i + 1) (by simpa using hi) out' (by omega)
   rw [show k + 1 + i = k + (i + 1) by omega]
   simpa using this) (by simp [hk])
  simp only [forL, h0, Option.bind_some, List.length_cons, List.range'_succ, List.map_cons]
  simpa [Fl.elim] using this
structure PK (l : List GPacked) (d : Nat → Nat) (bt : Nat → Str) : Prop where
 len : l.length ≤ 400
 id : ∀ i (h : i < l.length), idB l[i].ID = true
 inj : ∀ i j (hi : i < l.length) (hj : j < l.length), l[i].ID = l[j].ID → i = j
 ent : ∀ i (h : i < l.length), (l[i].Delta = false ∧ l[i].Base = 0 ∧ l[i].Ops = [] ∧ d i = 0 ∧ l[i].Data = bt i) ∨
  (l[i].Delta = true ∧ l[i].Data = [] ∧ ∃ j, ∃ hj : j < l.length, l[j].ID = l[i].Base ∧ d i = d j + 1 ∧ F_a (bt j) l[i].Ops = some (bt i, 0))
 dep : ∀ i, i < l.length → d i ≤ 20 ∧ d i ≤ l.length
 sm : ∀ i, i < l.length → (bt i).length ≤ 1000000
section
variable {l : List GPacked} {d : Nat → Nat} {bt : Nat → Str}
theorem places_ok (hl : l.length ≤ 100000) (h : ∀ i j (hi : i < l.length) (hj : j < l.length), l[i].ID = l[j].ID → i = j) : ∃ m, F_c l = some (m, true) ∧ ∀ i (hi : i < l.length), aget l[i].ID m = some (i : Int) := by
 have key : Ok (F_c l) fun y => y.2 = true ∧ ∀ i (hi : i < l.length), aget l[i].ID y.1 = some (i : Int) := by
  unfold F_c
  refine Ok.bind (Ok.foldI (all := l) (Q := fun s : Bool × List (Int × Int) => s.1 = true ∧ ∀ i (hi : i < l.length), aget l[i].ID s.2 = some (i : Int)) (fun pre s => s.1 = true ∧ (∀ i (hi : i < pre.length), aget pre[i].ID s.2 = some (i : Int)) ∧ ∀ q, (∀ x ∈ pre, x.ID ≠ q) → aget q s.2 = none) l [] 0 (true, []) rfl rfl ⟨rfl, fun i hi => absurd hi (by simp), fun q _ => rfl⟩ (fun pre x r s hw hs => ?_) fun s hs => ⟨hs.1, hs.2.1⟩) fun s hs => Ok.ret hs
  obtain ⟨h1, h2, h3⟩ := hs
  have hp : pre.length < l.length := by rw [hw]; simp
  have hx : l[pre.length] = x := by simp [hw]
  have hpre : ∀ i (hi : i < pre.length), l[i]'(by omega) = pre[i] := fun i hi => by simp only [hw]; exact List.getElem_append_left hi
  have hno : ∀ y ∈ pre, y.ID ≠ x.ID := fun y hy e => by
   obtain ⟨i, hi, rfl⟩ := List.getElem_of_mem hy
   have := h i pre.length (by omega) hp (by rw [hpre i hi, hx]; exact e)
   omega
  unfold F_1g
  rw [h3 _ hno]
  simp only [Option.isSome_none, cond_false, jn, Option.bind_some]
  refine Ok.ret ⟨h1, fun i hi => ?_, fun q hq => ?_⟩
  ·simp only [aget_aput]
   by_cases hi' : i < pre.length
   ·rw [List.getElem_append_left hi', if_neg (hno _ (List.getElem_mem hi'))]
    exact h2 i hi'
   ·have : i = pre.length := by simp at hi; omega
    subst this
    simp
  ·simp only [aget_aput]
   have h4 := hq x (by simp)
   rw [if_neg fun e => h4 e.symm]
   exact h3 q fun y hy => hq y (by simp [hy])
 obtain ⟨y, e, h1, h2⟩ := key
 exact ⟨y.1, by rw [e, ← h1], h2⟩
theorem chain_go (h : PK l d bt) {m : List (Int × Int)} (hm : ∀ i (hi : i < l.length), aget l[i].ID m = some (i : Int)) : ∀ (k i n : Nat) (hi : i < l.length), d i = k → n + k ≤ l.length →
  loop (F_5 l m) (l[i].ID, (n : Int)) = some (.inr ((n + k : Nat) : Int))
 | k, i, n, hi, hk, hn => by
  have hlen := h.len
  have c1 : decide ((n : Int) ≤ (l.length : Int)) = true := decide_eq_true (by omega)
  have c2 : inb (i : Int) l.length = true := kB hi
  have c3 : in64 ((n : Int) + 1) = true := in64_iff.2 ⟨by omega, by omega⟩
  have c4 : decide ((i : Int) < 0) = false := decide_eq_false (by omega)
  have e1 : ((i : Int)).toNat = i := by simp
  have e2 : l.getD i default = l[i] := by simp [hi]
  rcases h.ent i hi with ⟨a1, a2, a3, a4, a5⟩ | ⟨a1, a2, j, hj, a3, a4, a5⟩
  ·have : k = 0 := by omega
   subst this
   have key : F_5 l m (l[i].ID, (n : Int)) = some (.ex (.inr (n : Int))) := by
    unfold F_5 grp
    simp only
    rw [hm i hi]
    simp only [Option.isSome_some, Option.getD_some]
    rw [c1, c2, c4, e1, e2, a1]
    rfl
   rw [loop_eq, key]; rfl
  ·obtain ⟨k, rfl⟩ : ∃ q, k = q + 1 := ⟨d j, by omega⟩
   have key : F_5 l m (l[i].ID, (n : Int)) = some (.nx (l[i].Base, (n : Int) + 1)) := by
    unfold F_5 grp
    simp only
    rw [hm i hi]
    simp only [Option.isSome_some, Option.getD_some]
    rw [c1, c2, c3, c4, e1, e2, a1]
    rfl
   have ih := chain_go h hm k j (n + 1) hj (by omega) (by omega)
   rw [loop_eq, key, ← a3]
   refine Eq.trans ih ?_
   congr 3; omega
theorem chain_ok (h : PK l d bt) {m : List (Int × Int)} (hm : ∀ i (hi : i < l.length), aget l[i].ID m = some (i : Int)) {i : Nat} (hi : i < l.length) : F_8 l m l[i].ID = some (d i : Int) := by
 have := chain_go h hm (d i) i 0 hi rfl (by have := (h.dep i hi).2; omega)
 unfold F_8
 simp only [Int.natCast_zero, Nat.zero_add] at this
 rw [this]; rfl
theorem right_ok (h : PK l d bt) {i : Nat} (hi : i < l.length) : F_7 l[i] = some false := by
 unfold F_7 F_n
 rw [number_eq, h.id i hi]
 rcases h.ent i hi with ⟨a1, a2, a3, a4, a5⟩ | ⟨a1, a2, _⟩
 ·rw [a1, a2, a3]; rfl
 ·rw [a1, a2]; rfl
theorem none_bad (h : PK l d bt) : F_g l = some false := by
 unfold F_g F_o
 rw [forL_all0 (p := fun _ => true) (r := 0) l fun i hi => by
  unfold F_15
  rw [right_ok h hi]; rfl]
 rw [List.all_eq_true.2 fun _ _ => rfl]
 rfl
theorem max_ok {x : List Int} {b : Int} (h0 : 0 < x.length) (hl : x.length ≤ 100000) (h : ∀ z ∈ x, z ≤ b) : Ok (F_h x) fun y => y ≤ b := by
 have get : ∀ i : Nat, i < x.length → x.getD i default ≤ b := fun i hi => by
  have e : x.getD i default = x[i] := by simp [hi]
  rw [e]; exact h _ (List.getElem_mem hi)
 unfold F_h
 rw [decide_eq_false (by omega)]
 simp only [cond_false]
 refine Ok.chk (inb_iff.2 ⟨by omega, by omega⟩) (Ok.bind (Ok.loop (Q := fun y => y ≤ b) (fun s : Int × Int => s.1 ≤ b ∧ 0 ≤ s.2) (fun s => (x.length - s.2).toNat) (fun s hs => ?_) _ ⟨get 0 h0, by simp only; omega⟩) fun y hy => Ok.ret hy)
 unfold F_1h
 refine Ok.ite (fun c => ?_) fun _ => Ok.ret hs.1
 have c := of_decide_eq_true c
 refine Ok.chk (inb_iff.2 ⟨hs.2, c⟩) (Ok.chk (in64_iff.2 ⟨by have := hs.2; omega, by omega⟩) (Ok.ret ⟨⟨?_, by have := hs.2; simp only; omega⟩, by simp only; omega⟩))
 exact Int.max_le.2 ⟨hs.1, get _ (by have := hs.2; omega)⟩
theorem check_ok (h : PK l d bt) {m : List (Int × Int)} (hm : ∀ i (hi : i < l.length), aget l[i].ID m = some (i : Int)) : F_9 l m true = some 0 := by
 have hlen := h.len
 refine Ok.eq ?_
 unfold F_9
 rw [none_bad h]
 simp only [Option.bind_some, cond_false, Bool.not_true]
 refine Ok.chk (roomI_iff.2 ⟨by omega, by omega, by omega⟩) ?_
 refine Ok.bind (Ok.foldI (all := l) (Q := fun s : List Int => s.length = l.length ∧ ∀ i, i < l.length → s.getD i 0 = (d i : Int)) (fun pre s => s.length = l.length ∧ ∀ i, i < pre.length → s.getD i 0 = (d i : Int)) l [] 0 _ rfl rfl ⟨by simp, fun i hi => absurd hi (by simp)⟩ (fun pre x r s hw hs => ?_) fun s hs => hs) fun s hs => ?_
 ·have hp : pre.length < l.length := by rw [hw]; simp
  have hx : l[pre.length] = x := by simp [hw]
  unfold F_p
  rw [← hx, chain_ok h hm hp]
  refine Ok.chk (kB (by rw [hs.1]; exact hp)) (Ok.ret ⟨by simp [hs.1], fun i hi => ?_⟩)
  simp only [Int.toNat_natCast, List.getD_eq_getElem?_getD, List.getElem?_set]
  by_cases e : pre.length = i
  ·subst e
   simp [hs.1, hp]
  ·rw [if_neg e]
   have := hs.2 i (by simp at hi; omega)
   rwa [List.getD_eq_getElem?_getD] at this
 ·obtain ⟨s1, s2⟩ := hs
  have hz : ∀ z ∈ s, 0 ≤ z ∧ z ≤ 20 := fun z hz => by
   obtain ⟨i, hi, rfl⟩ := List.getElem_of_mem hz
   have e := s2 i (by omega)
   have e2 : s.getD i 0 = s[i] := by simp [hi]
   have := (h.dep i (by omega)).1
   rw [e2] at e
   omega
  have no : ∀ v : Int, v < 0 → s.any (fun z => decide (v = z)) = false := fun v hv => by
   rw [List.any_eq_false]
   intro z h1 h2
   have := hz z h1
   have := of_decide_eq_true h2
   omega
  rw [contains_eq, contains_eq, no _ (by omega), no _ (by omega)]
  simp only [Option.bind_some, cond_false]
  refine Ok.jn (P := fun b => b = false) (Ok.ite (fun c => ?_) fun _ => Ok.ret rfl) fun b hb => by subst hb; exact Ok.ret rfl
  have c := of_decide_eq_true c
  refine Ok.bind (max_ok (b := 20) (by omega) (by omega) fun z h1 => (hz z h1).2) fun y hy => Ok.ret (decide_eq_false (by omega))
theorem clone_eq {s : Str} (h : s.length ≤ 1000000) : F_q s = some s := by
 unfold F_q
 rw [List.nil_append, room_iff.2 (by simp; omega)]
 rw [amb_eq (c := s.isEmpty) fun hc => by cases s with
  | nil => rfl
  | cons a r => cases hc]
 rfl
theorem bytes_ev (h : PK l d bt) {m : List (Int × Int)} (hm : ∀ i (hi : i < l.length), aget l[i].ID m = some (i : Int)) : ∀ (k i : Nat) (hi : i < l.length), d i = k → EvS (fun n => FR_0 n l m (i : Int)) (bt i, true)
 | k, i, hi, hk => by
  have c2 : inb (i : Int) l.length = true := kB hi
  have e1 : ((i : Int)).toNat = i := by simp
  have e2 : l.getD i default = l[i] := by simp [hi]
  rcases h.ent i hi with ⟨a1, a2, a3, a4, a5⟩ | ⟨a1, a2, j, hj, a3, a4, a5⟩
  ·refine ⟨1, fun n hn => ?_⟩
   obtain ⟨n, rfl⟩ : ∃ q, n = q + 1 := ⟨n - 1, by omega⟩
   simp only [FR_0]
   rw [c2, e1, e2, a1, a5, clone_eq (h.sm i hi)]
   rfl
  ·obtain ⟨k, rfl⟩ : ∃ q, k = q + 1 := ⟨d j, by omega⟩
   obtain ⟨n0, hn0⟩ := bytes_ev h hm k j hj (by omega)
   refine ⟨n0 + 1, fun n hn => ?_⟩
   obtain ⟨n, rfl⟩ : ∃ q, n = q + 1 := ⟨n - 1, by omega⟩
   have ih := hn0 n (by omega)
   simp only at ih
   simp only [FR_0]
   rw [c2, e1, e2, a1, ← a3, hm j hj]
   simp only [Option.getD_some, ih, Option.bind_some, a5]
   rfl
theorem pbytes_ok (h : PK l d bt) {m : List (Int × Int)} (hm : ∀ i (hi : i < l.length), aget l[i].ID m = some (i : Int)) {i : Nat} (hi : i < l.length) : F_0 l m (i : Int) = some (bt i, true) :=
 lim_of (bytes_ev h hm (d i) i hi rfl)
theorem resolve_ok (h : PK l d bt) {ob : Nat → GObject} (ho : ∀ i (hi : i < l.length), F_b l[i].ID (bt i) = some (ob i, 0)) : F_4 l = some ((List.range' 0 l.length).map ob, 0) := by
 have hlen := h.len
 obtain ⟨m, e, hm⟩ := places_ok (by omega) h.inj
 unfold F_4
 rw [decide_eq_false (by omega), e]
 simp only [cond_false, Option.bind_some]
 rw [check_ok h hm]
 simp only [Option.bind_some, decide_true, Bool.not_true, cond_false]
 have h1 := forL_push (body := F_1d l (m, true)) (f := bt) l 0 [] (fun i hi out ho => by
  unfold F_1d
  simp only [Nat.zero_add]
  rw [pbytes_ok h hm hi]
  simp only [Option.bind_some, Bool.not_true, cond_false]
  rw [room_iff.2 (by simp; omega)]
  rfl) rfl
 simp only [Int.natCast_zero, List.nil_append] at h1
 rw [h1]
 simp only [Option.bind_some, Fl.elim]
 have hl2 : ((List.range' 0 l.length).map bt).length = l.length := by simp
 have h2 := forL_push (body := F_1e l) (f := ob) ((List.range' 0 l.length).map bt) 0 [] (fun i hi out hout => by
  have hi' : i < l.length := by omega
  unfold F_1e
  simp only [Nat.zero_add]
  have e1 : ((i : Int)).toNat = i := by simp
  have e2 : l.getD i default = l[i] := by simp [hi']
  have e3 : ((List.range' 0 l.length).map bt)[i] = bt i := by simp
  rw [kB hi', e1, e2, e3, ho i hi']
  simp only [chk, cond_true, Option.bind_some, decide_true, Bool.not_true, cond_false]
  rw [room_iff.2 (by simp; omega)]
  rfl) rfl
 simp only [Int.natCast_zero, List.nil_append, hl2] at h2
 rw [h2]
 rfl
theorem Chain_ok (h : PK l d bt) {i : Nat} (hi : i < l.length) : F_6 l l[i].ID = some (d i : Int) := by
 obtain ⟨m, e, hm⟩ := places_ok (by have := h.len; omega) h.inj
 unfold F_6
 rw [e]
 simp only [Option.bind_some]
 rw [chain_ok h hm hi]
 simp only [Option.bind_some]
 congr 1
 omega
end
end Go.Ab
namespace Go.Ab
def opOK (n : Nat) (o : GOp) : Prop := (o.Size = 0 ∧ o.From = 0 ∧ 0 < o.Data.length) ∨ (0 < o.Size ∧ 0 ≤ o.From ∧ o.Data = [] ∧ o.From + o.Size ≤ n)
def opN (o : GOp) : Int := bif decide (o.Size < 1) then (o.Data.length : Int) else o.Size
def opB (base : Str) (o : GOp) : Str := (base.take (o.From + o.Size).toNat).drop o.From.toNat ++ o.Data
theorem opN_nn {n : Nat} {o : GOp} (h : opOK n o) : 0 ≤ opN o := by
 unfold opN
 rcases h with ⟨h1, h2, h3⟩ | ⟨h1, h2, h3, h4⟩
 ·rw [h1]; exact Int.natCast_nonneg _
 ·rw [decide_eq_false (by omega)]; simp only [cond_false]; omega
theorem sizes_go {n : Nat} : ∀ (ops : List GOp) (k left : Int), (∀ o ∈ ops, opOK n o) → 0 ≤ left → left ≤ 65536 → (ops.map opN).sum ≤ left → ∃ x, forL F_t ops k left = some (.nx x)
 | [], k, left, _, _, _, _ => ⟨left, rfl⟩
 | o :: r, k, left, h, h0, h1, hs => by
  have hn := opN_nn (h o (by simp))
  have hr : 0 ≤ (r.map opN).sum := by
   have : ∀ q : List GOp, (∀ o ∈ q, opOK n o) → 0 ≤ (q.map opN).sum := fun q => by
    induction q with
    | nil => intro _; simp
    | cons y q ih => intro hq; have := opN_nn (hq y (by simp)); have := ih fun o ho => hq o (by simp [ho]); simp only [List.map_cons, List.sum_cons]; omega
   exact this r fun o ho => h o (by simp [ho])
  simp only [List.map_cons, List.sum_cons] at hs
  have hb : F_t k o left = some (.nx (left - opN o)) := by
   unfold F_t
   have e : (bif decide (o.Size < 1) then some (o.Data.length : Int) else some o.Size) = some (opN o) := by
    unfold opN; cases decide (o.Size < 1) <;> rfl
   rw [e]
   simp only [jn, Option.bind_some]
   rw [decide_eq_false (by omega)]
   simp only [cond_false, chk]
   rw [in64_iff.2 ⟨by omega, by omega⟩]; rfl
  obtain ⟨x, hx⟩ := sizes_go r (k + 1) (left - opN o) (fun o ho => h o (by simp [ho])) (by omega) (by omega) (by omega)
  exact ⟨x, by simp only [forL, hb, Option.bind_some, Fl.elim]; exact hx⟩
theorem fits_ok {o : GOp} {n : Nat} (h : opOK n o) (hn : n ≤ 1000000) : F_r o (n : Int) = some true := by
 unfold F_r F_18
 rcases h with ⟨h1, h2, h3⟩ | ⟨h1, h2, h3, h4⟩
 ·rw [h1, h2, decide_eq_true (show (0 : Int) < (o.Data.length : Int) by omega)]; rfl
 ·rw [decide_eq_false (show ¬ o.Size = 0 by omega), decide_eq_true h1, decide_eq_true h2, h3, decide_eq_true (show o.From ≤ (n : Int) by omega), decide_eq_true (show o.Size ≤ (n : Int) - o.From by omega), in64_iff.2 ⟨by omega, by omega⟩]
  rfl
theorem apply_ops {base : Str} {ops : List GOp} (h : ∀ o ∈ ops, opOK base.length o) (hl : ops.length ≤ 200) (hb : base.length ≤ 65536) (hs : (ops.map opN).sum ≤ 65536) : F_a base ops = some (ops.flatMap (opB base),0) := by
 have hc : F_u base ops = some 0 := by
  obtain ⟨x, hx⟩ := sizes_go ops 0 65536 h (by omega) (by omega) hs
  unfold F_u
  rw [decide_eq_false (by omega), decide_eq_false (by omega)]
  simp only [Bool.or_self, grp, cond_false]
  rw [hx]
  simp only [Option.bind_some, Fl.elim]
  have : F_s ops base = some false := by
   unfold F_s F_19
   rw [forL_all0 (p := fun _ => true) (r := 0) ops fun i hi => by
    unfold F_1i F_e
    rw [fits_ok (h _ (List.getElem_mem hi)) (by omega)]; rfl]
   rw [List.all_eq_true.2 fun _ _ => rfl]
   rfl
  rw [this]; rfl
 have hlen : ∀ q : List GOp, (∀ o ∈ q, opOK base.length o) → ((q.flatMap (opB base)).length : Int) ≤ (q.map opN).sum := fun q => by
  induction q with
  | nil => intro _; simp
  | cons y q ih =>
   intro hq
   have h1 := ih fun o ho => hq o (by simp [ho])
   simp only [List.flatMap_cons, List.map_cons, List.sum_cons, List.length_append, opB, opN]
   rcases hq y (by simp) with ⟨a1, a2, a3⟩ | ⟨a1, a2, a3, a4⟩
   ·rw [a1, a2]; simp only [Int.add_zero, Int.toNat_zero, List.take_zero, List.drop_nil, List.length_nil, show decide ((0 : Int) < 1) = true from rfl, cond_true]; omega
   ·rw [decide_eq_false (show ¬ y.Size < 1 by omega), a3]
    simp only [List.length_drop, List.length_take, List.length_nil, cond_false]; omega
 unfold F_a
 rw [hc]
 simp only [Option.bind_some, decide_true, Bool.not_true, cond_false]
 have go : ∀ (q : List GOp) (k : Int) (out : Str), (∀ o ∈ q, opOK base.length o) → (out.length : Int) + (q.map opN).sum ≤ 65536 → foldL (F_v base) q k out = some (out ++ q.flatMap (opB base)) := fun q => by
  induction q with
  | nil => intro k out _ _; simp [foldL]
  | cons y q ih =>
   intro k out hq ho
   have hy := hq y (by simp)
   have hr : 0 ≤ (q.map opN).sum := Int.le_trans (Int.natCast_nonneg _) (hlen q fun o ho => hq o (by simp [ho]))
   have hyl : ((opB base y).length : Int) ≤ opN y := by
    have := hlen [y] (fun o ho => by simp at ho; subst ho; exact hy)
    simpa using this
   simp only [List.map_cons, List.sum_cons] at ho
   have hsz : 0 ≤ y.From ∧ 0 ≤ y.From + y.Size ∧ y.From ≤ y.From + y.Size ∧ y.From + y.Size ≤ base.length := by
    rcases hy with ⟨a1, a2, a3⟩ | ⟨a1, a2, a3, a4⟩ <;> omega
   have key : F_v base k y out = some (out ++ opB base y) := by
    unfold F_v
    have hq1 : (opB base y).length = ((base.take (y.From + y.Size).toNat).drop y.From.toNat).length + y.Data.length := by simp only [opB, List.length_append]
    rw [in64_iff.2 ⟨by omega, by omega⟩, inc_iff.2 ⟨hsz.1, hsz.2.2.1, hsz.2.2.2⟩, room_iff.2 (by omega), room_iff.2 (by rw [List.length_append]; omega)]
    simp only [chk, cond_true, opB, List.append_assoc]
   simp only [foldL, key, Option.bind_some]
   rw [ih (k + 1) (out ++ opB base y) (fun o ho => hq o (by simp [ho])) (by rw [List.length_append]; omega)]
   simp
 rw [go ops 0 [] h (by simpa using hs)]
 simp
theorem pk_two {p q : Int} {b c : Str} {ops : List GOp} (hp : idB p = true) (hq : idB q = true) (hne : p ≠ q) (hb : b.length ≤ 1000000) (hc : c.length ≤ 1000000) (ha : F_a b ops = some (c, 0)) :
  PK [GPacked.mk p false 0 [] b, GPacked.mk q true p ops []] (fun i => i) (fun i => bif decide (i = 0) then b else c) := by
 refine ⟨by simp, fun i h => ?_, fun i j hi hj e => ?_, fun i h => ?_, fun i h => ?_, fun i h => ?_⟩
 ·match i, h with
  | 0, _ => exact hp
  | 1, _ => exact hq
  | i + 2, h => simp at h; omega
 ·match i, j, hi, hj with
  | 0,0, _, _ => rfl
  | 1,1, _, _ => rfl
  | 0,1, _, _ => exact absurd e hne
  | 1,0, _, _ => exact absurd e.symm hne
  | i + 2, _, h, _ => simp at h; omega
  | _, j + 2, _, h => simp at h; omega
 ·match i, h with
  | 0, _ => exact .inl ⟨rfl, rfl, rfl, rfl, rfl⟩
  | 1, _ => exact .inr ⟨rfl, rfl, 0, by simp, rfl, rfl, ha⟩
  | i + 2, h => simp at h; omega
 ·match i, h with
  | 0, _ => simp
  | 1, _ => simp
  | i + 2, h => simp at h; omega
 ·match i, h with
  | 0, _ => exact hb
  | 1, _ => exact hc
  | i + 2, h => simp at h; omega
end Go.Ab
set_option maxRecDepth 20000
namespace Go.Ab
open Go.Proofs
structure PG (l : List GPacked) (d : Nat → Option Nat) : Prop where
 len : l.length ≤ 400
 id : ∀ i (h : i < l.length), idB l[i].ID = true
 inj : ∀ i j (hi : i < l.length) (hj : j < l.length), l[i].ID = l[j].ID → i = j
 ent : ∀ i (h : i < l.length), (l[i].Delta = false ∧ l[i].Base = 0 ∧ l[i].Ops = [] ∧ d i = some 0) ∨
  (l[i].Delta = true ∧ l[i].Data = [] ∧ ∃ j, ∃ hj : j < l.length, l[j].ID = l[i].Base ∧ d i = (d j).map (· + 1))
 dep : ∀ i, i < l.length → ∀ k, d i = some k → k ≤ l.length
def chN : Option Nat → Int
 | some k => k
 | none => -2
section
variable {l : List GPacked} {d : Nat → Option Nat}
theorem gchain_go (h : PG l d) {m : List (Int × Int)} (hm : ∀ i (hi : i < l.length), aget l[i].ID m = some (i : Int)) : ∀ (q i n : Nat) (hi : i < l.length), n + q = l.length + 1 → (∀ k, d i = some k → n + k ≤ l.length) →
  ∃ r, loop (F_5 l m) (l[i].ID, (n : Int)) = some r ∧ Sum.elim (fun _ => some (-2)) (fun u => some u) r = some (match d i with | some k => ((n + k : Nat) : Int) | none => -2)
 | 0, i, n, hi, hq, hd => by
  have hlen := h.len
  have c1 : decide ((n : Int) ≤ (l.length : Int)) = false := decide_eq_false (by omega)
  have key : F_5 l m (l[i].ID, (n : Int)) = some (.ex (.inl ())) := by
   unfold F_5
   simp only
   rw [c1]; rfl
  refine ⟨.inl (), by rw [loop_eq, key]; rfl, ?_⟩
  cases e : d i with
  | none => rfl
  | some k => have := hd k e; omega
 | q + 1, i, n, hi, hq, hd => by
  have hlen := h.len
  have c1 : decide ((n : Int) ≤ (l.length : Int)) = true := decide_eq_true (by omega)
  have c2 : inb (i : Int) l.length = true := kB hi
  have c3 : in64 ((n : Int) + 1) = true := in64_iff.2 ⟨by omega, by omega⟩
  have c4 : decide ((i : Int) < 0) = false := decide_eq_false (by omega)
  have e1 : ((i : Int)).toNat = i := by simp
  have e2 : l.getD i default = l[i] := by simp [hi]
  rcases h.ent i hi with ⟨a1, a2, a3, a4⟩ | ⟨a1, a2, j, hj, a3, a4⟩
  ·have key : F_5 l m (l[i].ID, (n : Int)) = some (.ex (.inr (n : Int))) := by
    unfold F_5 grp
    simp only
    rw [hm i hi]
    simp only [Option.isSome_some, Option.getD_some]
    rw [c1, c2, c4, e1, e2, a1]
    rfl
   refine ⟨.inr (n : Int), by rw [loop_eq, key]; rfl, ?_⟩
   rw [a4]; rfl
  ·have key : F_5 l m (l[i].ID, (n : Int)) = some (.nx (l[i].Base, (n : Int) + 1)) := by
    unfold F_5 grp
    simp only
    rw [hm i hi]
    simp only [Option.isSome_some, Option.getD_some]
    rw [c1, c2, c3, c4, e1, e2, a1]
    rfl
   obtain ⟨r, h1, h2⟩ := gchain_go h hm q j (n + 1) hj (by omega) (fun k hk => by
    have := hd (k + 1) (by rw [a4, hk]; rfl)
    omega)
   refine ⟨r, by rw [loop_eq, key, ← a3]; exact h1, ?_⟩
   rw [h2, a4]
   cases d j with
   | none => rfl
   | some k => simp only [Option.map_some]; congr 2; omega
theorem gchain_ok (h : PG l d) {m : List (Int × Int)} (hm : ∀ i (hi : i < l.length), aget l[i].ID m = some (i : Int)) {i : Nat} (hi : i < l.length) : F_8 l m l[i].ID = some (chN (d i)) := by
 obtain ⟨r, h1, h2⟩ := gchain_go h hm (l.length + 1) i 0 hi (by omega) (fun k hk => by have := h.dep i hi k hk; omega)
 unfold F_8
 simp only [Int.natCast_zero] at h1
 rw [h1]
 simp only [Option.bind_some, h2]
 cases d i with
 | none => rfl
 | some k => simp [chN]
theorem gnone_bad (h : PG l d) : F_g l = some false := by
 unfold F_g F_o
 rw [forL_all0 (p := fun _ => true) (r := 0) l fun i hi => by
  unfold F_15 F_7 F_n
  rw [number_eq, h.id i hi]
  rcases h.ent i hi with ⟨a1, a2, a3, a4⟩ | ⟨a1, a2, _⟩
  ·rw [a1, a2, a3]; rfl
  ·rw [a1, a2]; rfl]
 rw [List.all_eq_true.2 fun _ _ => rfl]
 rfl
theorem max_ge {x : List Int} (h0 : 0 < x.length) (hl : x.length ≤ 100000) : Ok (F_h x) fun y => ∀ i, i < x.length → x.getD i default ≤ y := by
 unfold F_h
 rw [decide_eq_false (by omega)]
 simp only [cond_false]
 refine Ok.chk (inb_iff.2 ⟨by omega, by omega⟩) (Ok.bind (Ok.loop (Q := fun y => ∀ i, i < x.length → x.getD i default ≤ y) (fun s : Int × Int => (∀ i : Nat, (i : Int) < s.2 → x.getD i default ≤ s.1) ∧ 0 ≤ s.2 ∧ s.2 ≤ x.length) (fun s => (x.length - s.2).toNat) (fun s hs => ?_) _ ⟨fun i hi => ?_, by simp only; omega, by simp only; omega⟩) fun y hy => Ok.ret hy)
 ·obtain ⟨h1, h2, h3⟩ := hs
  unfold F_1h
  refine Ok.ite (fun c => ?_) fun c => Ok.ret fun i hi => h1 i (by have := of_decide_eq_false c; omega)
  have c := of_decide_eq_true c
  refine Ok.chk (inb_iff.2 ⟨h2, c⟩) (Ok.chk (in64_iff.2 ⟨by omega, by omega⟩) (Ok.ret ⟨⟨fun i hi => ?_, by simp only; omega, by simp only; omega⟩, by simp only; omega⟩))
  simp only at hi ⊢
  by_cases e : (i : Int) < s.2
  ·exact Int.le_trans (h1 i e) (Int.le_max_left _ _)
  ·have : i = s.2.toNat := by omega
   subst this
   exact Int.le_max_right _ _
 ·simp only at hi
  have : i = 0 := by omega
  subst this
  exact Int.le_refl _
theorem gchains (h : PG l d) {m : List (Int × Int)} (hm : ∀ i (hi : i < l.length), aget l[i].ID m = some (i : Int)) : Ok (foldL (F_p l m) l 0 (List.replicate ((l.length : Int)).toNat 0)) fun s => s.length = l.length ∧ ∀ i, i < l.length → s.getD i default = chN (d i) := by
 have hlen := h.len
 refine Ok.foldI (all := l) (fun pre s => s.length = l.length ∧ ∀ i, i < pre.length → s.getD i default = chN (d i)) l [] 0 _ rfl rfl ⟨by simp, fun i hi => absurd hi (by simp)⟩ (fun pre x r s hw hs => ?_) fun s hs => hs
 have hp : pre.length < l.length := by rw [hw]; simp
 have hx : l[pre.length] = x := by simp [hw]
 unfold F_p
 rw [← hx, gchain_ok h hm hp]
 refine Ok.chk (kB (by rw [hs.1]; exact hp)) (Ok.ret ⟨by simp [hs.1], fun i hi => ?_⟩)
 simp only [Int.toNat_natCast, List.getD_eq_getElem?_getD, List.getElem?_set]
 by_cases e : pre.length = i
 ·subst e
  simp [hs.1, hp]
 ·rw [if_neg e]
  have := hs.2 i (by simp at hi; omega)
  rwa [List.getD_eq_getElem?_getD] at this
theorem any_no {s : List Int} {v : Int} {n : Nat} (hl : s.length = n) (h : ∀ i, i < n → s.getD i default ≠ v) : s.any (fun z => decide (v = z)) = false := by
 rw [List.any_eq_false]
 intro z h1 h2
 obtain ⟨i, hi, rfl⟩ := List.getElem_of_mem h1
 have e2 : s.getD i default = s[i] := by simp [hi]
 exact h i (by omega) (by rw [e2]; exact (of_decide_eq_true h2).symm)
theorem gcheck_long (h : PG l d) {m : List (Int × Int)} (hm : ∀ i (hi : i < l.length), aget l[i].ID m = some (i : Int)) (hs : ∀ i, i < l.length → ∃ k, d i = some k) {j k : Nat} (hj : j < l.length) (hk : d j = some k) (hk2 : 20 < k) : F_9 l m true = some 9 := by
 have hlen := h.len
 refine Ok.eq ?_
 unfold F_9
 rw [gnone_bad h]
 simp only [Option.bind_some, cond_false, Bool.not_true]
 refine Ok.chk (roomI_iff.2 ⟨by omega, by omega, by omega⟩) (Ok.bind (gchains h hm) fun s hs' => ?_)
 obtain ⟨s1, s2⟩ := hs'
 have no : ∀ v : Int, v < 0 → s.any (fun z => decide (v = z)) = false := fun v hv => any_no s1 fun i hi e => by
  obtain ⟨q, hq⟩ := hs i hi
  rw [s2 i hi, hq] at e
  simp only [chN] at e; omega
 rw [contains_eq, contains_eq, no _ (by omega), no _ (by omega)]
 simp only [Option.bind_some, cond_false]
 rw [decide_eq_true (show (0 : Int) < (l.length : Int) by omega)]
 simp only [cond_true]
 refine Ok.jn (P := fun b => b = true) (Ok.bind (max_ge (by omega) (by omega)) fun y hy => Ok.ret (decide_eq_true ?_)) fun b hb => by subst hb; exact Ok.ret rfl
 have := hy j (by omega)
 rw [s2 j hj, hk] at this
 simp only [chN] at this; omega
theorem gcheck_cycle (h : PG l d) {m : List (Int × Int)} (hm : ∀ i (hi : i < l.length), aget l[i].ID m = some (i : Int)) {j : Nat} (hj : j < l.length) (hk : d j = none) : F_9 l m true = some 8 := by
 have hlen := h.len
 refine Ok.eq ?_
 unfold F_9
 rw [gnone_bad h]
 simp only [Option.bind_some, cond_false, Bool.not_true]
 refine Ok.chk (roomI_iff.2 ⟨by omega, by omega, by omega⟩) (Ok.bind (gchains h hm) fun s hs' => ?_)
 obtain ⟨s1, s2⟩ := hs'
 have no : s.any (fun z => decide ((-1 : Int) = z)) = false := any_no s1 fun i hi e => by
  rw [s2 i hi] at e
  cases hd : d i with
  | none => rw [hd] at e; simp [chN] at e
  | some k => rw [hd] at e; simp only [chN] at e; omega
 have yes : s.any (fun z => decide ((-2 : Int) = z)) = true := by
  rw [List.any_eq_true]
  have hi : j < s.length := by omega
  refine ⟨s[j], List.getElem_mem hi, decide_eq_true ?_⟩
  have e := s2 j hj
  have e2 : s.getD j default = s[j] := by simp [hi]
  rw [e2, hk] at e
  exact e.symm
 rw [contains_eq, contains_eq, no, yes]
 exact Ok.ret rfl
end
def en (i : Nat) : GPacked := bif decide (i = 0) then GPacked.mk 1 false 0 [] [98,108,111,98,10] else GPacked.mk ((i : Int) + 1) true (i : Int) [GOp.mk 0 (4 + (i : Int)) [], GOp.mk 0 0 [120]] []
def enL (k : Nat) : List GPacked := (List.range (k + 1)).map en
def btX (i : Nat) : Str := [98,108,111,98,10] ++ List.replicate i 120
def obX (i : Nat) : GObject := GObject.mk ((i : Int) + 1) 1 (List.replicate i 120) [] 0 [] [] 0
theorem enL_len (k : Nat) : (enL k).length = k + 1 := by simp [enL]
theorem enL_get {k i : Nat} (hi : i < (enL k).length) : (enL k)[i] = en i := by simp [enL]
theorem en_id (i : Nat) : (en i).ID = (i : Int) + 1 := by
 unfold en
 by_cases e : i = 0
 ·subst e; rfl
 ·rw [decide_eq_false e]; rfl
theorem en_ap {i : Nat} (hi : i ≤ 100) : F_a (btX i) [GOp.mk 0 (4 + ((i + 1 : Nat) : Int)) [], GOp.mk 0 0 [120]] = some (btX (i + 1),0) := by
 have hl : (btX i).length = 5 + i := by simp [btX]; omega
 have h1 : ∀ o ∈ [GOp.mk 0 (4 + ((i + 1 : Nat) : Int)) [], GOp.mk 0 0 [120]], opOK (btX i).length o := fun o ho => by
  simp only [List.mem_cons, List.not_mem_nil, or_false] at ho
  rcases ho with rfl | rfl
  ·exact .inr ⟨by simp only; omega, by simp, rfl, by simp only; omega⟩
  ·exact .inl ⟨rfl, rfl, by simp⟩
 have h2 : ([GOp.mk 0 (4 + ((i + 1 : Nat) : Int)) [], GOp.mk 0 0 [120]].map opN).sum ≤ 65536 := by
  simp only [List.map_cons, List.map_nil, List.sum_cons, List.sum_nil, opN, List.length_cons, List.length_nil, show decide ((0 : Int) < 1) = true from rfl, cond_true]
  rw [decide_eq_false (by omega)]
  simp only [cond_false]; omega
 rw [apply_ops h1 (by simp) (by omega) h2]
 have e : ((0 : Int) + (4 + ((i + 1 : Nat) : Int))).toNat = (btX i).length := by omega
 simp only [List.flatMap_cons, List.flatMap_nil, List.append_nil, opB, e, List.take_length, Int.toNat_zero, List.drop_zero, Int.add_zero, List.take_zero, List.nil_append]
 simp [btX, List.replicate_succ']
theorem en_pk {k : Nat} (hk : k ≤ 20) : PK (enL k) (fun i => i) btX := by
 have hl := enL_len k
 refine ⟨by omega, fun i hi => ?_, fun i j hi hj e => ?_, fun i hi => ?_, fun i hi => ⟨by omega, by omega⟩, fun i hi => by simp [btX]; omega⟩
 ·rw [enL_get hi, en_id]; simp [idB]; omega
 ·rw [enL_get hi, enL_get hj, en_id, en_id] at e; omega
 ·rw [enL_get hi]
  cases i with
  | zero => exact .inl ⟨rfl, rfl, rfl, rfl, by simp [en, btX]⟩
  | succ i => exact .inr ⟨rfl, rfl, i, by omega, by rw [enL_get (by omega), en_id]; simp [en], rfl, en_ap (by omega)⟩
theorem en_pg {k : Nat} (hk : k ≤ 21) : PG (enL k) (fun i => some i) := by
 have hl := enL_len k
 refine ⟨by omega, fun i hi => ?_, fun i j hi hj e => ?_, fun i hi => ?_, fun i hi q hq => by cases hq; omega⟩
 ·rw [enL_get hi, en_id]; simp [idB]; omega
 ·rw [enL_get hi, enL_get hj, en_id, en_id] at e; omega
 ·rw [enL_get hi]
  cases i with
  | zero => exact .inl ⟨rfl, rfl, rfl, rfl⟩
  | succ i => exact .inr ⟨rfl, rfl, i, by omega, by rw [enL_get (by omega), en_id]; simp [en], rfl⟩
def cyL (k : Nat) : List GPacked := GPacked.mk 1 true ((k : Int) + 1) [GOp.mk 0 1 []] [] :: (List.range k).map fun i => en (i + 1)
theorem cy_set (k : Nat) : (enL k).set 0 (GPacked.mk 1 true ((k : Int) + 1) [GOp.mk 0 1 []] []) = cyL k := by
 simp [enL, cyL, List.range_succ_eq_map, Function.comp_def]
theorem cy_pg {k : Nat} (h0 : 1 ≤ k) (hk : k ≤ 21) : PG (cyL k) (fun _ => none) := by
 have hl : (cyL k).length = k + 1 := by simp [cyL]
 have hid : ∀ i (hi : i < (cyL k).length), (cyL k)[i].ID = (i : Int) + 1 := fun i hi => by
  cases i with
  | zero => simp [cyL]
  | succ i => simp [cyL, en_id]
 refine ⟨by omega, fun i hi => ?_, fun i j hi hj e => ?_, fun i hi => ?_, fun i hi q hq => by cases hq⟩
 ·rw [hid i hi]; simp [idB]; omega
 ·rw [hid i hi, hid j hj] at e; omega
 ·refine .inr ?_
  cases i with
  | zero =>
   have e : (cyL k)[0] = GPacked.mk 1 true ((k : Int) + 1) [GOp.mk 0 1 []] [] := rfl
   rw [e]
   exact ⟨rfl, rfl, k, by omega, by rw [hid k (by omega)], rfl⟩
  | succ i =>
   have e : (cyL k)[i + 1] = en (i + 1) := by simp [cyL]
   rw [e]
   exact ⟨rfl, rfl, i, by omega, by rw [hid i (by omega)]; simp [en], rfl⟩
theorem awake14 : F_14 = some true := by
 have ha : F_a [98,108,111,98,10,97,98] [GOp.mk 0 6 []] = some ([98,108,111,98,10,97],0) := by
  have h1 : ∀ o ∈ [GOp.mk 0 6 []], opOK ([98,108,111,98,10,97,98] : Str).length o := fun o ho => by
   simp at ho; subst ho
   exact .inr ⟨by decide, by decide, rfl, by simp⟩
  rw [apply_ops h1 (by simp) (by simp) (by simp [opN])]
  rfl
 have hpk := pk_two (p := 1) (q := 2) (b := [98,108,111,98,10,97,98]) (c := [98,108,111,98,10,97]) (by decide) (by decide) (by decide) (by simp) (by simp) ha
 have fw : ∀ (i : Int) (d : Str), d.length ≤ 100 → Few (GObject.mk i 1 d [] 0 [] [] 0) := fun i d h => ⟨by simp only; omega, by simp, by simp, by simp⟩
 have p1 : F_b 1 [98,108,111,98,10,97,98] = some (GObject.mk 1 1 [97,98] [] 0 [] [] 0,0) := parse_back (o := GObject.mk 1 1 [97,98] [] 0 [] [] 0) (fw _ _ (by simp)) (by decide)
 have p2 : F_b 2 [98,108,111,98,10,97] = some (GObject.mk 2 1 [97] [] 0 [] [] 0,0) := parse_back (o := GObject.mk 2 1 [97] [] 0 [] [] 0) (fw _ _ (by simp)) (by decide)
 have hres := resolve_ok hpk (ob := fun i => bif decide (i = 0) then GObject.mk 1 1 [97,98] [] 0 [] [] 0 else GObject.mk 2 1 [97] [] 0 [] [] 0) fun i hi => by
  match i, hi with
  | 0, _ => exact p1
  | 1, _ => exact p2
  | i + 2, h => simp at h; omega
 have hc := Chain_ok hpk (i := 1) (by simp)
 unfold F_14
 rw [hres]
 simp only [Option.bind_some, List.length_cons, List.length_nil, List.range'_succ, List.range'_zero, List.map_cons, List.map_nil, grp, jn, chk]
 rw [show F_6 [GPacked.mk 1 false 0 [] [98,108,111,98,10,97,98], GPacked.mk 2 true 1 [GOp.mk 0 6 []] []] 2 = some 1 from hc]
 simp [inb]
theorem obX_parse {i : Nat} (hi : i ≤ 100) : F_b ((i : Int) + 1) (btX i) = some (obX i, 0) := by
 have hf : Few (obX i) := ⟨by simp [obX]; omega, by simp [obX], by simp [obX], by simp [obX]⟩
 have hv : vlB (obX i) = 0 := by
  unfold vlB ryt oth obX
  have h1 : idB ((i : Int) + 1) = true := by simp [idB]; omega
  rw [h1]
  simp only [List.length_replicate, List.length_nil]
  rw [decide_eq_false (show ¬ (65536 : Int) < (i : Int) by omega)]
  rfl
 have e : txt (obX i) = btX i := by unfold txt obX btX; rfl
 have := parse_back hf hv
 rw [e] at this
 exact this
theorem chains_loop {n : Int} {k : Nat} (hk : 18 + n % 2 ^ 2 = (k : Int)) (k2 : k ≤ 21) : loop (F_1o n) (1,[(GPacked.mk 1 false 0 [] [98,108,111,98,10])]) = some (enL k) := by
  refine Ok.eq (Ok.loop (fun x : Int × List GPacked => ∃ m : Nat, x.1 = (m : Int) + 1 ∧ m ≤ k ∧ x.2 = enL m) (fun x => (k + 1 - x.1).toNat) (fun x hx => ?_) _ ⟨0, rfl, by omega, rfl⟩)
  obtain ⟨i, out⟩ := x
  obtain ⟨m, rfl, hm, rfl⟩ := hx
  unfold F_1o
  simp only
  rw [hk]
  refine Ok.ite (fun c => ?_) fun c => ?_
  ·have c := of_decide_eq_true c
   have hl := enL_len m
   refine Ok.chk (in64_iff.2 ⟨by omega, by omega⟩) (Ok.chk (in64_iff.2 ⟨by omega, by omega⟩) (Ok.chk (room_iff.2 (by simp; omega)) (Ok.chk (in64_iff.2 ⟨by omega, by omega⟩) (Ok.ret ⟨⟨m + 1, by simp only; omega, by omega, ?_⟩, by simp only; omega⟩))))
   simp only [enL, List.range_succ (n := m + 1), List.map_append, List.map_cons, List.map_nil, en]
   rw [decide_eq_false (by omega)]
   simp only [cond_false, Int.natCast_add, Int.natCast_one]
  ·have c := of_decide_eq_false c
   have : m = k := by omega
   subst this
   exact Ok.ret rfl
theorem cy_res {k : Nat} (k1 : 18 ≤ k) (k2 : k ≤ 21) : F_4 (cyL k) = some ([],8) ∧ F_6 (cyL k) 1 = some (-1) := by
 have hcy := cy_pg (k := k) (by omega) k2
 have hcl : (cyL k).length = k + 1 := by simp [cyL]
 have hp0 : (cyL k)[0]'(by omega) = GPacked.mk 1 true ((k : Int) + 1) [GOp.mk 0 1 []] [] := rfl
 obtain ⟨mc, ec, hmc⟩ := places_ok (by omega) hcy.inj
 have hres : F_4 (cyL k) = some ([],8) := by
  unfold F_4
  rw [decide_eq_false (by omega), ec]
  simp only [cond_false, Option.bind_some]
  rw [gcheck_cycle hcy hmc (j := 0) (by omega) rfl]
  rfl
 have hch : F_6 (cyL k) 1 = some (-1) := by
  have := gchain_ok hcy hmc (i := 0) (by omega)
  rw [hp0] at this
  unfold F_6
  rw [ec]
  simp only [Option.bind_some]
  rw [show F_8 (cyL k) mc 1 = some (-2) from this]
  rfl
 exact ⟨hres, hch⟩
theorem en_res {k : Nat} (k2 : k ≤ 21) : F_4 (enL k) = some (if k ≤ 20 then ((List.range' 0 (enL k).length).map obX, 0) else ([],9)) := by
 have hl := enL_len k
 by_cases c : k ≤ 20
 ·rw [if_pos c]
  exact resolve_ok (en_pk c) (ob := obX) fun i hi => by
   rw [enL_get hi, en_id]; exact obX_parse (by omega)
 ·rw [if_neg c]
  have hpg := en_pg k2
  obtain ⟨m, e, hm⟩ := places_ok (by omega) hpg.inj
  unfold F_4
  rw [decide_eq_false (by omega), e]
  simp only [cond_false, Option.bind_some]
  rw [gcheck_long hpg hm (fun i _ => ⟨i, rfl⟩) (j := 21) (k := 21) (by omega) rfl (by omega)]
  rfl
theorem chains14 {n : Int} : F_1f n = some true := by
 have h1 : 0 ≤ n % 2 ^ 2 := Int.emod_nonneg _ (by decide)
 have h2 : n % 2 ^ 2 < 4 := Int.emod_lt_of_pos _ (by decide)
 obtain ⟨k, hk⟩ : ∃ k : Nat, 18 + n % 2 ^ 2 = (k : Int) := ⟨(18 + n % 2 ^ 2).toNat, by omega⟩
 have k1 : 18 ≤ k := by omega
 have k2 : k ≤ 21 := by omega
 refine Ok.eq ?_
 unfold F_1f
 rw [chains_loop hk k2, hk]
 have hl := enL_len k
 refine Ok.chk (in64_iff.2 ⟨by omega, by omega⟩) ?_
 simp only [Option.bind_some]
 obtain ⟨hres, hch⟩ := cy_res k1 k2
 obtain ⟨y, hr, hy1, hy2⟩ : ∃ y, F_4 (enL k) = some y ∧ (k ≤ 20 → y = ((List.range' 0 (enL k).length).map obX, 0)) ∧ (¬ k ≤ 20 → y = ([],9)) :=
  ⟨_, en_res k2, fun c => if_pos c, fun c => if_neg c⟩
 rw [hr]
 simp only [Option.bind_some]
 refine Ok.jn (P := fun o : Fl Unit Bool => o = .nx ()) ?_ fun o ho => ?_
 ·by_cases c : k ≤ 20
  ·have hc := Chain_ok (en_pk c) (i := k) (by omega)
   rw [enL_get, en_id] at hc
   have y2 : y.2 = 0 := by rw [hy1 c]
   have yl : (y.1.length : Int) = (k : Int) + 1 := by rw [hy1 c]; simp [hl]
   have yd : ((y.1.getD ((k : Int)).toNat default).Data.length : Int) = (k : Int) := by
    rw [hy1 c, hl]
    simp only
    rw [List.getD_eq_getElem?_getD, List.getElem?_map, Int.toNat_natCast, List.getElem?_range' (by omega)]
    simp [obX]
   refine Ok.ite (fun h => absurd (of_decide_eq_true h) (by omega)) fun _ => ?_
   refine Ok.ite (fun h => by rw [y2] at h; simp at h) fun _ => ?_
   refine Ok.chk (in64_iff.2 ⟨by omega, by omega⟩) ?_
   refine Ok.ite (fun h => by rw [yl] at h; simp at h) fun _ => ?_
   refine Ok.chk (inb_iff.2 ⟨by omega, by omega⟩) ?_
   refine Ok.ite (fun h => by rw [yd] at h; simp at h) fun _ => ?_
   refine Ok.chk (in64_iff.2 ⟨by omega, by omega⟩) ?_
   refine Ok.bind (Ok.of hc rfl) fun z hz => ?_
   subst hz
   exact Ok.ite (fun h => by simp at h) fun _ => Ok.ret rfl
  ·rw [hy2 c, decide_eq_true (show (20 : Int) < (k : Int) by omega)]
   exact Ok.ret rfl
 ·subst ho
  rw [Fl_nx]
  refine Ok.chk (in64_iff.2 ⟨by omega, by omega⟩) (Ok.chk (inb_iff.2 ⟨by omega, by omega⟩) ?_)
  rw [cy_set, hres]
  simp only [Option.bind_some, decide_true, cond_true]
  rw [hch]
  simp only [jn, Option.bind_some, decide_true, cond_true]
  rw [awake14]
  exact Ok.ret rfl
theorem call14k {n : Int} : ACall Tryd.prog 4 [.int .i64 n] [] (fun r H => r = .bool true ∧ H = []) := Wq_1f.w chains14
end Go.Ab
