/- Patterns: heights, numbers of nodes, and which are right. -/
import Derived.Test.YtgbaffbfggjmgaaGreatDoorLA
import Derived.Test.YtgbaffbfggjmgaaGreatDoorAbHo
import Derived.Test.YtgbaffbfggjmgaaGreatDoorLD
import Derived.Test.YtgbaffbfggjmgaaGreatDoorAbMir
import Derived.Test.YtgbaffbfggjmgaaGreatDoorMI
set_option linter.all false
set_option linter.all false
namespace Go.Ab
open Go.Proofs
theorem in64_s {n : Int} (h1 : -1000000000000000 ≤ n) (h2 : n ≤ 1000000000000000) : in64 n = true := in64_iff.2 ⟨by omega, by omega⟩
theorem room_s {n b : Nat} (h : n * b ≤ 100000000) : room n b = true := room_iff.2 (by omega)
theorem getD_at {α : Type} [Inhabited α] {l pre r : List α} {x : α} (hw : l = pre ++ x :: r) : l.getD pre.length default = x := by rw [hw]; simp
theorem len_at {α : Type} {l pre r : List α} {x : α} (hw : l = pre ++ x :: r) : pre.length < l.length := by rw [hw]; simp
theorem mem_at {α : Type} {l pre r : List α} {x : α} (hw : l = pre ++ x :: r) : x ∈ l := by rw [hw]; simp
mutual
def GNode.hgt : GNode → Nat
 | ⟨_, _, k, _, _⟩ => GNode.hgts k + 1
def GNode.hgts : List GNode → Nat
 | [] => 0
 | a :: r => max (GNode.hgt a) (GNode.hgts r)
end
theorem hgt_eq (x : GNode) : x.hgt = GNode.hgts x.Kids + 1 := by cases x; simp only [GNode.hgt]
theorem hgts_mem : ∀ {l : List GNode} {k : GNode}, k ∈ l → k.hgt ≤ GNode.hgts l
 | a :: r, k, h => by
  simp only [GNode.hgts]
  rcases List.mem_cons.1 h with rfl | h
  ·omega
  ·have := hgts_mem h; omega
theorem kid_hgt {x k : GNode} (h : k ∈ x.Kids) : k.hgt < x.hgt := by rw [hgt_eq x]; have := hgts_mem h; omega
theorem hgt_pos (x : GNode) : 1 ≤ x.hgt := by rw [hgt_eq]; omega
theorem GNode.ind {P : GNode → Prop} (h : ∀ x, (∀ k ∈ x.Kids, P k) → P x) : ∀ x, P x := by
 have : ∀ n (x : GNode), x.hgt ≤ n → P x := by
  intro n
  induction n with
  | zero => intro x hx; have := hgt_pos x; omega
  | succ n ih => intro x hx; exact h x fun k hk => ih k (by have := kid_hgt hk; omega)
 exact fun x => this x.hgt x (Nat.le_refl _)
mutual
def GNode.cnt : GNode → Int
 | ⟨_, _, k, _, _⟩ => GNode.cnts k + 1
def GNode.cnts : List GNode → Int
 | [] => 0
 | a :: r => GNode.cnt a + GNode.cnts r
end
theorem cnt_eq (x : GNode) : x.cnt = GNode.cnts x.Kids + 1 := by cases x; simp only [GNode.cnt]
theorem cnts_nn' : ∀ {l : List GNode}, (∀ k ∈ l, 1 ≤ k.cnt) → (l.length : Int) ≤ GNode.cnts l
 | [], _ => by simp [GNode.cnts]
 | a :: r, h => by
  have h1 := h a (by simp)
  have h2 := cnts_nn' (l := r) fun k hk => h k (by simp [hk])
  simp only [GNode.cnts, List.length_cons]; omega
theorem cnt_pos : ∀ x : GNode, 1 ≤ x.cnt := GNode.ind fun x ih => by rw [cnt_eq]; have := cnts_nn' ih; omega
theorem cnts_len (l : List GNode) : (l.length : Int) ≤ GNode.cnts l := cnts_nn' fun k _ => cnt_pos k
theorem cnts_append : ∀ a b : List GNode, GNode.cnts (a ++ b) = GNode.cnts a + GNode.cnts b
 | [], b => by simp [GNode.cnts]
 | x :: r, b => by simp only [List.cons_append, GNode.cnts, cnts_append r b]; omega
theorem cnts_mem {l : List GNode} {k : GNode} (h : k ∈ l) : k.cnt ≤ GNode.cnts l := by
 obtain ⟨a, b, rfl⟩ := List.append_of_mem h
 have h1 := cnts_len a
 have h2 := cnts_len b
 rw [cnts_append]; simp only [GNode.cnts]; omega
theorem kid_cnt {x k : GNode} (h : k ∈ x.Kids) : k.cnt < x.cnt := by rw [cnt_eq x]; have := cnts_mem h; omega
theorem kids_cnt (x : GNode) : (x.Kids.length : Int) < x.cnt := by rw [cnt_eq x]; have := cnts_len x.Kids; omega
theorem nodes_ok : ∀ (x : GNode) (m : Nat), x.hgt ≤ m → Ok (FR_5 m x) (· = min x.cnt 201) := by
 refine GNode.ind fun x ih m hm => ?_
 cases m with
 | zero => have := hgt_pos x; omega
 | succ m =>
  simp only [FR_5]
  refine Ok.bind (Ok.forI (all := x.Kids) (Q := fun o => o = if 1 + GNode.cnts x.Kids ≤ 200 then .nx (1 + GNode.cnts x.Kids) else .ex 201) (fun pre s => s = 1 + GNode.cnts pre ∧ s ≤ 200) x.Kids [] 0 1 rfl rfl ⟨by simp [GNode.cnts], by omega⟩ (fun pre k r s hw hs => ?_) fun s hs => ?_) fun o ho => ?_
  ·obtain ⟨hs, hs2⟩ := hs
   have hk := mem_at hw
   have h1 := cnts_len pre
   have h2 := cnts_len r
   have h3 := cnt_pos k
   have hc : GNode.cnts x.Kids = GNode.cnts pre + (k.cnt + GNode.cnts r) := by rw [hw, cnts_append]; simp only [GNode.cnts]
   refine Ok.bind (ih k hk m (by have := kid_hgt hk; omega)) fun y hy => ?_
   subst hy
   refine Ok.chk (in64_s (by omega) (by omega)) (Ok.ite (fun c => ?_) fun c => ?_)
   ·have c := of_decide_eq_true c
    refine Ok.ret ?_
    show Fl.ex 201 = _
    rw [if_neg (by omega)]
   ·have c := of_decide_eq_false c
    exact Ok.ret ⟨by rw [cnts_append]; simp only [GNode.cnts]; omega, by omega⟩
  ·rw [if_pos (by omega), ← hs.1]
  ·subst ho
   rw [cnt_eq]
   by_cases c : 1 + GNode.cnts x.Kids ≤ 200
   ·rw [if_pos c]; exact Ok.ret (by show _ = min _ _; omega)
   ·rw [if_neg c]; exact Ok.ret (by show _ = min _ _; omega)
theorem nodes_eq (x : GNode) : F_5 x = some (min x.cnt 201) := lim_of ⟨x.hgt, fun m hm => (nodes_ok x m hm).eq⟩
theorem hgts_append : ∀ a b : List GNode, GNode.hgts (a ++ b) = max (GNode.hgts a) (GNode.hgts b)
 | [], b => by simp [GNode.hgts]
 | x :: r, b => by simp only [List.cons_append, GNode.hgts, hgts_append r b]; omega
theorem depth_ok : ∀ (x : GNode) (m : Nat) (left : Int), x.hgt ≤ m → 0 ≤ left → left ≤ 1000 → Ok (FR_6 m x left) (· = min (x.hgt : Int) (left + 1)) := by
 refine GNode.ind fun x ih m left hm h0 h1 => ?_
 cases m with
 | zero => have := hgt_pos x; omega
 | succ m =>
  have hp := hgt_pos x
  simp only [FR_6]
  refine Ok.ite (fun c => ?_) fun c => ?_
  ·have c := of_decide_eq_true c
   exact Ok.ret (by show _ = min _ _; omega)
  ·have c := of_decide_eq_false c
   refine Ok.bind (Ok.foldI (all := x.Kids) (Q := fun o => o = min (GNode.hgts x.Kids : Int) left) (fun pre s => s = min (GNode.hgts pre : Int) left) x.Kids [] 0 0 rfl rfl (by simp only [GNode.hgts]; omega) (fun pre k r s hw hs => ?_) fun s hs => hs) fun o ho => ?_
   ·have hk := mem_at hw
    refine Ok.chk (in64_s (by omega) (by omega)) (Ok.bind (ih k hk m (left - 1) (by have := kid_hgt hk; omega) (by omega) (by omega)) fun y hy => Ok.ret ?_)
    subst hy hs
    rw [hgts_append]; simp only [GNode.hgts]; omega
   ·subst ho
    refine Ok.chk (in64_s (by omega) (by omega)) (Ok.ret ?_)
    rw [hgt_eq]; omega
theorem depth_eq (x : GNode) : F_6 x 20 = some (min (x.hgt : Int) 21) := lim_of ⟨x.hgt, fun m hm => (depth_ok x m 20 hm (by omega) (by omega)).eq⟩
def rng1 (l : List GRange) (i : Nat) : Prop := (l.getD i default).Low.toNat ≤ (l.getD i default).High.toNat ∧ (0 < i → (l.getD (i - 1) default).High.toNat + 1 < (l.getD i default).Low.toNat)
def rngP (l : List GRange) : Prop := ∀ i, i < l.length → rng1 l i
def okN (x : GNode) : Prop :=
 (x.Op = 1 ∧ rngP x.Ranges ∧ x.Ranges ≠ [] ∧ x.Kids = [] ∧ x.Min = 0 ∧ x.Max = 0) ∨
 ((x.Op = 2 ∨ x.Op = 3) ∧ 2 ≤ x.Kids.length ∧ x.Ranges = [] ∧ x.Min = 0 ∧ x.Max = 0 ∧ ∀ k ∈ x.Kids, k.Op ≠ x.Op) ∨
 (x.Op = 4 ∧ x.Kids.length = 1 ∧ x.Ranges = [] ∧ 0 ≤ x.Min ∧ 1 ≤ x.Max ∧ x.Min ≤ x.Max ∧ x.Max ≤ 64 ∧ ¬ (x.Min = 1 ∧ x.Max = 1))
inductive Rgt : GNode → Prop
 | mk (x : GNode) (h : okN x) (hk : ∀ k ∈ x.Kids, Rgt k) : Rgt x
theorem Rgt.ok {x : GNode} (h : Rgt x) : okN x := by cases h; assumption
theorem Rgt.kid {x k : GNode} (h : Rgt x) (hk : k ∈ x.Kids) : Rgt k := by cases h with | mk _ _ h => exact h k hk
theorem rng_lo {l : List GRange} : ∀ i, (∀ j, j ≤ i → rng1 l j) → 2 * i ≤ (l.getD i default).Low.toNat
 | 0, h => by omega
 | i + 1, h => by
  have ih := rng_lo i fun j hj => h j (by omega)
  have h1 := (h i (by omega)).1
  have h2 := (h (i + 1) (Nat.le_refl _)).2 (by omega)
  simp only [Nat.add_sub_cancel] at h2
  omega
open Classical in
theorem set_ok (x : GNode) : F_x x = some (decide (rngP x.Ranges ∧ x.Ranges ≠ [] ∧ x.Kids = [] ∧ x.Min = 0 ∧ x.Max = 0)) := by
 refine Ok.eq ?_
 unfold F_x
 refine Ok.bind (Ok.forI (all := x.Ranges) (Q := fun o => (o = .nx () ∧ rngP x.Ranges) ∨ (o = .ex false ∧ ¬ rngP x.Ranges)) (fun pre _ => ∀ i, i < pre.length → rng1 x.Ranges i) x.Ranges [] 0 () rfl rfl (by simp) (fun pre r q s hw hs => ?_) fun s hs => .inl ⟨rfl, hs⟩) fun o ho => ?_
 ·have hl := len_at hw
  have hr := getD_at hw
  have hb : pre.length ≤ 128 := by
   by_cases c : pre.length ≤ 128
   ·exact c
   ·have := rng_lo (l := x.Ranges) 128 fun j hj => hs j (by omega)
    have := (x.Ranges.getD 128 default).Low.toNat_lt
    omega
  unfold F_1r
  refine Ok.ite (fun c => ?_) fun c => Ok.ite (fun c2 => ?_) fun c2 => ?_
  ·have c := of_decide_eq_true c
   refine Ok.ret (.inr ⟨rfl, fun h => ?_⟩)
   have := (h _ hl).1
   rw [hr] at this; omega
  ·have c := of_decide_eq_false c
   have c2 := of_decide_eq_true c2
   have e1 : ((pre.length : Int) - 1).toNat = pre.length - 1 := by omega
   have hlt := (x.Ranges.getD (pre.length - 1) default).High.toNat_lt
   refine Ok.chk (in64_s (by omega) (by omega)) (Ok.chk (inb_iff.2 ⟨by omega, by omega⟩) ?_)
   rw [e1]
   refine Ok.chk (in64_s (by omega) (by omega)) (Ok.ite (fun c3 => ?_) fun c3 => ?_)
   ·have c3 := of_decide_eq_true c3
    refine Ok.ret (.inr ⟨rfl, fun h => ?_⟩)
    have := (h _ hl).2 (by omega)
    rw [hr] at this; omega
   ·have c3 := of_decide_eq_false c3
    refine Ok.ret fun i hi => ?_
    simp only [List.length_append, List.length_singleton] at hi
    by_cases e : i = pre.length
    ·subst e
     exact ⟨by rw [hr]; omega, fun _ => by rw [hr]; omega⟩
    ·exact hs i (by omega)
  ·have c := of_decide_eq_false c
   have c2 := of_decide_eq_false c2
   refine Ok.ret fun i hi => ?_
   simp only [List.length_append, List.length_singleton] at hi
   have e : i = pre.length := by omega
   subst e
   exact ⟨by rw [hr]; omega, fun h => by omega⟩
 ·rcases ho with ⟨rfl, h⟩ | ⟨rfl, h⟩
  ·refine Ok.grp (Ok.grp (Ok.grp (Ok.ret ?_)))
   rw [Bool.eq_iff_iff]
   simp only [Bool.and_eq_true, decide_eq_true_eq]
   constructor
   ·rintro ⟨⟨⟨h1, h2⟩, h3⟩, h4⟩
    exact ⟨h, fun e => by simp [e] at h1, List.length_eq_zero_iff.1 (by omega), h3, h4⟩
   ·rintro ⟨_, h1, h2, h3, h4⟩
    have := List.length_pos_iff.2 h1
    exact ⟨⟨⟨by omega, by simp [h2]⟩, h3⟩, h4⟩
  ·refine Ok.ret ?_
   show false = _
   rw [eq_comm, decide_eq_false_iff_not]
   exact fun h' => h h'.1
theorem contains_go {α : Type} {body : Int → α → Unit → Option (Fl Unit Int)} (p : α → Prop) [DecidablePred p] : ∀ (xs : List α) (k : Int),0 ≤ k → (∀ k x, x ∈ xs → body k x () = some (if p x then .ex k else .nx ())) →
  ∃ o, forL body xs k () = some o ∧ ((∃ x ∈ xs, p x) → ∃ r, o = .ex r ∧ 0 ≤ r) ∧ ((∀ x ∈ xs, ¬ p x) → o = .nx ())
 | [], k, hk, h => ⟨.nx (), rfl, fun ⟨x, hx, _⟩ => by simp at hx, fun _ => rfl⟩
 | x :: r, k, hk, h => by
  simp only [forL, h k x (by simp)]
  by_cases c : p x
  ·simp only [if_pos c, Option.bind_some, Fl_ex]
   exact ⟨_, rfl, fun _ => ⟨k, rfl, hk⟩, fun hn => absurd c (hn x (by simp))⟩
  ·simp only [if_neg c, Option.bind_some, Fl_nx]
   obtain ⟨o, h1, h2, h3⟩ := contains_go p r (k + 1) (by omega) fun k y hy => h k y (by simp [hy])
   refine ⟨o, h1, fun ⟨y, hy, hp⟩ => ?_, fun hn => h3 fun y hy => hn y (by simp [hy])⟩
   rcases List.mem_cons.1 hy with rfl | hy
   ·exact absurd hp c
   ·exact h2 ⟨y, hy, hp⟩
open Classical in
theorem contains_b {α : Type} {body : Int → α → Unit → Option (Fl Unit Int)} (p : α → Prop) (xs : List α) [Decidable (∃ x ∈ xs, p x)] (h : ∀ k x, x ∈ xs → body k x () = some (if p x then .ex k else .nx ())) :
  (((forL body xs 0 ()).bind fun o => o.elim (fun _ => some (-1)) fun r => some r).bind fun y => some (decide (0 ≤ y))) = some (decide (∃ x ∈ xs, p x)) := by
 obtain ⟨o, h1, h2, h3⟩ := contains_go p xs 0 (Int.le_refl 0) h
 rw [h1]
 by_cases c : ∃ x ∈ xs, p x
 ·obtain ⟨r, rfl, hr⟩ := h2 c
  simp only [Option.bind_some, Fl_ex, decide_eq_true hr, decide_eq_true c]
 ·have := h3 fun x hx hp => c ⟨x, hx, hp⟩
  subst this
  simp only [Option.bind_some, Fl_nx, decide_eq_false c]
  rfl
open Classical in
theorem several_ok (x : GNode) : F_y x = some (decide (2 ≤ x.Kids.length ∧ x.Ranges = [] ∧ x.Min = 0 ∧ x.Max = 0 ∧ ∀ k ∈ x.Kids, k.Op ≠ x.Op)) := by
 have hc : F_1e x.Kids x = some (decide (∃ k ∈ x.Kids, k.Op = x.Op)) :=
  contains_b (body := F_1d x) (fun k : GNode => k.Op = x.Op) x.Kids fun k y _ => by
   by_cases c : y.Op = x.Op <;> simp [F_1d, F_t, c]
 refine Ok.eq ?_
 unfold F_y
 refine Ok.grp (Ok.grp (Ok.grp (Ok.jn (P := fun b => b = decide (2 ≤ x.Kids.length ∧ x.Ranges = [] ∧ x.Min = 0 ∧ x.Max = 0 ∧ ∀ k ∈ x.Kids, k.Op ≠ x.Op)) ?_ fun y hy => Ok.ret hy)))
 refine Ok.ite (fun c => ?_) fun c => Ok.ret ?_
 ·rw [hc]
  refine Ok.ret ?_
  simp only [Bool.and_eq_true, decide_eq_true_eq] at c
  rw [Bool.eq_iff_iff]
  simp only [Bool.not_eq_true', decide_eq_false_iff_not, decide_eq_true_eq]
  constructor
  ·intro h
   exact ⟨by omega, List.length_eq_zero_iff.1 (by omega), c.1.2, c.2, fun k hk e => h ⟨k, hk, e⟩⟩
  ·rintro ⟨_, _, _, _, h⟩ ⟨k, hk, e⟩
   exact h k hk e
 ·rw [eq_comm, decide_eq_false_iff_not]
  rintro ⟨h1, h2, h3, h4, _⟩
  simp [h2, h3, h4] at c
  omega
open Classical in
theorem repeat_ok (x : GNode) : F_z x = some (decide (x.Kids.length = 1 ∧ x.Ranges = [] ∧ 0 ≤ x.Min ∧ 1 ≤ x.Max ∧ x.Min ≤ x.Max ∧ x.Max ≤ 64 ∧ ¬ (x.Min = 1 ∧ x.Max = 1))) := by
 refine Ok.eq ?_
 unfold F_z
 refine Ok.grp (Ok.grp (Ok.jn (P := fun b => b = decide (((x.Kids.length : Int) = 1 ∧ (x.Ranges.length : Int) = 0) ∧ 0 ≤ x.Min ∧ max x.Min 1 ≤ x.Max)) ?_ fun y hy => Ok.grp (Ok.grp (Ok.ret ?_))))
 ·refine Ok.ite (fun c => Ok.ret ?_) fun c => Ok.ret ?_
  ·simp only [Bool.and_eq_true, decide_eq_true_eq] at c
   rw [decide_eq_decide]
   exact ⟨fun h => ⟨c.1, c.2, h⟩, fun h => h.2.2⟩
  ·rw [eq_comm, decide_eq_false_iff_not]
   intro h
   simp [h.1.1, h.1.2, h.2.1] at c
 ·subst hy
  rw [Bool.eq_iff_iff]
  simp only [Bool.and_eq_true, decide_eq_true_eq, Bool.or_eq_true, Bool.not_eq_true', decide_eq_false_iff_not]
  constructor
  ·rintro ⟨⟨⟨⟨h1, h2⟩, h3, h4⟩, h5⟩, h6⟩
   exact ⟨by omega, List.length_eq_zero_iff.1 (by omega), h3, by omega, by omega, h5, by omega⟩
  ·rintro ⟨h1, h2, h3, h4, h5, h6, h7⟩
   exact ⟨⟨⟨⟨by omega, by simp [h2]⟩, h3, by omega⟩, h6⟩, by omega⟩
open Classical in
theorem right_ok : ∀ (x : GNode) (m : Nat),4 * x.hgt ≤ m → Ok (FR_7 m x) (· = decide (Rgt x)) := by
 refine GNode.ind fun x ih m hm => ?_
 have hp := hgt_pos x
 obtain ⟨m, rfl⟩ : ∃ n, m = n + 4 := ⟨m - 4, by omega⟩
 have hc : FR_e (m + 3) x.Kids = some (decide (∃ k ∈ x.Kids, ¬ Rgt k)) := by
  simp only [FR_e, FR_i]
  refine contains_b (fun k => ¬ Rgt k) x.Kids fun k y hy => ?_
  have := (ih y hy m (by have := kid_hgt hy; omega)).eq
  simp only [FR_c, this, Option.bind_some]
  by_cases c : Rgt y <;> simp [c]
 simp only [FR_7]
 refine Ok.jn (P := fun b => b = decide (okN x)) ?_ fun y hy => ?_
 ·refine Ok.ite (fun c => ?_) fun c => ?_
  ·have c := of_decide_eq_true c
   rw [set_ok]
   refine Ok.ret (decide_eq_decide.2 ?_)
   unfold okN
   constructor
   ·exact fun h => .inl ⟨c, h⟩
   ·rintro (h | ⟨h, _⟩ | ⟨h, _⟩)
    ·exact h.2
    ·omega
    ·omega
  ·have c := of_decide_eq_false c
   refine Ok.jn (P := fun b => b = decide (x.Op = 2 ∨ x.Op = 3)) ?_ fun y hy => ?_
   ·refine Ok.ite (fun c2 => Ok.ret ?_) fun c2 => Ok.ret ?_
    ·have c2 := of_decide_eq_true c2
     simp [c2]
    ·have c2 := of_decide_eq_false c2
     simp [c2]
   ·subst hy
    refine Ok.ite (fun c2 => ?_) fun c2 => Ok.ite (fun c3 => ?_) fun c3 => Ok.ret ?_
    ·have c2 := of_decide_eq_true c2
     rw [several_ok]
     refine Ok.ret (decide_eq_decide.2 ?_)
     unfold okN
     constructor
     ·exact fun h => .inr (.inl ⟨c2, h⟩)
     ·rintro (h | h | ⟨h, _⟩)
      ·exact absurd h.1 c
      ·exact h.2
      ·omega
    ·have c2 := of_decide_eq_false c2
     have c3 := of_decide_eq_true c3
     rw [repeat_ok]
     refine Ok.ret (decide_eq_decide.2 ?_)
     unfold okN
     constructor
     ·exact fun h => .inr (.inr ⟨c3, h⟩)
     ·rintro (h | h | h)
      ·exact absurd h.1 c
      ·exact absurd h.1 c2
      ·exact h.2
    ·have c2 := of_decide_eq_false c2
     have c3 := of_decide_eq_false c3
     rw [eq_comm, decide_eq_false_iff_not]
     rintro (h | h | h)
     ·exact c h.1
     ·exact c2 h.1
     ·exact c3 h.1
 ·subst hy
  refine Ok.jn (P := fun b => b = decide (Rgt x)) ?_ fun y hy => Ok.ret hy
  refine Ok.ite (fun c => ?_) fun c => Ok.ret ?_
  ·have c := of_decide_eq_true c
   rw [hc]
   refine Ok.ret ?_
   rw [Bool.eq_iff_iff]
   simp only [Bool.not_eq_true', decide_eq_false_iff_not, decide_eq_true_eq]
   constructor
   ·exact fun h => .mk x c fun k hk => Classical.byContradiction fun hn => h ⟨k, hk, hn⟩
   ·rintro h ⟨k, hk, hn⟩
    exact hn (h.kid hk)
  ·have c := of_decide_eq_false c
   rw [eq_comm, decide_eq_false_iff_not]
   exact fun h => c h.ok
open Classical in
theorem right_eq (x : GNode) : F_7 x = some (decide (Rgt x)) := lim_of ⟨4 * x.hgt, fun m hm => (right_ok x m hm).eq⟩
end Go.Ab
namespace Go.Ab
open Go.Proofs
def sumI : List Int → Int
 | [] => 0
 | a :: r => a + sumI r
def maxI : List Int → Int
 | [] => 0
 | a :: r => max a (maxI r)
def minI : Int → List Int → Int
 | m, [] => m
 | m, a :: r => minI (min m a) r
mutual
def GNode.lon : GNode → Int
 | ⟨o, _, k, _, ma⟩ => min (if o = 1 then 1 else if o = 2 then sumI (GNode.lons k) else if o = 3 then maxI (GNode.lons k) else ma * (GNode.lons k).headD 0) 1025
def GNode.lons : List GNode → List Int
 | [] => []
 | a :: r => GNode.lon a :: GNode.lons r
end
theorem lons_map : ∀ l : List GNode, GNode.lons l = l.map GNode.lon
 | [] => by simp [GNode.lons]
 | a :: r => by simp only [GNode.lons, List.map_cons, lons_map r]
theorem lon_eq (x : GNode) : x.lon = min (if x.Op = 1 then 1 else if x.Op = 2 then sumI (x.Kids.map GNode.lon) else if x.Op = 3 then maxI (x.Kids.map GNode.lon) else x.Max * (x.Kids.map GNode.lon).headD 0) 1025 := by
 cases x; simp only [GNode.lon, lons_map]
theorem sumI_append : ∀ a b : List Int, sumI (a ++ b) = sumI a + sumI b
 | [], b => by simp [sumI]
 | x :: r, b => by simp only [List.cons_append, sumI, sumI_append r b]; omega
theorem maxI_append : ∀ a b : List Int, (∀ y ∈ a, 0 ≤ y) → (∀ y ∈ b, 0 ≤ y) → maxI (a ++ b) = max (maxI a) (maxI b)
 | [], b, _, hb => by
  have : ∀ l : List Int, (∀ y ∈ l, 0 ≤ y) → 0 ≤ maxI l := by
   intro l; induction l with
   | nil => intro _; simp [maxI]
   | cons a r ih => intro h; have := ih fun y hy => h y (by simp [hy]); simp only [maxI]; omega
  have := this b hb
  simp only [List.nil_append, maxI]; omega
 | x :: r, b, ha, hb => by
  have := maxI_append r b (fun y hy => ha y (by simp [hy])) hb
  simp only [List.cons_append, maxI, this]; omega
theorem sum_rng {f : GNode → Int} {c : Int} : ∀ {l : List GNode}, (∀ k ∈ l, 0 ≤ f k ∧ f k ≤ c) → 0 ≤ sumI (l.map f) ∧ sumI (l.map f) ≤ c * l.length ∧ ∀ k ∈ l, f k ≤ sumI (l.map f)
 | [], _ => by simp [sumI]
 | a :: r, h => by
  have h1 := h a (by simp)
  obtain ⟨h2, h3, h4⟩ := sum_rng (l := r) fun k hk => h k (by simp [hk])
  simp only [List.map_cons, sumI, List.length_cons, Int.natCast_add, Int.natCast_one, Int.mul_add, Int.mul_one]
  refine ⟨by omega, by omega, fun k hk => ?_⟩
  rcases List.mem_cons.1 hk with rfl | hk
  ·omega
  ·have := h4 k hk; omega
theorem max_rng {f : GNode → Int} {c : Int} (hc : 0 ≤ c) : ∀ {l : List GNode}, (∀ k ∈ l, 0 ≤ f k ∧ f k ≤ c) → 0 ≤ maxI (l.map f) ∧ maxI (l.map f) ≤ c ∧ ∀ k ∈ l, f k ≤ maxI (l.map f)
 | [], _ => by simp [maxI]; exact hc
 | a :: r, h => by
  have h1 := h a (by simp)
  obtain ⟨h2, h3, h4⟩ := max_rng hc (l := r) fun k hk => h k (by simp [hk])
  simp only [List.map_cons, maxI]
  refine ⟨by omega, by omega, fun k hk => ?_⟩
  rcases List.mem_cons.1 hk with rfl | hk
  ·omega
  ·have := h4 k hk; omega
theorem one_kid {x : GNode} (h : x.Kids.length = 1) : ∃ k, x.Kids = [k] := by
 match hk : x.Kids, h with
 | [k], _ => exact ⟨k, rfl⟩
theorem Rgt.kinds {x : GNode} (h : Rgt x) : (x.Op = 1 ∧ rngP x.Ranges ∧ x.Ranges ≠ []) ∨ (x.Op = 2 ∧ 2 ≤ x.Kids.length) ∨ (x.Op = 3 ∧ 2 ≤ x.Kids.length) ∨ (x.Op = 4 ∧ (∃ k, x.Kids = [k]) ∧ 0 ≤ x.Min ∧ 1 ≤ x.Max ∧ x.Min ≤ x.Max ∧ x.Max ≤ 64) := by
 rcases h.ok with h | ⟨h1 | h1, h2⟩ | h
 ·exact .inl ⟨h.1, h.2.1, h.2.2.1⟩
 ·exact .inr (.inl ⟨h1, h2.1⟩)
 ·exact .inr (.inr (.inl ⟨h1, h2.1⟩))
 ·exact .inr (.inr (.inr ⟨h.1, one_kid h.2.1, h.2.2.2.1, h.2.2.2.2.1, h.2.2.2.2.2.1, h.2.2.2.2.2.2.1⟩))
theorem lon_rng : ∀ x : GNode, Rgt x → 1 ≤ x.lon ∧ x.lon ≤ 1025 ∧ (x.lon ≤ 1024 → ∀ k ∈ x.Kids, k.lon ≤ x.lon) := by
 refine GNode.ind fun x ih hx => ?_
 have hk : ∀ k ∈ x.Kids, 0 ≤ k.lon ∧ k.lon ≤ 1025 := fun k hk => by have := ih k hk (hx.kid hk); omega
 have hlo : ∀ k ∈ x.Kids, 1 ≤ k.lon := fun k hk => (ih k hk (hx.kid hk)).1
 rw [lon_eq]
 rcases hx.kinds with ⟨h, _⟩ | ⟨h, h2⟩ | ⟨h, h2⟩ | ⟨h, ⟨k, h2⟩, h3, h4, h5, h6⟩
 ·rw [if_pos h]
  refine ⟨by omega, by omega, fun _ k hk => ?_⟩
  rcases hx.ok with h' | ⟨h1 | h1, h2⟩ | h'
  ·rw [h'.2.2.2.1] at hk; cases hk
  ·omega
  ·omega
  ·omega
 ·rw [if_neg (by omega), if_pos h]
  obtain ⟨s1, s2, s3⟩ := sum_rng hk
  obtain ⟨k, hkm⟩ := List.exists_mem_of_length_pos (l := x.Kids) (by omega)
  have := s3 k hkm; have := hlo k hkm
  exact ⟨by omega, by omega, fun _ k hk => by have := s3 k hk; omega⟩
 ·rw [if_neg (by omega), if_neg (by omega), if_pos h]
  obtain ⟨s1, s2, s3⟩ := max_rng (by omega) hk
  obtain ⟨k, hkm⟩ := List.exists_mem_of_length_pos (l := x.Kids) (by omega)
  have := s3 k hkm; have := hlo k hkm
  exact ⟨by omega, by omega, fun _ k hk => by have := s3 k hk; omega⟩
 ·rw [if_neg (by omega), if_neg (by omega), if_neg (by omega), h2]
  have h7 := hlo k (by rw [h2]; simp)
  have : 1 * k.lon ≤ x.Max * k.lon := Int.mul_le_mul_of_nonneg_right h4 (by omega)
  simp only [List.map_cons, List.map_nil, List.headD_cons]
  exact ⟨by omega, by omega, fun _ k' hk' => by simp at hk'; subst hk'; omega⟩
theorem longest_ok : ∀ (x : GNode) (m : Nat), x.hgt ≤ m → Rgt x → x.cnt ≤ 1000 → Ok (FR_2 m x) (· = x.lon) := by
 refine GNode.ind fun x ih m hm hx hc => ?_
 cases m with
 | zero => have := hgt_pos x; omega
 | succ m =>
  have hrec : ∀ k ∈ x.Kids, Ok (FR_2 m k) (· = k.lon) := fun k hk => ih k hk m (by have := kid_hgt hk; omega) (hx.kid hk) (by have := kid_cnt hk; omega)
  have hkr : ∀ k ∈ x.Kids, 0 ≤ k.lon ∧ k.lon ≤ 1025 := fun k hk => by have := lon_rng k (hx.kid hk); omega
  have hlen := kids_cnt x
  simp only [FR_2]
  refine Ok.jn (P := fun o => min o 1025 = x.lon) ?_ fun o ho => Ok.ret ho
  rw [lon_eq]
  refine Ok.ite (fun c => Ok.ret (by rw [if_pos (of_decide_eq_true c)])) fun c => ?_
  have c := of_decide_eq_false c
  rw [if_neg c]
  refine Ok.ite (fun c2 => ?_) fun c2 => ?_
  ·rw [if_pos (of_decide_eq_true c2)]
   refine Ok.bind (Ok.foldI (all := x.Kids) (Q := fun o => o = sumI (x.Kids.map GNode.lon)) (fun pre s => s = sumI (pre.map GNode.lon)) x.Kids [] 0 0 rfl rfl rfl (fun pre k r s hw hs => ?_) fun s hs => hs) fun o ho => Ok.ret (by rw [ho])
   have hk := mem_at hw
   have hl := len_at hw
   have hpr := sum_rng (f := GNode.lon) (c := 1025) (l := pre) fun k hk => hkr k (by rw [hw]; simp [hk])
   have := hkr k hk
   refine Ok.bind (hrec k hk) fun y hy => ?_
   subst hy
   refine Ok.chk (in64_s (by omega) (by omega)) (Ok.ret ?_)
   rw [hs, List.map_append, sumI_append]; simp [sumI]
  ·have c2 := of_decide_eq_false c2
   rw [if_neg c2]
   refine Ok.ite (fun c3 => ?_) fun c3 => ?_
   ·rw [if_pos (of_decide_eq_true c3)]
    refine Ok.bind (Ok.foldI (all := x.Kids) (Q := fun o => o = maxI (x.Kids.map GNode.lon)) (fun pre s => s = maxI (pre.map GNode.lon)) x.Kids [] 0 0 rfl rfl rfl (fun pre k r s hw hs => ?_) fun s hs => hs) fun o ho => Ok.ret (by rw [ho])
    have hk := mem_at hw
    refine Ok.bind (hrec k hk) fun y hy => ?_
    subst hy
    refine Ok.ret ?_
    have := hkr k hk
    rw [hs, List.map_append, maxI_append _ _ (fun y hy => by obtain ⟨z, hz, rfl⟩ := List.mem_map.1 hy; exact (hkr z (by rw [hw]; simp [hz])).1) (fun y hy => by simp at hy; subst hy; omega)]
    simp only [List.map_cons, List.map_nil, maxI]; omega
   ·have c3 := of_decide_eq_false c3
    rw [if_neg c3]
    rcases hx.kinds with ⟨h, _⟩ | ⟨h, h2⟩ | ⟨h, h2⟩ | ⟨h, ⟨k, h2⟩, h3, h4, h5, h6⟩
    ·exact absurd h c
    ·exact absurd h c2
    ·exact absurd h c3
    ·have hk : k ∈ x.Kids := by rw [h2]; simp
     have := hkr k hk
     have e : x.Kids.getD 0 default = k := by rw [h2]; rfl
     have hm1 : 0 ≤ x.Max * k.lon := Int.mul_nonneg (by omega) (by omega)
     have hm2 : x.Max * k.lon ≤ 64 * 1025 := Int.mul_le_mul h6 (by omega) (by omega) (by omega)
     rw [e]
     refine Ok.chk (inb_iff.2 ⟨by omega, by rw [h2]; simp⟩) (Ok.bind (hrec k hk) fun y hy => ?_)
     subst hy
     refine Ok.chk (in64_s (by omega) (by omega)) (Ok.ret ?_)
     rw [h2]; rfl
theorem longest_eq {x : GNode} (hx : Rgt x) (hc : x.cnt ≤ 1000) : F_2 x = some x.lon := lim_of ⟨x.hgt, fun m hm => (longest_ok x m hm hx hc).eq⟩
structure PV (x : GNode) : Prop where
 cnt : x.cnt ≤ 200
 hgt : x.hgt ≤ 20
 rgt : Rgt x
 lon : x.lon ≤ 1024
open Classical in
noncomputable def GNode.err (x : GNode) : Int := if 200 < x.cnt then 3 else if 20 < x.hgt then 9 else if ¬ Rgt x then 1 else if 1024 < x.lon then 3 else 0
open Classical in
theorem valid_eq (x : GNode) : F_f x = some x.err := by
 refine Ok.eq ?_
 unfold F_f GNode.err
 rw [nodes_eq]
 refine Ok.bind (P := fun y => y = min x.cnt 201) ⟨_, rfl, rfl⟩ fun y hy => ?_
 subst hy
 refine Ok.ite (fun c => Ok.ret (by rw [if_pos (by have := of_decide_eq_true c; omega)])) fun c => ?_
 have c := of_decide_eq_false c
 rw [if_neg (by omega), depth_eq]
 refine Ok.bind (P := fun y => y = min (x.hgt : Int) 21) ⟨_, rfl, rfl⟩ fun y hy => ?_
 subst hy
 refine Ok.ite (fun c => Ok.ret (by rw [if_pos (by have := of_decide_eq_true c; omega)])) fun c => ?_
 have c := of_decide_eq_false c
 rw [if_neg (by omega), right_eq]
 refine Ok.bind (P := fun y => y = decide (Rgt x)) ⟨_, rfl, rfl⟩ fun y hy => ?_
 subst hy
 refine Ok.ite (fun c => Ok.ret (by rw [if_pos (by simpa using c)])) fun c => ?_
 have c : Rgt x := by simpa using c
 rw [if_neg (fun h => h c), longest_eq c (by omega)]
 refine Ok.bind (P := fun y => y = x.lon) ⟨_, rfl, rfl⟩ fun y hy => ?_
 subst hy
 refine Ok.ite (fun c => Ok.ret (by rw [if_pos (of_decide_eq_true c)])) fun c => Ok.ret (by rw [if_neg (of_decide_eq_false c)])
theorem err_zero {x : GNode} : x.err = 0 ↔ PV x := by
 classical
 unfold GNode.err
 constructor
 ·intro h
  split at h
  ·omega
  ·split at h
   ·omega
   ·split at h
    ·omega
    ·split at h
     ·omega
     ·rename_i h1 h2 h3 h4
      exact ⟨by omega, by omega, Classical.byContradiction h3, by omega⟩
 ·rintro ⟨h1, h2, h3, h4⟩
  rw [if_neg (by omega), if_neg (by omega), if_neg (fun h => h h3), if_neg (by omega)]
theorem PV.kid {x k : GNode} (h : PV x) (hk : k ∈ x.Kids) : PV k :=
 ⟨by have := kid_cnt hk; have := h.cnt; omega, by have := kid_hgt hk; have := h.hgt; omega, h.rgt.kid hk, by have := (lon_rng x h.rgt).2.2 h.lon k hk; have := h.lon; omega⟩
open Classical in
theorem Longest_eq (x : GNode) : F_o x = some (if PV x then x.lon else 0) := by
 unfold F_o
 rw [valid_eq]
 simp only [Option.bind_some]
 by_cases c : PV x
 ·rw [err_zero.2 c, if_pos c, longest_eq c.rgt (by have := c.cnt; omega)]
  rfl
 ·have : ¬ x.err = 0 := fun h => c (err_zero.1 h)
  simp only [decide_eq_false this, Bool.not_false, cond_true, if_neg c]
mutual
def GNode.sho : GNode → Int
 | ⟨o, _, k, mi, _⟩ => if o = 1 then 1 else if o = 2 then sumI (GNode.shos k) else if o = 3 then minI ((GNode.shos k).headD 0) (GNode.shos k) else mi * (GNode.shos k).headD 0
def GNode.shos : List GNode → List Int
 | [] => []
 | a :: r => GNode.sho a :: GNode.shos r
end
theorem shos_map : ∀ l : List GNode, GNode.shos l = l.map GNode.sho
 | [] => by simp [GNode.shos]
 | a :: r => by simp only [GNode.shos, List.map_cons, shos_map r]
theorem sho_eq (x : GNode) : x.sho = if x.Op = 1 then 1 else if x.Op = 2 then sumI (x.Kids.map GNode.sho) else if x.Op = 3 then minI ((x.Kids.map GNode.sho).headD 0) (x.Kids.map GNode.sho) else x.Min * (x.Kids.map GNode.sho).headD 0 := by
 cases x; simp only [GNode.sho, shos_map]
theorem minI_le : ∀ (l : List Int) (m : Int), minI m l ≤ m ∧ (∀ y ∈ l, minI m l ≤ y) ∧ ∀ c, c ≤ m → (∀ y ∈ l, c ≤ y) → c ≤ minI m l
 | [], m => ⟨Int.le_refl m, by simp, fun c h _ => h⟩
 | a :: r, m => by
  obtain ⟨h1, h2, h3⟩ := minI_le r (min m a)
  simp only [minI]
  refine ⟨by omega, fun y hy => ?_, fun c hc hy => h3 c (by have := hy a (by simp); omega) fun y h => hy y (by simp [h])⟩
  rcases List.mem_cons.1 hy with rfl | hy
  ·omega
  ·exact h2 y hy
theorem minI_append : ∀ (a b : List Int) (m : Int), minI m (a ++ b) = minI (minI m a) b
 | [], b, m => rfl
 | x :: r, b, m => by simp only [List.cons_append, minI, minI_append r b]
theorem sum_le {f g : GNode → Int} : ∀ {l : List GNode}, (∀ k ∈ l, f k ≤ g k) → sumI (l.map f) ≤ sumI (l.map g)
 | [], _ => by simp [sumI]
 | a :: r, h => by
  have h1 := h a (by simp)
  have h2 := sum_le (l := r) fun k hk => h k (by simp [hk])
  simp only [List.map_cons, sumI]; omega
theorem sho_rng : ∀ x : GNode, PV x → 0 ≤ x.sho ∧ x.sho ≤ x.lon := by
 refine GNode.ind fun x ih hx => ?_
 have hk := fun k hk => ih k hk (hx.kid hk)
 have hl := hx.lon
 have hle := lon_eq x
 rw [sho_eq]
 rcases hx.rgt.kinds with ⟨h, _⟩ | ⟨h, h2⟩ | ⟨h, h2⟩ | ⟨h, ⟨k, h2⟩, h3, h4, h5, h6⟩
 ·rw [if_pos h]; rw [if_pos h] at hle; omega
 ·rw [if_neg (by omega), if_pos h]
  rw [if_neg (by omega), if_pos h] at hle
  have := sum_le (f := GNode.sho) (g := GNode.lon) (l := x.Kids) fun k hk' => (hk k hk').2
  have : 0 ≤ sumI (x.Kids.map GNode.sho) := by
   have : ∀ l : List GNode, (∀ k ∈ l, 0 ≤ k.sho) → 0 ≤ sumI (l.map GNode.sho) := by
    intro l; induction l with
    | nil => intro _; simp [sumI]
    | cons a r ih => intro h; have := ih fun y hy => h y (by simp [hy]); have := h a (by simp); simp only [List.map_cons, sumI]; omega
   exact this _ fun k hk' => (hk k hk').1
  omega
 ·rw [if_neg (by omega), if_neg (by omega), if_pos h]
  rw [if_neg (by omega), if_neg (by omega), if_pos h] at hle
  obtain ⟨q, hq⟩ : ∃ q, x.Kids = q :: x.Kids.tail := by
   cases hkk : x.Kids with
   | nil => rw [hkk] at h2; simp at h2
   | cons q r => exact ⟨q, rfl⟩
  have hqm : q ∈ x.Kids := by rw [hq]; simp
  have e : (x.Kids.map GNode.sho).headD 0 = q.sho := by rw [hq]; rfl
  rw [e]
  obtain ⟨m1, m2, m3⟩ := minI_le (x.Kids.map GNode.sho) q.sho
  have h8 := hk q hqm
  have h9 := (lon_rng x hx.rgt).2.2 hl q hqm
  refine ⟨m3 0 h8.1 fun y hy => ?_, by omega⟩
  obtain ⟨z, hz, rfl⟩ := List.mem_map.1 hy
  exact (hk z hz).1
 ·rw [if_neg (by omega), if_neg (by omega), if_neg (by omega), h2]
  rw [if_neg (by omega), if_neg (by omega), if_neg (by omega), h2] at hle
  have h7 := hk k (by rw [h2]; simp)
  have h8 := lon_rng k (hx.rgt.kid (k := k) (by rw [h2]; simp))
  simp only [List.map_cons, List.map_nil, List.headD_cons] at hle ⊢
  have m1 : 0 ≤ x.Min * k.sho := Int.mul_nonneg h3 h7.1
  have m2 : x.Min * k.sho ≤ x.Max * k.lon := Int.mul_le_mul h5 h7.2 h7.1 (by omega)
  omega
theorem shortest_ok : ∀ (x : GNode) (m : Nat), x.hgt ≤ m → PV x → Ok (FR_3 m x) (· = x.sho) := by
 refine GNode.ind fun x ih m hm hx => ?_
 cases m with
 | zero => have := hgt_pos x; omega
 | succ m =>
  have hrec : ∀ k ∈ x.Kids, Ok (FR_3 m k) (· = k.sho) := fun k hk => ih k hk m (by have := kid_hgt hk; omega) (hx.kid hk)
  have hkr : ∀ k ∈ x.Kids, 0 ≤ k.sho ∧ k.sho ≤ 1024 := fun k hk => by have := sho_rng k (hx.kid hk); have := (hx.kid hk).lon; omega
  have hlen := kids_cnt x
  have hcn := hx.cnt
  simp only [FR_3]
  rw [sho_eq]
  refine Ok.ite (fun c => Ok.ret (by rw [if_pos (of_decide_eq_true c)])) fun c => ?_
  have c := of_decide_eq_false c
  rw [if_neg c]
  refine Ok.ite (fun c2 => ?_) fun c2 => ?_
  ·rw [if_pos (of_decide_eq_true c2)]
   refine Ok.bind (Ok.foldI (all := x.Kids) (Q := fun o => o = sumI (x.Kids.map GNode.sho)) (fun pre s => s = sumI (pre.map GNode.sho)) x.Kids [] 0 0 rfl rfl rfl (fun pre k r s hw hs => ?_) fun s hs => hs) fun o ho => Ok.ret ho
   have hk := mem_at hw
   have hl := len_at hw
   have hpr := sum_rng (f := GNode.sho) (c := 1024) (l := pre) fun k hk => hkr k (by rw [hw]; simp [hk])
   have := hkr k hk
   refine Ok.bind (hrec k hk) fun y hy => ?_
   subst hy
   refine Ok.chk (in64_s (by omega) (by omega)) (Ok.ret ?_)
   rw [hs, List.map_append, sumI_append]; simp [sumI]
  ·have c2 := of_decide_eq_false c2
   rw [if_neg c2]
   refine Ok.ite (fun c3 => ?_) fun c3 => ?_
   ·have c3 := of_decide_eq_true c3
    rw [if_pos c3]
    obtain ⟨q, hq⟩ : ∃ q, x.Kids = q :: x.Kids.tail := by
     rcases hx.rgt.kinds with ⟨h, _⟩ | ⟨h, h2⟩ | ⟨h, h2⟩ | ⟨h, _⟩
     ·omega
     ·omega
     ·cases hkk : x.Kids with
      | nil => rw [hkk] at h2; simp at h2
      | cons q r => exact ⟨q, rfl⟩
     ·omega
    have hqm : q ∈ x.Kids := by rw [hq]; simp
    have e : (x.Kids.map GNode.sho).headD 0 = q.sho := by rw [hq]; rfl
    have e2 : x.Kids.getD 0 default = q := by rw [hq]; rfl
    rw [e, e2]
    refine Ok.chk (inb_iff.2 ⟨by omega, by rw [hq]; simp⟩) (Ok.bind (hrec q hqm) fun y hy => ?_)
    subst hy
    refine Ok.bind (Ok.foldI (all := x.Kids) (Q := fun o => o = minI q.sho (x.Kids.map GNode.sho)) (fun pre s => s = minI q.sho (pre.map GNode.sho)) x.Kids [] 0 _ rfl rfl rfl (fun pre k r s hw hs => ?_) fun s hs => hs) fun o ho => Ok.ret ho
    refine Ok.bind (hrec k (mem_at hw)) fun y hy => Ok.ret ?_
    subst hy
    rw [hs, List.map_append, minI_append]; rfl
   ·have c3 := of_decide_eq_false c3
    rw [if_neg c3]
    rcases hx.rgt.kinds with ⟨h, _⟩ | ⟨h, h2⟩ | ⟨h, h2⟩ | ⟨h, ⟨k, h2⟩, h3, h4, h5, h6⟩
    ·exact absurd h c
    ·exact absurd h c2
    ·exact absurd h c3
    ·have hk : k ∈ x.Kids := by rw [h2]; simp
     have := hkr k hk
     have e : x.Kids.getD 0 default = k := by rw [h2]; rfl
     have hm1 : 0 ≤ x.Min * k.sho := Int.mul_nonneg h3 (by omega)
     have hm2 : x.Min * k.sho ≤ 64 * 1024 := Int.mul_le_mul (by omega) (by omega) (by omega) (by omega)
     rw [e]
     refine Ok.chk (inb_iff.2 ⟨by omega, by rw [h2]; simp⟩) (Ok.bind (hrec k hk) fun y hy => ?_)
     subst hy
     refine Ok.chk (in64_s (by omega) (by omega)) (Ok.ret ?_)
     rw [h2]; rfl
theorem shortest_eq {x : GNode} (hx : PV x) : F_3 x = some x.sho := lim_of ⟨x.hgt, fun m hm => (shortest_ok x m hm hx).eq⟩
open Classical in
theorem Shortest_eq (x : GNode) : F_p x = some (if PV x then x.sho else 0) := by
 unfold F_p
 rw [valid_eq]
 simp only [Option.bind_some]
 by_cases c : PV x
 ·rw [err_zero.2 c, if_pos c, shortest_eq c]
  rfl
 ·have : ¬ x.err = 0 := fun h => c (err_zero.1 h)
  simp only [decide_eq_false this, Bool.not_false, cond_true, if_neg c]
end Go.Ab
namespace Go.Ab
open Go.Proofs
def Jmp := Nat → Nat → Prop
def seqR : List Jmp → Jmp
 | [] => fun i j => i = j
 | R :: r => fun i j => ∃ m, R i m ∧ seqR r m j
def powR (R : Jmp) : Nat → Jmp
 | 0 => fun i j => i = j
 | n + 1 => fun i j => ∃ m, powR R n i m ∧ R m j
def inRs (l : List GRange) (c : UInt8) : Prop := ∃ r ∈ l, r.Low.toNat ≤ c.toNat ∧ c.toNat ≤ r.High.toNat
mutual
def GNode.stp (b : List UInt8) : GNode → Jmp
 | ⟨o, rs, k, mi, ma⟩ => if o = 1 then fun i j => ∃ c, b[i]? = some c ∧ inRs rs c ∧ j = i + 1 else if o = 2 then seqR (GNode.stps b k) else if o = 3 then fun i j => ∃ R ∈ GNode.stps b k, R i j else fun i j => ∃ n : Nat, mi ≤ n ∧ (n : Int) ≤ ma ∧ powR ((GNode.stps b k).headD fun _ _ => False) n i j
def GNode.stps (b : List UInt8) : List GNode → List Jmp
 | [] => []
 | a :: r => GNode.stp b a :: GNode.stps b r
end
theorem stps_map (b : List UInt8) : ∀ l : List GNode, GNode.stps b l = l.map (GNode.stp b)
 | [] => by simp [GNode.stps]
 | a :: r => by simp only [GNode.stps, List.map_cons, stps_map b r]
theorem stp_set {b : List UInt8} {x : GNode} (h : x.Op = 1) {i j : Nat} : x.stp b i j ↔ ∃ c, b[i]? = some c ∧ inRs x.Ranges c ∧ j = i + 1 := by
 cases x; simp only at h; subst h; simp only [GNode.stp]; rfl
theorem stp_seq {b : List UInt8} {x : GNode} (h : x.Op = 2) {i j : Nat} : x.stp b i j ↔ seqR (x.Kids.map (GNode.stp b)) i j := by
 cases x; simp only at h; subst h; simp only [GNode.stp, stps_map]; rfl
theorem stp_alt {b : List UInt8} {x : GNode} (h : x.Op = 3) {i j : Nat} : x.stp b i j ↔ ∃ k ∈ x.Kids, k.stp b i j := by
 cases x; simp only at h; subst h; simp only [GNode.stp, stps_map]
 show (∃ R : Jmp, R ∈ List.map (GNode.stp b) _ ∧ R i j) ↔ _
 constructor
 ·rintro ⟨R, hR, h⟩
  obtain ⟨k, hk, rfl⟩ := List.mem_map.1 hR
  exact ⟨k, hk, h⟩
 ·rintro ⟨k, hk, h⟩
  exact ⟨_, List.mem_map_of_mem hk, h⟩
theorem stp_rep {b : List UInt8} {x k : GNode} (h : x.Op = 4) (hk : x.Kids = [k]) {i j : Nat} : x.stp b i j ↔ ∃ n : Nat, x.Min ≤ n ∧ (n : Int) ≤ x.Max ∧ powR (k.stp b) n i j := by
 cases x; simp only at h hk; subst h hk; simp only [GNode.stp, stps_map]; rfl
theorem seqR_append : ∀ (a : List Jmp) (b : List Jmp) (i j : Nat), seqR (a ++ b) i j ↔ ∃ m, seqR a i m ∧ seqR b m j
 | [], b, i, j => by simp only [List.nil_append, seqR]; exact ⟨fun h => ⟨i, rfl, h⟩, fun ⟨m, e, h⟩ => e ▸ h⟩
 | R :: r, b, i, j => by
  simp only [List.cons_append, seqR, seqR_append r b]
  exact ⟨fun ⟨m, h1, q, h2, h3⟩ => ⟨q, ⟨m, h1, h2⟩, h3⟩, fun ⟨q, ⟨m, h1, h2⟩, h3⟩ => ⟨m, h1, q, h2, h3⟩⟩
theorem seqR_snoc (a : List Jmp) (R : Jmp) (i j : Nat) : seqR (a ++ [R]) i j ↔ ∃ m, seqR a i m ∧ R m j := by
 rw [seqR_append]; simp only [seqR]
 exact ⟨fun ⟨m, h1, q, h2, e⟩ => ⟨m, h1, e ▸ h2⟩, fun ⟨m, h1, h2⟩ => ⟨m, h1, j, h2, rfl⟩⟩
theorem seq_rng {b : List UInt8} : ∀ {l : List GNode}, (∀ k ∈ l, ∀ i j, k.stp b i j → k.sho ≤ (j : Int) - i ∧ (j : Int) - i ≤ k.lon) → ∀ i j, seqR (l.map (GNode.stp b)) i j → sumI (l.map GNode.sho) ≤ (j : Int) - i ∧ (j : Int) - i ≤ sumI (l.map GNode.lon)
 | [], _, i, j, h => by cases h; simp [sumI]
 | a :: r, hl, i, j, h => by
  obtain ⟨m, h1, h2⟩ := h
  have h1 := hl a (by simp) i m h1
  have h2 := seq_rng (fun k hk => hl k (by simp [hk])) m j h2
  simp only [List.map_cons, sumI]; omega
theorem pow_rng {R : Jmp} {a c : Int} (hR : ∀ i j, R i j → a ≤ (j : Int) - i ∧ (j : Int) - i ≤ c) : ∀ n i j, powR R n i j → n * a ≤ (j : Int) - i ∧ (j : Int) - i ≤ n * c
 | 0, i, j, h => by cases h; simp
 | n + 1, i, j, h => by
  obtain ⟨m, h1, h2⟩ := h
  have h1 := pow_rng hR n i m h1
  have h2 := hR m j h2
  have e1 : ((n + 1 : Nat) : Int) * a = n * a + a := by rw [Int.natCast_add, Int.add_mul]; simp
  have e2 : ((n + 1 : Nat) : Int) * c = n * c + c := by rw [Int.natCast_add, Int.add_mul]; simp
  omega
theorem stp_rng {b : List UInt8} : ∀ x : GNode, PV x → ∀ i j, x.stp b i j → x.sho ≤ (j : Int) - i ∧ (j : Int) - i ≤ x.lon := by
 refine GNode.ind fun x ih hx i j h => ?_
 have hl := hx.lon
 have hle := lon_eq x
 have hse := sho_eq x
 rcases hx.rgt.kinds with ⟨h1, _⟩ | ⟨h1, h2⟩ | ⟨h1, h2⟩ | ⟨h1, ⟨k, h2⟩, h3, h4, h5, h6⟩
 ·rw [if_pos h1] at hle hse
  obtain ⟨c, _, _, e⟩ := (stp_set h1).1 h
  omega
 ·rw [if_neg (by omega), if_pos h1] at hle hse
  have := seq_rng (fun k hk i j h => ih k hk (hx.kid hk) i j h) i j ((stp_seq h1).1 h)
  omega
 ·rw [if_neg (by omega), if_neg (by omega), if_pos h1] at hle hse
  obtain ⟨k, hk, h⟩ := (stp_alt h1).1 h
  have := ih k hk (hx.kid hk) i j h
  have hkl := (lon_rng x hx.rgt).2.2 hl k hk
  have := (minI_le (x.Kids.map GNode.sho) ((x.Kids.map GNode.sho).headD 0)).2.1 k.sho (List.mem_map_of_mem hk)
  omega
 ·rw [if_neg (by omega), if_neg (by omega), if_neg (by omega), h2] at hle hse
  obtain ⟨n, n1, n2, h⟩ := (stp_rep h1 h2).1 h
  have hk : k ∈ x.Kids := by rw [h2]; simp
  have h7 := pow_rng (fun i j h => ih k hk (hx.kid hk) i j h) n i j h
  have h8 := sho_rng k (hx.kid hk)
  simp only [List.map_cons, List.map_nil, List.headD_cons] at hle hse
  have m1 : x.Min * k.sho ≤ n * k.sho := Int.mul_le_mul_of_nonneg_right n1 h8.1
  have m2 : n * k.lon ≤ x.Max * k.lon := Int.mul_le_mul_of_nonneg_right n2 (by omega)
  omega
def At (l : List Bool) (j : Nat) : Prop := l.getD j default = true
theorem At_lt {l : List Bool} {j : Nat} (h : At l j) : j < l.length := by
 unfold At at h
 rw [List.getD_eq_getElem?_getD] at h
 by_cases c : j < l.length
 ·exact c
 ·rw [List.getElem?_eq_none (by omega)] at h; cases h
theorem At_repl (n j : Nat) : ¬ At (List.replicate n false) j := by
 unfold At; rw [List.getD_eq_getElem?_getD, List.getElem?_replicate]; split <;> simp <;> rfl
theorem At_set {l : List Bool} {i : Nat} {v : Bool} (hi : i < l.length) (j : Nat) : At (l.set i v) j ↔ if j = i then v = true else At l j := by
 unfold At
 rw [List.getD_eq_getElem?_getD, List.getD_eq_getElem?_getD, List.getElem?_set]
 by_cases e : i = j
 ·subst e; simp [hi]
 ·have : ¬ j = i := fun h => e h.symm
  simp [e, this]
open Classical in
theorem holds_eq (l : List GRange) (c : UInt8) : F_1a l c = some (decide (inRs l c)) := by
 unfold F_1a F_1n F_1m
 have := contains_b (body := F_1l c) (fun r : GRange => r.Low.toNat ≤ c.toNat ∧ c.toNat ≤ r.High.toNat) l fun k y _ => by
  unfold F_1l F_1k
  have e : (decide ((y.Low.toNat : Int) ≤ (c.toNat : Int)) && decide ((c.toNat : Int) ≤ (y.High.toNat : Int))) = decide (y.Low.toNat ≤ c.toNat ∧ c.toNat ≤ y.High.toNat) := by
   rw [Bool.eq_iff_iff]; simp only [Bool.and_eq_true, decide_eq_true_eq]; omega
  rw [e]
  by_cases h : y.Low.toNat ≤ c.toNat ∧ c.toNat ≤ y.High.toNat <;> simp [grp, h]
 rw [this]
 show some _ = some _
 congr 1
 exact decide_eq_decide.2 Iff.rfl
theorem join_ok {to ps : List Bool} (hl : to.length = ps.length) (hn : ps.length ≤ 100000) : Ok (F_s to ps) fun o => o.length = to.length ∧ ∀ j, At o j ↔ At to j ∨ At ps j := by
 unfold F_s
 refine Ok.bind (Ok.foldI (all := ps) (Q := fun o => o.length = to.length ∧ ∀ j, At o j ↔ At to j ∨ At ps j) (fun pre s => s.length = to.length ∧ ∀ j, At s j ↔ At to j ∨ (j < pre.length ∧ At ps j)) ps [] 0 to rfl rfl ⟨rfl, fun j => by simp⟩ (fun pre p r s hw hs => ?_) fun s hs => ⟨hs.1, fun j => by rw [hs.2]; exact or_congr_right ⟨fun h => h.2, fun h => ⟨At_lt h, h⟩⟩⟩) fun o ho => Ok.ret ho
 have hlt := len_at hw
 have hg := getD_at hw
 unfold F_1b
 simp only [Int.toNat_natCast]
 refine Ok.chk (inb_iff.2 ⟨by omega, by omega⟩) (Ok.grp (Ok.chk (inb_iff.2 ⟨by omega, by omega⟩) (Ok.ret ⟨by simp [hs.1], fun j => ?_⟩)))
 rw [At_set (by omega)]
 simp only [List.length_append, List.length_singleton]
 by_cases e : j = pre.length
 ·subst e
  rw [if_pos rfl, Bool.or_eq_true]
  have h1 := hs.2 pre.length
  have h2 : At ps pre.length ↔ p = true := by unfold At; rw [hg]
  have h3 : s.getD pre.length default = true ↔ At s pre.length := Iff.rfl
  rw [h3, h1, ← h2]
  constructor
  ·rintro ((h | h) | h)
   ·exact .inl h
   ·omega
   ·exact .inr ⟨by omega, h⟩
  ·rintro (h | h)
   ·exact .inl (.inl h)
   ·exact .inr h.2
 ·rw [if_neg e, hs.2]
  exact or_congr_right ⟨fun h => ⟨by omega, h.2⟩, fun h => ⟨by omega, h.2⟩⟩
open Classical in
theorem any_eq (l : List Bool) : F_1c l true = some (decide (∃ j, At l j)) := by
 unfold F_1c F_1p
 have := contains_b (body := F_1o true) (fun x : Bool => x = true) l fun k y _ => by
  unfold F_1o
  cases y <;> simp
 rw [this]
 congr 1
 rw [decide_eq_decide]
 constructor
 ·rintro ⟨x, hx, rfl⟩
  obtain ⟨i, hi⟩ := List.getElem?_of_mem hx
  exact ⟨i, by unfold At; rw [List.getD_eq_getElem?_getD, hi]; rfl⟩
 ·rintro ⟨j, h⟩
  have hl := At_lt h
  refine ⟨l[j], List.getElem_mem hl, ?_⟩
  unfold At at h
  rwa [List.getD_eq_getElem?_getD, List.getElem?_eq_getElem hl] at h
end Go.Ab
namespace Go.Ab
open Go.Proofs
theorem ends_ok {b : List UInt8} (hb : b.length ≤ 1024) : ∀ (x : GNode) (m : Nat) (fr : List Bool), x.hgt ≤ m → Rgt x → fr.length = b.length + 1 → Ok (FR_4 m x b fr) fun o => o.length = b.length + 1 ∧ ∀ j, At o j ↔ ∃ i, At fr i ∧ x.stp b i j := by
 refine GNode.ind fun x ih m fr hm hx hfr => ?_
 cases m with
 | zero => have := hgt_pos x; omega
 | succ m =>
  have hrec : ∀ k ∈ x.Kids, ∀ fr : List Bool, fr.length = b.length + 1 → Ok (FR_4 m k b fr) fun o => o.length = b.length + 1 ∧ ∀ j, At o j ↔ ∃ i, At fr i ∧ k.stp b i j := fun k hk fr h => ih k hk m fr (by have := kid_hgt hk; omega) (hx.kid hk) h
  simp only [FR_4, Int.toNat_natCast]
  refine Ok.chk (roomI_iff.2 ⟨by omega, by omega, by omega⟩) (Ok.ite (fun c => ?_) fun c => Ok.ite (fun c2 => ?_) fun c2 => Ok.ite (fun c3 => ?_) fun c3 => ?_)
  ·have c := of_decide_eq_true c
   refine Ok.bind (Ok.foldI (all := b) (Q := fun o => o.length = b.length + 1 ∧ ∀ j, At o j ↔ ∃ i, At fr i ∧ x.stp b i j) (fun pre s => s.length = b.length + 1 ∧ ∀ j, At s j ↔ ∃ i, i < pre.length ∧ At fr i ∧ x.stp b i j) b [] 0 _ rfl rfl ⟨by simp [hfr], fun j => ⟨fun h => absurd h (At_repl _ _), fun ⟨i, h, _⟩ => by simp at h⟩⟩ (fun pre a r s hw hs => ?_) fun s hs => ⟨hs.1, fun j => ?_⟩) fun o ho => Ok.ret ho
   ·have hlt := len_at hw
    have hge : b[pre.length]? = some a := by rw [hw]; simp
    refine Ok.chk (inb_iff.2 ⟨by omega, by omega⟩) ?_
    simp only [Int.toNat_natCast]
    classical
    refine Ok.jn (P := fun v => v = decide (At fr pre.length ∧ inRs x.Ranges a)) ?_ fun v hv => ?_
    ·refine Ok.ite (fun h => ?_) fun h => ?_
     ·rw [holds_eq]
      refine Ok.ret (decide_eq_decide.2 ⟨fun h2 => ⟨h, h2⟩, fun h2 => h2.2⟩)
     ·refine Ok.ret ?_
      rw [eq_comm, decide_eq_false_iff_not]
      rintro ⟨h2, _⟩
      unfold At at h2
      rw [h] at h2; cases h2
    ·have e1 : ((pre.length : Int) + 1).toNat = pre.length + 1 := by omega
     rw [e1]
     refine Ok.chk (inb_iff.2 ⟨by omega, by omega⟩) (Ok.ret ⟨by simp [hs.1], fun j => ?_⟩)
     rw [At_set (by omega), hv]
     simp only [List.length_append, List.length_singleton]
     have hst : ∀ i, x.stp b i j ↔ ∃ c, b[i]? = some c ∧ inRs x.Ranges c ∧ j = i + 1 := fun i => stp_set c
     by_cases e : j = pre.length + 1
     ·subst e
      rw [if_pos rfl, decide_eq_true_eq]
      constructor
      ·rintro ⟨h1, h2⟩
       exact ⟨pre.length, by omega, h1, (hst _).2 ⟨a, hge, h2, rfl⟩⟩
      ·rintro ⟨i, h1, h2, h3⟩
       obtain ⟨c', h4, h5, h6⟩ := (hst _).1 h3
       have : i = pre.length := by omega
       subst this
       rw [hge] at h4; cases h4
       exact ⟨h2, h5⟩
     ·rw [if_neg e, hs.2]
      constructor
      ·rintro ⟨i, h1, h2, h3⟩
       exact ⟨i, by omega, h2, h3⟩
      ·rintro ⟨i, h1, h2, h3⟩
       obtain ⟨c', h4, h5, h6⟩ := (hst _).1 h3
       exact ⟨i, by omega, h2, h3⟩
   ·rw [hs.2]
    constructor
    ·rintro ⟨i, h1, h2, h3⟩
     exact ⟨i, h2, h3⟩
    ·rintro ⟨i, h2, h3⟩
     obtain ⟨c', h4, h5, h6⟩ := (stp_set c).1 h3
     refine ⟨i, ?_, h2, h3⟩
     by_cases hlt : i < b.length
     ·exact hlt
     ·rw [List.getElem?_eq_none (by omega)] at h4; cases h4
  ·have c2 := of_decide_eq_true c2
   refine Ok.chk (eqn_iff.2 (by simp)) (Ok.bind (Ok.foldI (all := x.Kids) (Q := fun o => o.length = b.length + 1 ∧ ∀ j, At o j ↔ ∃ i, At fr i ∧ x.stp b i j) (fun pre s => s.length = b.length + 1 ∧ ∀ j, At s j ↔ ∃ i, At fr i ∧ seqR (pre.map (GNode.stp b)) i j) x.Kids [] 0 _ rfl rfl ⟨hfr, fun j => ⟨fun h => ⟨j, h, rfl⟩, fun ⟨i, h, e⟩ => e ▸ h⟩⟩ (fun pre k r s hw hs => ?_) fun s hs => ⟨hs.1, fun j => by rw [hs.2]; exact exists_congr fun i => and_congr_right fun _ => (stp_seq c2).symm⟩) fun o ho => Ok.ret ho)
   refine Ok.bind (hrec k (mem_at hw) s hs.1) fun y hy => Ok.ret ⟨hy.1, fun j => ?_⟩
   rw [hy.2, List.map_append]
   simp only [List.map_cons, List.map_nil, seqR_snoc, hs.2]
   exact ⟨fun ⟨q, ⟨i, h1, h2⟩, h3⟩ => ⟨i, h1, q, h2, h3⟩, fun ⟨i, h1, q, h2, h3⟩ => ⟨q, ⟨i, h1, h2⟩, h3⟩⟩
  ·have c3 := of_decide_eq_true c3
   refine Ok.bind (Ok.foldI (all := x.Kids) (Q := fun o => o.length = b.length + 1 ∧ ∀ j, At o j ↔ ∃ i, At fr i ∧ x.stp b i j) (fun pre s => s.length = b.length + 1 ∧ ∀ j, At s j ↔ ∃ i, At fr i ∧ ∃ k ∈ pre, k.stp b i j) x.Kids [] 0 _ rfl rfl ⟨by simp [hfr], fun j => ⟨fun h => absurd h (At_repl _ _), fun ⟨i, _, k, h, _⟩ => by simp at h⟩⟩ (fun pre k r s hw hs => ?_) fun s hs => ⟨hs.1, fun j => by rw [hs.2]; exact exists_congr fun i => and_congr_right fun _ => (stp_alt c3).symm⟩) fun o ho => Ok.ret ho
   refine Ok.bind (hrec k (mem_at hw) fr hfr) fun y hy => Ok.bind (join_ok (to := s) (ps := y) (by omega) (by omega)) fun z hz => Ok.ret ⟨by omega, fun j => ?_⟩
   rw [hz.2, hs.2, hy.2]
   constructor
   ·rintro (⟨i, h1, k', h2, h3⟩ | ⟨i, h1, h2⟩)
    ·exact ⟨i, h1, k', by simp [h2], h3⟩
    ·exact ⟨i, h1, k, by simp, h2⟩
   ·rintro ⟨i, h1, k', h2, h3⟩
    rcases List.mem_append.1 h2 with h2 | h2
    ·exact .inl ⟨i, h1, k', h2, h3⟩
    ·cases List.mem_singleton.1 h2
     exact .inr ⟨i, h1, h3⟩
  ·have c := of_decide_eq_false c
   have c2 := of_decide_eq_false c2
   have c3 := of_decide_eq_false c3
   have h4 : x.Op = 4 := by rcases hx.kinds with h | h | h | h <;> omega
   obtain ⟨k, hk, h5, h6, h7, h8⟩ : (∃ k, x.Kids = [k] ∧ 0 ≤ x.Min ∧ 1 ≤ x.Max ∧ x.Min ≤ x.Max ∧ x.Max ≤ 64) := by
    rcases hx.kinds with h | h | h | ⟨_, ⟨k, h⟩, h2⟩
    ·omega
    ·omega
    ·omega
    ·exact ⟨k, h, h2⟩
   have hkm : k ∈ x.Kids := by rw [hk]; simp
   have hg : x.Kids.getD 0 default = k := by rw [hk]; rfl
   rw [hg]
   refine Ok.jn (P := fun o => o.length = b.length + 1 ∧ ∀ j, At o j ↔ x.Min = 0 ∧ At fr j) (Ok.ite (fun h => ?_) fun h => ?_) fun o0 ho => ?_
   ·have h := of_decide_eq_true h
    refine Ok.bind (join_ok (to := List.replicate fr.length false) (ps := fr) (by simp) (by omega)) fun y hy => Ok.ret ⟨by rw [hy.1]; simp [hfr], fun j => ?_⟩
    rw [hy.2]
    exact ⟨fun h' => h'.elim (fun h => absurd h (At_repl _ _)) fun h' => ⟨h, h'⟩, fun h' => .inr h'.2⟩
   ·have h := of_decide_eq_false h
    exact Ok.ret ⟨by simp [hfr], fun j => ⟨fun h => absurd h (At_repl _ _), fun h' => absurd h'.1 h⟩⟩
   ·refine Ok.bind (Ok.loop (Q := fun o => o.length = b.length + 1 ∧ ∀ j, At o j ↔ ∃ i, At fr i ∧ x.stp b i j) (fun s : List Bool × Int × List Bool => ∃ n : Nat, s.2.1 = (n : Int) + 1 ∧ (n : Int) ≤ x.Max ∧ s.1.length = b.length + 1 ∧ s.2.2.length = b.length + 1 ∧ (∀ j, At s.1 j ↔ ∃ i, At fr i ∧ powR (k.stp b) n i j) ∧ ∀ j, At s.2.2 j ↔ ∃ i, At fr i ∧ ∃ q : Nat, x.Min ≤ (q : Int) ∧ q ≤ n ∧ powR (k.stp b) q i j) (fun s : List Bool × Int × List Bool => (x.Max + 1 - s.2.1).toNat) ?_ _ ?_) fun o ho => Ok.ret ho
    ·rintro ⟨now, at_, out⟩ ⟨n, e, hn, l1, l2, a1, a2⟩
     simp only at e hn l1 l2 a1 a2
     subst e
     refine Ok.ite (fun d => ?_) fun d => ?_
     ·have d := of_decide_eq_true d
      dsimp only at d
      rw [any_eq]
      simp only [Option.bind_some]
      refine Ok.ite (fun f => ?_) fun f => ?_
      ·refine Ok.jn (P := fun j : List Bool × List Bool => j.1.length = b.length + 1 ∧ j.2.length = b.length + 1 ∧ (∀ j', At j.1 j' ↔ ∃ i, At fr i ∧ powR (k.stp b) (n + 1) i j') ∧ ∀ j', At j.2 j' ↔ ∃ i, At fr i ∧ ∃ q : Nat, x.Min ≤ (q : Int) ∧ q ≤ n + 1 ∧ powR (k.stp b) q i j') (Ok.chk (inb_iff.2 ⟨by omega, by rw [hk]; simp⟩) (Ok.bind (hrec k hkm now l1) fun y hy => ?_)) fun j hj => ?_
       ·have hyp : ∀ j', At y j' ↔ ∃ i, At fr i ∧ powR (k.stp b) (n + 1) i j' := fun j' => by
         rw [hy.2]
         simp only [a1, powR]
         exact ⟨fun ⟨q, ⟨i, h1, h2⟩, h3⟩ => ⟨i, h1, q, h2, h3⟩, fun ⟨i, h1, q, h2, h3⟩ => ⟨q, ⟨i, h1, h2⟩, h3⟩⟩
        refine Ok.ite (fun g => ?_) fun g => ?_
        ·have g : x.Min ≤ (n : Int) + 1 := of_decide_eq_true g
         refine Ok.bind (join_ok (to := out) (ps := y) (by omega) (by omega)) fun z hz => Ok.ret ⟨hy.1, (show z.length = b.length + 1 by omega), hyp, fun j' => ?_⟩
         show At z j' ↔ _
         rw [hz.2, hyp, a2]
         constructor
         ·rintro (⟨i, h1, q, h2, h3, h4⟩ | ⟨i, h1, h2⟩)
          ·exact ⟨i, h1, q, h2, by omega, h4⟩
          ·exact ⟨i, h1, n + 1, by omega, by omega, h2⟩
         ·rintro ⟨i, h1, q, h2, h3, h4⟩
          by_cases e : q = n + 1
          ·subst e; exact .inr ⟨i, h1, h4⟩
          ·exact .inl ⟨i, h1, q, h2, by omega, h4⟩
        ·have g : ¬ x.Min ≤ (n : Int) + 1 := of_decide_eq_false g
         refine Ok.ret ⟨hy.1, l2, hyp, fun j' => ?_⟩
         show At out j' ↔ _
         rw [a2]
         constructor
         ·rintro ⟨i, h1, q, h2, h3, h4⟩
          exact ⟨i, h1, q, h2, by omega, h4⟩
         ·rintro ⟨i, h1, q, h2, h3, h4⟩
          exact ⟨i, h1, q, h2, by omega, h4⟩
       ·refine Ok.chk (in64_s (by omega) (by omega)) (Ok.ret ⟨⟨n + 1, rfl, by omega, hj⟩, ?_⟩)
        dsimp only; omega
      ·replace f : ¬ ∃ j, At now j := by simpa using f
       refine Ok.ret ⟨l2, fun j => ?_⟩
       show At out j ↔ _
       rw [a2]
       refine exists_congr fun i => and_congr_right fun hi => ?_
       rw [stp_rep h4 hk]
       have hno : ∀ q, n ≤ q → ∀ j', ¬ powR (k.stp b) q i j' := by
        intro q hq
        induction q with
        | zero =>
         intro j' h
         have : n = 0 := by omega
         subst this
         exact f ⟨j', (a1 j').2 ⟨i, hi, h⟩⟩
        | succ q ih =>
         intro j' h
         by_cases e : n = q + 1
         ·subst e; exact f ⟨j', (a1 j').2 ⟨i, hi, h⟩⟩
         ·obtain ⟨m', h1, _⟩ := h
          exact ih (by omega) m' h1
       constructor
       ·rintro ⟨q, h1, h2, h3⟩
        exact ⟨q, h1, by omega, h3⟩
       ·rintro ⟨q, h1, h2, h3⟩
        by_cases e : q ≤ n
        ·exact ⟨q, h1, e, h3⟩
        ·exact absurd h3 (hno q (by omega) j)
     ·have d := of_decide_eq_false d
      dsimp only at d
      refine Ok.ret ⟨l2, fun j => ?_⟩
      show At out j ↔ _
      rw [a2]
      refine exists_congr fun i => and_congr_right fun hi => ?_
      rw [stp_rep h4 hk]
      exact ⟨fun ⟨q, h1, h2, h3⟩ => ⟨q, h1, by omega, h3⟩, fun ⟨q, h1, h2, h3⟩ => ⟨q, h1, by omega, h3⟩⟩
    ·refine ⟨0, rfl, by omega, hfr, ho.1, fun j => ⟨fun h => ⟨j, h, rfl⟩, fun ⟨i, h, e⟩ => e ▸ h⟩, fun j => ?_⟩
     show At o0 j ↔ _
     rw [ho.2]
     constructor
     ·rintro ⟨h1, h2⟩
      exact ⟨j, h2,0, by omega, by omega, rfl⟩
     ·rintro ⟨i, h1, q, h2, h3, h4⟩
      have : q = 0 := by omega
      subst this
      cases h4
      exact ⟨by omega, h1⟩
open Classical in
theorem belongs_eq (x : GNode) (b : List UInt8) : F_m x b = some (decide (b.length ≤ 1024 ∧ PV x ∧ x.stp b 0 b.length)) := by
 refine Ok.eq ?_
 unfold F_m
 refine Ok.ite (fun c => Ok.ret ?_) fun c => ?_
 ·have c := of_decide_eq_true c
  rw [eq_comm, decide_eq_false_iff_not]; omega
 ·have c := of_decide_eq_false c
  have hb : b.length ≤ 1024 := by omega
  rw [valid_eq]
  simp only [Option.bind_some]
  refine Ok.ite (fun d => Ok.ret ?_) fun d => ?_
  ·rw [eq_comm, decide_eq_false_iff_not]
   rintro ⟨_, h, _⟩
   simp [err_zero.2 h] at d
  ·have hv : PV x := err_zero.1 (by simpa using d)
   have e1 : ((b.length : Int) + 1).toNat = b.length + 1 := by omega
   rw [e1]
   refine Ok.chk (in64_s (by omega) (by omega)) (Ok.chk (roomI_iff.2 ⟨by omega, by omega, by omega⟩) (Ok.chk (inb_iff.2 ⟨by omega, by simp⟩) ?_))
   obtain ⟨y, hy, h1, h2⟩ := ends_ok hb x x.hgt ((List.replicate (b.length + 1) false).set 0 true) (Nat.le_refl _) hv.rgt (by simp)
   have hF : F_4 x b ((List.replicate (b.length + 1) false).set 0 true) = some y := by
    refine lim_of ⟨x.hgt, fun m hm => ?_⟩
    obtain ⟨y', hy', h1', h2'⟩ := ends_ok hb x m ((List.replicate (b.length + 1) false).set 0 true) hm hv.rgt (by simp)
    show FR_4 m x b _ = _
    rw [hy']
    have : y' = y := by
     refine List.ext_getElem (by omega) fun i hi hi' => ?_
     have := (h2' i).trans (h2 i).symm
     unfold At at this
     rw [List.getD_eq_getElem?_getD, List.getD_eq_getElem?_getD, List.getElem?_eq_getElem hi, List.getElem?_eq_getElem hi'] at this
     exact Bool.eq_iff_iff.2 this
    rw [this]
   rw [hF]
   simp only [Option.bind_some, Int.toNat_natCast]
   refine Ok.chk (inb_iff.2 ⟨by omega, by omega⟩) (Ok.ret ?_)
   rw [Bool.eq_iff_iff, decide_eq_true_eq]
   have := h2 b.length
   unfold At at this
   refine this.trans ⟨?_, ?_⟩
   ·rintro ⟨i, h3, h4⟩
    have : At ((List.replicate (b.length + 1) false).set 0 true) i := h3
    rw [At_set (by simp)] at this
    by_cases e : i = 0
    ·subst e; exact ⟨hb, hv, h4⟩
    ·rw [if_neg e] at this; exact absurd this (At_repl _ _)
   ·rintro ⟨_, _, h⟩
    refine ⟨0, ?_, h⟩
    show At _ 0
    rw [At_set (by simp), if_pos rfl]
end Go.Ab
namespace Go.Ab
open Go.Proofs
theorem Le.loopL {σ ρ : Type} {f g : σ → Option (Fl σ ρ)} {s : σ} (h : ∀ s, Le (f s) (g s)) : Le (Go.Ab.loop f s) (Go.Ab.loop g s) := fun r hr => by
 obtain ⟨n, hn⟩ := loop_iter.1 hr
 exact loop_iter.2 ⟨n, Le.iter h n s r hn⟩
theorem Le.up {α : Type} {f : Nat → Option α} (h : ∀ n, Le (f n) (f (n + 1))) {n m : Nat} (hm : n ≤ m) : Le (f n) (f m) := by
 induction hm with
 | refl => exact Le.refl
 | step _ ih => exact fun r hr => h _ r (ih r hr)
theorem Ok.lim {α : Type} {f : Nat → Option α} {Q : α → Prop} (h : ∀ n, Le (f n) (f (n + 1))) (n : Nat) (hn : Ok (f n) Q) : Ok (Go.Ab.lim f) Q := by
 obtain ⟨y, e, hy⟩ := hn
 exact ⟨y, lim_of ⟨n, fun m hm => Le.up h hm y e⟩, hy⟩
theorem pattern_mono : ∀ n (t : GTape) (d : Int), Le (FR_0 n t d) (FR_0 (n + 1) t d)
 | 0, t, d => by simp only [FR_0]; exact Le.non
 | n + 1, t, d => by
  have ih := pattern_mono n
  rw [FR_0, FR_0]
  (repeat' (with_reducible first | exact Le.refl | assumption | (refine Le.bind ?_ fun _ => ?_) | (refine Le.jn ?_ fun _ => ?_) | (refine Le.grp fun _ => ?_) | (refine Le.chk ?_) | (refine Le.cond ?_ ?_) | (refine Le.fl (fun _ => ?_) fun _ => ?_) | (refine Le.sum (fun _ => ?_) fun _ => ?_) | (refine Le.forL (fun _ _ _ => ?_) _ _ _) | (refine Le.foldL (fun _ _ _ => ?_) _ _ _) | (refine Le.loopL fun _ => ?_)))
  all_goals exact ih _ _
theorem member_mono : ∀ n (t : GTape) (x : GNode), Le (FR_1 n t x) (FR_1 (n + 1) t x)
 | 0, t, d => by simp only [FR_1]; exact Le.non
 | n + 1, t, d => by
  have ih := member_mono n
  rw [FR_1, FR_1]
  (repeat' (with_reducible first | exact Le.refl | assumption | (refine Le.bind ?_ fun _ => ?_) | (refine Le.jn ?_ fun _ => ?_) | (refine Le.grp fun _ => ?_) | (refine Le.chk ?_) | (refine Le.cond ?_ ?_) | (refine Le.fl (fun _ => ?_) fun _ => ?_) | (refine Le.sum (fun _ => ?_) fun _ => ?_) | (refine Le.forL (fun _ _ _ => ?_) _ _ _) | (refine Le.foldL (fun _ _ _ => ?_) _ _ _) | (refine Le.loopL fun _ => ?_)))
  all_goals exact ih _ _
def TO (t : GTape) : Prop := 0 ≤ t.at_ ∧ (t.L.length : Int) ≤ 9223372036854775807
theorem nx_ok {t : GTape} {n : Int} (h : TO t) (hn : 0 < n) : Ok (F_9 t n) fun y => 0 ≤ y.1 ∧ y.1 < n ∧ TO y.2 := by
 unfold F_9
 refine Ok.ite (fun c => Ok.ret ⟨Int.le_refl 0, hn, h⟩) fun c => ?_
 have c' : t.at_ < t.L.length := by simpa using c
 have h1 := h.1; have h2 := h.2
 refine Ok.chk (inb_iff.2 ⟨h.1, c'⟩) (Ok.chk (in64_iff.2 ⟨by omega, by omega⟩) (Ok.chk (divs_iff.2 ⟨Int.emod_nonneg _ (by decide), hn⟩) (Ok.ret ⟨Int.emod_nonneg _ (by omega), Int.emod_lt_of_pos _ hn, ?_, h2⟩)))
 show 0 ≤ t.at_ + 1
 omega
theorem btw_ok {t : GTape} {a b : Int} (h : TO t) (h1 : -100000 ≤ a) (h2 : a ≤ b) (h3 : b ≤ 100000) : Ok (F_l t a b) fun y => a ≤ y.1 ∧ y.1 ≤ b ∧ TO y.2 := by
 unfold F_l
 refine Ok.chk (in64_s (by omega) (by omega)) (Ok.chk (in64_s (by omega) (by omega)) (Ok.bind (nx_ok h (by omega)) fun y hy => Ok.chk (in64_s (by omega) (by omega)) (Ok.ret ⟨?_, ?_, hy.2.2⟩)))
 ·show a ≤ a + y.1; omega
 ·show a + y.1 ≤ b; omega
theorem mbytes_ok {t : GTape} {n : Int} (h : TO t) (h0 : 0 ≤ n) (hn : n ≤ 100) : Ok (F_12 t n) fun y => (y.1.length : Int) = n ∧ TO y.2 := by
 unfold F_12
 refine Ok.bind (Ok.loop (Q := fun y : List UInt8 × GTape => (y.1.length : Int) = n ∧ TO y.2) (fun x => (x.2.1.length : Int) = x.1 ∧ x.1 ≤ n ∧ TO x.2.2) (fun x => (n - x.1).toNat) (fun x hx => ?_) _ ⟨rfl, h0, h⟩) fun r hr => Ok.ret hr
 obtain ⟨i, out, t⟩ := x
 obtain ⟨h1, h2, h3⟩ := hx
 simp only at h1 h2 h3
 unfold F_22
 refine Ok.ite (fun c => ?_) fun c => ?_
 ·have c : i < n := of_decide_eq_true c
  have rm : ∀ b : UInt8, room (out.length + [b].length) 1 = true := fun b => room_s (by simp; omega)
  refine Ok.jn (P := fun j : List UInt8 × GTape => (j.1.length : Int) = i + 1 ∧ TO j.2) ?_ fun j hj => ?_
  ·refine Ok.bind (nx_ok h3 (by omega)) fun y hy => ?_
   have ln : ∀ b : UInt8, ((out ++ [b]).length : Int) = i + 1 := fun b => by simp; omega
   refine Ok.ite (fun _ => ?_) fun _ => Ok.ite (fun _ => ?_) fun _ => ?_
   ·exact Ok.bind (nx_ok hy.2.2 (by omega)) fun z hz => Ok.chk (inb_iff.2 ⟨hz.1, hz.2.1⟩) (Ok.chk (room_s (by simp; omega)) (Ok.ret ⟨ln _, hz.2.2⟩))
   ·exact Ok.bind (nx_ok hy.2.2 (by omega)) fun z hz => Ok.chk (room_s (by simp; omega)) (Ok.ret ⟨ln _, hz.2.2⟩)
   ·refine Ok.jn (P := fun _ => True) (Ok.ite (fun _ => Ok.ret trivial) fun _ => Ok.ret trivial) fun b _ => ?_
    refine Ok.ite (fun _ => ?_) fun _ => ?_
    ·exact Ok.bind (nx_ok hy.2.2 (by omega)) fun z hz => Ok.chk (in64_s (by omega) (by omega)) (Ok.chk (room_s (by simp; omega)) (Ok.ret ⟨ln _, hz.2.2⟩))
    ·exact Ok.bind (nx_ok hy.2.2 (by omega)) fun z hz => Ok.chk (inb_iff.2 ⟨hz.1, hz.2.1⟩) (Ok.chk (room_s (by simp; omega)) (Ok.ret ⟨ln _, hz.2.2⟩))
  ·refine Ok.chk (in64_s (by omega) (by omega)) (Ok.ret ?_)
   simp only [Fl.elim]
   exact ⟨⟨hj.1, by omega, hj.2⟩, by omega⟩
 ·have c : ¬ i < n := of_decide_eq_false c
  exact Ok.ret ⟨by show (out.length : Int) = n; omega, h3⟩
structure gd (d : Nat) (x : GNode) : Prop where
 rgt : Rgt x
 hgt : x.hgt ≤ d + 1
 cnt : 2 * x.cnt + 1 ≤ 3 ^ (d + 1)
 lon : x.lon ≤ 4 ^ d
theorem pow3_pos (d : Nat) : (1 : Int) ≤ 3 ^ d := by
 induction d with
 | zero => decide
 | succ d ih => rw [Int.pow_succ]; omega
theorem pow4_pos (d : Nat) : (1 : Int) ≤ 4 ^ d := by
 induction d with
 | zero => decide
 | succ d ih => rw [Int.pow_succ]; omega
theorem gd.up {d : Nat} {x : GNode} (h : gd d x) : gd (d + 1) x := by
 obtain ⟨h1, h2, h3, h4⟩ := h
 have := pow3_pos (d + 1); have := pow4_pos d
 refine ⟨h1, by omega, ?_, ?_⟩
 ·rw [Int.pow_succ 3 (d + 1)]; omega
 ·rw [Int.pow_succ]; omega
theorem gd.lift {x : GNode} : ∀ {d : Nat}, gd 0 x → gd d x
 | 0, h => h
 | d + 1, h => (gd.lift h).up
theorem gd_set {l : List GRange} (h1 : rngP l) (h2 : l ≠ []) : gd 0 (GNode.mk 1 l [] 0 0) := by
 refine ⟨.mk _ (.inl ⟨rfl, h1, h2, rfl, rfl, rfl⟩) (by simp), ?_, ?_, ?_⟩
 ·rw [hgt_eq]; simp [GNode.hgts]
 ·rw [cnt_eq]; simp [GNode.cnts]
 ·rw [lon_eq]; simp; omega
def sets8 : List (List GRange) := [[(GRange.mk 97 98)],[(GRange.mk 48 57)],[(GRange.mk 97 97)],[(GRange.mk 98 98)],[(GRange.mk 48 57), (GRange.mk 97 102)],[(GRange.mk 107 107)],[(GRange.mk 45 45)],[(GRange.mk 0 9), (GRange.mk 250 255)]]
instance (l : List GRange) (i : Nat) : Decidable (rng1 l i) := inferInstanceAs (Decidable (_ ∧ _))
instance (l : List GRange) : Decidable (rngP l) := inferInstanceAs (Decidable (∀ i, i < l.length → rng1 l i))
theorem sets8_ok : ∀ i, i < 8 → rngP (sets8.getD i default) ∧ sets8.getD i default ≠ [] := by
 intro i hi
 have : i = 0 ∨ i = 1 ∨ i = 2 ∨ i = 3 ∨ i = 4 ∨ i = 5 ∨ i = 6 ∨ i = 7 := by omega
 rcases this with rfl | rfl | rfl | rfl | rfl | rfl | rfl | rfl <;> exact ⟨by decide, by simp [sets8]⟩
theorem mset_ok {t : GTape} (h : TO t) : Ok (F_w t) fun y => gd 0 y.1 ∧ y.1.Op = 1 ∧ TO y.2 := by
 unfold F_w
 refine Ok.bind (nx_ok h (by simp)) fun y hy => Ok.chk (inb_iff.2 ⟨hy.1, hy.2.1⟩) (Ok.ret ?_)
 have := sets8_ok y.1.toNat (by have := hy.2.1; simp at this; omega)
 exact ⟨gd_set this.1 this.2, rfl, hy.2.2⟩
theorem cnts_le {c : Int} : ∀ {l : List GNode}, (∀ k ∈ l, k.cnt ≤ c) → GNode.cnts l ≤ l.length * c
 | [], _ => by simp [GNode.cnts]
 | a :: r, h => by
  have h1 := h a (by simp)
  have h2 := cnts_le (l := r) fun k hk => h k (by simp [hk])
  simp only [GNode.cnts, List.length_cons, Int.natCast_add, Int.natCast_one, Int.add_mul, Int.one_mul]; omega
theorem hgts_le {c : Nat} : ∀ {l : List GNode}, (∀ k ∈ l, k.hgt ≤ c) → GNode.hgts l ≤ c
 | [], _ => by simp [GNode.hgts]
 | a :: r, h => by
  have h1 := h a (by simp)
  have h2 := hgts_le (l := r) fun k hk => h k (by simp [hk])
  simp only [GNode.hgts]; omega
theorem gd_node {e : Nat} {op : Int} {kids : List GNode} {mi ma : Int} (ho : okN (GNode.mk op [] kids mi ma)) (hk : ∀ k ∈ kids, gd e k) (hl : kids.length ≤ 3) (hma : ma ≤ 4) : gd (e + 1) (GNode.mk op [] kids mi ma) := by
 have hr : Rgt (GNode.mk op [] kids mi ma) := .mk _ ho fun k h => (hk k h).rgt
 have p3 := pow3_pos (e + 1); have p4 := pow4_pos e
 refine ⟨hr, ?_, ?_, ?_⟩
 ·rw [hgt_eq]
  have := hgts_le (c := e + 1) (l := kids) fun k h => (hk k h).hgt
  show GNode.hgts kids + 1 ≤ _; omega
 ·rw [cnt_eq]
  show 2 * (GNode.cnts kids + 1) + 1 ≤ _
  have h3 : ∀ l : List GNode, (∀ k ∈ l, gd e k) → l.length ≤ 3 → 2 * GNode.cnts l ≤ 3 * (3 ^ (e + 1) - 1) := by
   intro l h hl
   match l, h, hl with
   | [], _, _ => simp only [GNode.cnts]; omega
   | [a], h, _ => have h1 := (h a (by simp)).cnt; simp only [GNode.cnts]; omega
   | [a, b], h, _ => have h1 := (h a (by simp)).cnt; have h2 := (h b (by simp)).cnt; simp only [GNode.cnts]; omega
   | [a, b, c], h, _ => have h1 := (h a (by simp)).cnt; have h2 := (h b (by simp)).cnt; have h3 := (h c (by simp)).cnt; simp only [GNode.cnts]; omega
   | _ :: _ :: _ :: _ :: _, _, hl => simp only [List.length_cons] at hl; omega
  have := h3 kids hk hl
  rw [Int.pow_succ 3 (e + 1)]; omega
 ·rw [lon_eq, Int.pow_succ]
  have hkl : ∀ k ∈ kids, 0 ≤ k.lon ∧ k.lon ≤ 4 ^ e := fun k h => ⟨by have := lon_rng k (hk k h).rgt; omega, (hk k h).lon⟩
  have s1 := (sum_rng hkl).2.1
  have s2 : (4 : Int) ^ e * (kids.length : Int) ≤ 4 ^ e * 3 := Int.mul_le_mul_of_nonneg_left (by omega) (by omega)
  have m1 := max_rng (by omega) hkl
  rcases hr.kinds with ⟨h, _⟩ | ⟨h, h2⟩ | ⟨h, h2⟩ | ⟨h, ⟨k, h2⟩, h3, h4, h5, h6⟩ <;> dsimp only at h <;> subst h
  ·simp only [if_true]; omega
  ·rw [if_neg (show ¬ (2 : Int) = 1 by decide), if_pos rfl]
   show min (sumI (kids.map GNode.lon)) 1025 ≤ _; omega
  ·rw [if_neg (show ¬ (3 : Int) = 1 by decide), if_neg (show ¬ (3 : Int) = 2 by decide), if_pos rfl]
   show min (maxI (kids.map GNode.lon)) 1025 ≤ _; omega
  ·rw [if_neg (show ¬ (4 : Int) = 1 by decide), if_neg (show ¬ (4 : Int) = 2 by decide), if_neg (show ¬ (4 : Int) = 3 by decide)]
   dsimp only at h2 h3 h4 h5
   subst h2
   have h7 := hkl k (by simp)
   show min (ma * k.lon) 1025 ≤ _
   have : ma * k.lon ≤ 4 * 4 ^ e := Int.mul_le_mul hma h7.2 h7.1 (by omega)
   omega
theorem pattern_ok : ∀ (d m : Nat) (t : GTape), d < m → TO t → d ≤ 100 → Ok (FR_0 m t ((d : Int) + 1)) fun y => gd d y.1 ∧ TO y.2 := by
 intro d
 induction d with
 | zero =>
  intro m t hm ht _
  obtain ⟨m, rfl⟩ : ∃ n, m = n + 1 := ⟨m - 1, by omega⟩
  rw [FR_0]
  exact Ok.ite (fun _ => Ok.bind (mset_ok ht) fun y hy => Ok.ret ⟨hy.1, hy.2.2⟩) fun c => by have := of_decide_eq_false c; simp at this
 | succ e ih =>
  intro m t hm ht he
  obtain ⟨m, rfl⟩ : ∃ n, m = n + 1 := ⟨m - 1, by omega⟩
  have e1 : ((e + 1 : Nat) : Int) + 1 - 1 = (e : Int) + 1 := by omega
  have hrec : ∀ t, TO t → Ok (FR_0 m t ((e : Int) + 1)) fun y => gd e y.1 ∧ TO y.2 := fun t h => ih m t (by omega) h (by omega)
  rw [FR_0]
  simp only [e1]
  refine Ok.ite (fun c => Ok.bind (mset_ok ht) fun y hy => Ok.ret ⟨hy.1.lift, hy.2.2⟩) fun _ => ?_
  refine Ok.jn (P := fun o => Fl.elim (fun j : Int × GTape => (j.1 = 2 ∨ j.1 = 3) ∧ TO j.2) (fun r : GNode × GTape => gd (e + 1) r.1 ∧ TO r.2) o) ?_ fun o ho => ?_
  ·refine Ok.bind (nx_ok ht (by omega)) fun y hy => Ok.jn (P := fun _ => True) (Ok.ite (fun _ => Ok.ret trivial) fun _ => Ok.ret trivial) fun j _ => ?_
   refine Ok.ite (fun _ => Ok.ret ⟨.inl rfl, hy.2.2⟩) fun _ => Ok.ite (fun _ => Ok.ret ⟨.inr rfl, hy.2.2⟩) fun _ => Ok.ite (fun _ => ?_) fun _ => Ok.bind (mset_ok hy.2.2) fun z hz => Ok.ret ⟨hz.1.lift, hz.2.2⟩
   refine Ok.bind (btw_ok hy.2.2 (by omega) (by omega) (by omega)) fun z hz => Ok.chk (in64_s (by omega) (by omega)) (Ok.bind (nx_ok hz.2.2 (by omega)) fun w hw => ?_)
   refine Ok.jn (P := fun j : Int × Int => 0 ≤ j.1 ∧ 1 ≤ j.2 ∧ j.1 ≤ j.2 ∧ j.2 ≤ 4 ∧ ¬ (j.1 = 1 ∧ j.2 = 1)) (Ok.grp (Ok.ite (fun c => Ok.ret ?_) fun c => Ok.ret ?_)) fun j hj => ?_
   ·simp only [Bool.and_eq_true, decide_eq_true_eq] at c
    exact ⟨hw.1, by omega, by show w.1 ≤ 2; omega, by omega, by show ¬ (w.1 = 1 ∧ (2 : Int) = 1); omega⟩
   ·refine ⟨hw.1, hz.1, by have := hw.2.1; show w.1 ≤ z.1; omega, hz.2.1, fun ⟨h1, h2⟩ => ?_⟩
    dsimp only at h1 h2
    simp [h1, h2] at c
   ·refine Ok.chk (in64_s (by omega) (by omega)) (Ok.bind (hrec _ hw.2.2) fun v hv => Ok.ret ⟨?_, hv.2⟩)
    exact gd_node (.inr (.inr ⟨rfl, rfl, rfl, hj.1, hj.2.1, hj.2.2.1, by show j.2 ≤ 64; omega, hj.2.2.2.2⟩)) (by simp; exact hv.1) (by simp) hj.2.2.2.1
  ·cases o with
   | ex r => exact Ok.ret ho
   | nx j =>
    obtain ⟨hj, ht2⟩ := ho
    dsimp only [Fl.elim]
    refine Ok.bind (btw_ok ht2 (by omega) (by omega) (by omega)) fun n hn => ?_
    refine Ok.bind (Ok.loop (Q := fun r : Int × List GNode × GTape => r.1 = j.1 ∧ (r.2.1.length : Int) = n.1 ∧ (∀ k ∈ r.2.1, gd e k ∧ k.Op ≠ j.1) ∧ TO r.2.2) (fun x : Int × Int × List GNode × GTape => x.2.1 = j.1 ∧ 0 ≤ x.1 ∧ x.1 + x.2.2.1.length = n.1 ∧ (∀ k ∈ x.2.2.1, gd e k ∧ k.Op ≠ j.1) ∧ TO x.2.2.2) (fun x => x.1.toNat) (fun x hx => ?_) _ ⟨rfl, by omega, by simp, by simp, hn.2.2⟩) fun r hr => Ok.ret ⟨?_, hr.2.2.2⟩
    ·obtain ⟨a, op, kids, t3⟩ := x
     obtain ⟨h1, h2, h3, h4, h5⟩ := hx
     dsimp only at h1 h2 h3 h4 h5
     subst h1
     refine Ok.ite (fun c => ?_) fun c => ?_
     ·have c : 0 < a := of_decide_eq_true c
      refine Ok.chk (in64_s (by omega) (by omega)) (Ok.bind (hrec _ h5) fun y hy => ?_)
      refine Ok.jn (P := fun q : GNode × GTape => (gd e q.1 ∧ q.1.Op ≠ j.1) ∧ TO q.2) (Ok.ite (fun f => ?_) fun f => ?_) fun q hq => ?_
      ·refine Ok.bind (mset_ok hy.2) fun z hz => Ok.ret ⟨⟨hz.1.lift, ?_⟩, hz.2.2⟩
       rw [hz.2.1]; omega
      ·exact Ok.ret ⟨⟨hy.1, of_decide_eq_false f⟩, hy.2⟩
      ·refine Ok.chk (room_s (by simp; omega)) (Ok.chk (in64_s (by omega) (by omega)) (Ok.ret ⟨⟨rfl, by dsimp only; omega, by dsimp only; simp; omega, fun k hk => ?_, hq.2⟩, by dsimp only; omega⟩))
       rcases List.mem_append.1 hk with hk | hk
       ·exact h4 k hk
       ·cases List.mem_singleton.1 hk; exact hq.1
     ·have c : ¬ 0 < a := of_decide_eq_false c
      exact Ok.ret ⟨rfl, by dsimp only; omega, h4, h5⟩
    ·obtain ⟨r1, r2, r3, r4⟩ := hr
     rw [r1]
     exact gd_node (.inr (.inl ⟨hj, by show 2 ≤ r.2.1.length; omega, rfl, rfl, rfl, fun k hk => (r3 k hk).2⟩)) (fun k hk => (r3 k hk).1) (by omega) (by omega)
theorem made_pattern {t : GTape} (h : TO t) : Ok (F_0 t 5) fun y => PV y.1 ∧ TO y.2 := by
 refine Ok.mono (Ok.lim (f := fun n => FR_0 n t 5) (fun n => pattern_mono n t 5) 5 (pattern_ok 4 5 t (by omega) h (by omega))) fun y hy => ⟨?_, hy.2⟩
 obtain ⟨⟨h1, h2, h3, h4⟩, _⟩ := hy
 have e3 : (3 : Int) ^ (4 + 1) = 243 := by decide
 have e4 : (4 : Int) ^ 4 = 256 := by decide
 exact ⟨by omega, by omega, h1, by omega⟩
end Go.Ab
namespace Go.Ab
open Go.Proofs
def Mem (x : GNode) (w : List UInt8) : Prop := ∀ p s : List UInt8, x.stp (p ++ w ++ s) p.length (p.length + w.length)
theorem Mem.len {x : GNode} {w : List UInt8} (h : Mem x w) (hx : PV x) : x.sho ≤ w.length ∧ (w.length : Int) ≤ x.lon := by
 have := stp_rng x hx _ _ (h [] [])
 simp only [List.length_nil, Nat.zero_add] at this; omega
theorem Mem.whole {x : GNode} {w : List UInt8} (h : Mem x w) : x.stp w 0 w.length := by
 have := h [] []
 simpa using this
theorem member_ok : ∀ (x : GNode) (m : Nat) (t : GTape), x.hgt ≤ m → PV x → TO t → Ok (FR_1 m t x) fun y => Mem x y.1 ∧ TO y.2 := by
 refine GNode.ind fun x ih m t hm hx ht => ?_
 obtain ⟨m, rfl⟩ : ∃ n, m = n + 1 := ⟨m - 1, by have := hgt_pos x; omega⟩
 have hrec : ∀ k ∈ x.Kids, ∀ t, TO t → Ok (FR_1 m t k) fun y => (Mem k y.1 ∧ y.1.length ≤ 1024) ∧ TO y.2 := fun k hk t h => Ok.mono (ih k hk m t (by have := kid_hgt hk; omega) (hx.kid hk) h) fun y hy => ⟨⟨hy.1, by have := (hy.1.len (hx.kid hk)).2; have := (hx.kid hk).lon; omega⟩, hy.2⟩
 have hkl := kids_cnt x
 have hcn := hx.cnt
 rw [FR_1]
 refine Ok.ite (fun c => ?_) fun c => Ok.ite (fun c2 => ?_) fun c2 => Ok.ite (fun c3 => ?_) fun c3 => Ok.ite (fun c4 => ?_) fun c4 => ?_
 ·have c := of_decide_eq_true c
  obtain ⟨h1, h2⟩ : rngP x.Ranges ∧ x.Ranges ≠ [] := by rcases hx.rgt.kinds with h | h | h | h <;> first | exact h.2 | omega
  have hpos := List.length_pos_iff.2 h2
  refine Ok.bind (nx_ok ht (by omega)) fun y hy => Ok.chk (inb_iff.2 ⟨hy.1, hy.2.1⟩) ?_
  have hlt : y.1.toNat < x.Ranges.length := by have := hy.2.1; omega
  have hr := (h1 _ hlt).1
  have hmem : x.Ranges.getD y.1.toNat default ∈ x.Ranges := by
   rw [List.getD_eq_getElem?_getD, List.getElem?_eq_getElem hlt]; exact List.getElem_mem hlt
  generalize x.Ranges.getD y.1.toNat default = r at hr hmem
  have b1 := r.High.toNat_lt
  refine Ok.chk (in64_s (by omega) (by omega)) (Ok.chk (in64_s (by omega) (by omega)) (Ok.bind (nx_ok hy.2.2 (by omega)) fun z hz => Ok.ret ⟨fun p s => (stp_set c).2 ⟨_, by simp; rfl, ⟨r, hmem, ?_⟩, rfl⟩, hz.2.2⟩))
  have e1 : ((u8 z.1).toNat : Int) = z.1 := by rw [u8_toNat]; have := hz.1; have := hz.2.1; omega
  have e2 := u8_toNat ((r.Low.toNat : Int) + ((u8 z.1).toNat : Int))
  have := hz.1; have := hz.2.1
  rw [e1] at e2 ⊢
  omega
 ·have c2 := of_decide_eq_true c2
  refine Ok.bind (Ok.loop (Q := fun r : List UInt8 × GTape => Mem x r.1 ∧ TO r.2) (fun s : Int × List UInt8 × GTape => ∃ n : Nat, s.1 = (n : Int) ∧ n ≤ x.Kids.length ∧ s.2.1.length ≤ n * 1024 ∧ (∀ p q : List UInt8, seqR ((x.Kids.take n).map (GNode.stp (p ++ s.2.1 ++ q))) p.length (p.length + s.2.1.length)) ∧ TO s.2.2) (fun s => (x.Kids.length - s.1).toNat) (fun s hs => ?_) _ ⟨0, rfl, by omega, by simp, fun p q => by simp [seqR], ht⟩) fun r hr => Ok.ret hr
  obtain ⟨i, out, t1⟩ := s
  obtain ⟨n, rfl, h2, h3, h4, h5⟩ := hs
  dsimp only at h3 h4 h5
  refine Ok.ite (fun d => ?_) fun d => ?_
  ·have d : (n : Int) < x.Kids.length := of_decide_eq_true d
   have hlt : n < x.Kids.length := by omega
   have hg : x.Kids.getD (n : Int).toNat default = x.Kids[n] := by rw [Int.toNat_natCast, List.getD_eq_getElem?_getD, List.getElem?_eq_getElem hlt]; rfl
   refine Ok.chk (inb_iff.2 ⟨by dsimp only; omega, d⟩) ?_
   dsimp only
   rw [hg]
   refine Ok.bind (hrec _ (List.getElem_mem hlt) t1 h5) fun y hy => Ok.chk (room_s (by omega)) (Ok.chk (in64_s (by omega) (by omega)) (Ok.ret ⟨⟨n + 1, rfl, by omega, by simp; omega, fun p q => ?_, hy.2⟩, by dsimp only; omega⟩))
   dsimp only
   rw [List.take_succ_eq_append_getElem hlt, List.map_append, List.map_cons, List.map_nil, seqR_snoc]
   refine ⟨p.length + out.length, ?_, ?_⟩
   ·have := h4 p (y.1 ++ q)
    simpa [List.append_assoc] using this
   ·have := hy.1.1 (p ++ out) q
    simpa [List.append_assoc, Nat.add_assoc] using this
  ·have d : ¬ (n : Int) < x.Kids.length := of_decide_eq_false d
   have : n = x.Kids.length := by omega
   subst this
   refine Ok.ret ⟨fun p q => (stp_seq c2).2 ?_, h5⟩
   have := h4 p q
   rwa [List.take_length] at this
 ·have c3 := of_decide_eq_true c3
  have h2 : 2 ≤ x.Kids.length := by rcases hx.rgt.kinds with h | h | h | h <;> first | exact h.2 | omega
  refine Ok.bind (nx_ok ht (by omega)) fun y hy => Ok.chk (inb_iff.2 ⟨hy.1, hy.2.1⟩) ?_
  have hlt : y.1.toNat < x.Kids.length := by have := hy.2.1; have := hy.1; omega
  have hmem : x.Kids.getD y.1.toNat default ∈ x.Kids := by
   rw [List.getD_eq_getElem?_getD, List.getElem?_eq_getElem hlt]; exact List.getElem_mem hlt
  refine Ok.bind (hrec _ hmem _ hy.2.2) fun z hz => Ok.ret ⟨fun p q => (stp_alt c3).2 ⟨_, hmem, hz.1.1 p q⟩, hz.2⟩
 ·have c4 := of_decide_eq_true c4
  obtain ⟨k, hk, h5, h6, h7, h8⟩ : (∃ k, x.Kids = [k] ∧ 0 ≤ x.Min ∧ 1 ≤ x.Max ∧ x.Min ≤ x.Max ∧ x.Max ≤ 64) := by
   rcases hx.rgt.kinds with h | h | h | ⟨_, ⟨k, h⟩, h2⟩
   ·omega
   ·omega
   ·omega
   ·exact ⟨k, h, h2⟩
  have hkm : k ∈ x.Kids := by rw [hk]; simp
  have hg : x.Kids.getD 0 default = k := by rw [hk]; rfl
  rw [hg]
  refine Ok.bind (btw_ok ht (by omega) h7 (by omega)) fun n hn => ?_
  refine Ok.bind (Ok.loop (Q := fun r : List UInt8 × GTape => Mem x r.1 ∧ TO r.2) (fun s : Int × List UInt8 × GTape => ∃ q : Nat, 0 ≤ s.1 ∧ (q : Int) + s.1 = n.1 ∧ s.2.1.length ≤ q * 1024 ∧ (∀ p r : List UInt8, powR (k.stp (p ++ s.2.1 ++ r)) q p.length (p.length + s.2.1.length)) ∧ TO s.2.2) (fun s => s.1.toNat) (fun s hs => ?_) _ ⟨0, by dsimp only; omega, by dsimp only; omega, by simp, fun p q => by simp [powR], hn.2.2⟩) fun r hr => Ok.ret hr
  obtain ⟨i, out, t1⟩ := s
  obtain ⟨q, h1, h2, h3, h4, h9⟩ := hs
  dsimp only at h1 h2 h3 h4 h9
  refine Ok.ite (fun d => ?_) fun d => ?_
  ·have d : 0 < i := of_decide_eq_true d
   refine Ok.chk (inb_iff.2 ⟨by omega, by rw [hk]; simp⟩) (Ok.bind (hrec k hkm t1 h9) fun y hy => Ok.chk (room_s (by dsimp only; omega)) (Ok.chk (in64_s (by dsimp only; omega) (by dsimp only; omega)) (Ok.ret ⟨⟨q + 1, by dsimp only; omega, by dsimp only; omega, by simp; omega, fun p r => ?_, hy.2⟩, by dsimp only; omega⟩)))
   dsimp only
   refine ⟨p.length + out.length, ?_, ?_⟩
   ·have := h4 p (y.1 ++ r)
    simpa [List.append_assoc] using this
   ·have := hy.1.1 (p ++ out) r
    simpa [List.append_assoc, Nat.add_assoc] using this
  ·have d : ¬ 0 < i := of_decide_eq_false d
   exact Ok.ret ⟨fun p r => (stp_rep c4 hk).2 ⟨q, by have := hn.1; omega, by have := hn.2.1; omega, h4 p r⟩, h9⟩
 ·have c := of_decide_eq_false c
  have c2 := of_decide_eq_false c2
  have c3 := of_decide_eq_false c3
  have c4 := of_decide_eq_false c4
  rcases hx.rgt.kinds with h | h | h | h <;> omega
theorem made_member {t : GTape} {x : GNode} (h : TO t) (hx : PV x) : Ok (F_1 t x) fun y => Mem x y.1 ∧ TO y.2 :=
 Ok.lim (f := fun n => FR_1 n t x) (fun n => member_mono n t x) x.hgt (member_ok x x.hgt t (Nat.le_refl _) hx h)
def oneN (c : UInt8) : GNode := GNode.mk 1 [GRange.mk c c] [] 0 0
def wordN (s : List UInt8) : GNode := match s with
 | [c] => oneN c
 | _ => GNode.mk 2 [] (s.map oneN) 0 0
theorem word_eq {s : List UInt8} (h1 : 1 ≤ s.length) (h2 : s.length ≤ 100) : F_u s = some (wordN s) := by
 refine Ok.eq ?_
 unfold F_u
 refine Ok.grp (Ok.ite (fun c => ?_) fun c => ?_)
 ·simp only [Bool.or_eq_true, decide_eq_true_eq] at c; omega
 ·refine Ok.bind (Ok.foldI (all := s) (Q := fun o => o = s.map oneN) (fun pre o => o = pre.map oneN) s [] 0 [] rfl rfl rfl (fun pre a r o hw ho => ?_) fun o ho => ho) fun o ho => ?_
  ·have := len_at hw
   unfold F_1t
   refine Ok.chk (room_s (by subst ho; simp; omega)) (Ok.ret ?_)
   subst ho; simp [oneN]
  ·subst ho
   match s, h1 with
   | [c], _ => exact Ok.ite (fun _ => Ok.chk (inb_iff.2 ⟨by omega, by simp⟩) (Ok.ret rfl)) fun h => by simp at h
   | a :: b :: r, _ => exact Ok.ite (fun h => by simp at h; omega) fun h => Ok.ret rfl
theorem gd_one (c : UInt8) : gd 0 (oneN c) := gd_set (l := [GRange.mk c c]) (by
 intro i hi
 have : i = 0 := by simpa using hi
 subst this
 exact ⟨Nat.le_refl _, fun h => by omega⟩) (by simp)
theorem word_PV {s : List UInt8} (h1 : 1 ≤ s.length) (h2 : s.length ≤ 100) : PV (wordN s) := by
 have hone : ∀ c, PV (oneN c) := fun c => by
  obtain ⟨h1, h2, h3, h4⟩ := gd_one c
  have e3 : (3 : Int) ^ (0 + 1) = 3 := by decide
  have e4 : (4 : Int) ^ 0 = 1 := by decide
  exact ⟨by omega, by omega, h1, by omega⟩
 match s, h1, h2 with
 | [c], _, _ => exact hone c
 | a :: b :: r, _, h2 =>
  have hk : ∀ k ∈ (a :: b :: r).map oneN, gd 0 k := fun k hk => by
   obtain ⟨c, _, rfl⟩ := List.mem_map.1 hk
   exact gd_one c
  have e3 : (3 : Int) ^ (0 + 1) = 3 := by decide
  have e4 : (4 : Int) ^ 0 = 1 := by decide
  show PV (GNode.mk 2 [] ((a :: b :: r).map oneN) 0 0)
  have hc := cnts_le (c := 1) (l := (a :: b :: r).map oneN) fun k h => by have := (hk k h).cnt; omega
  have hh := hgts_le (c := 1) (l := (a :: b :: r).map oneN) fun k h => by have := (hk k h).hgt; omega
  have hl := (sum_rng (f := GNode.lon) (c := 1) (l := (a :: b :: r).map oneN) fun k h => ⟨by have := lon_rng k (hk k h).rgt; omega, by have := (hk k h).lon; omega⟩).2.1
  simp only [List.length_map] at hc hl
  refine ⟨?_, ?_, .mk _ (.inr (.inl ⟨.inl rfl, by simp, rfl, rfl, rfl, fun k h => ?_⟩)) fun k h => (hk k h).rgt, ?_⟩
  ·rw [cnt_eq]; show GNode.cnts ((a :: b :: r).map oneN) + 1 ≤ 200; omega
  ·rw [hgt_eq]; show GNode.hgts ((a :: b :: r).map oneN) + 1 ≤ 20; omega
  ·obtain ⟨c, _, rfl⟩ := List.mem_map.1 h
   show ¬ (1 : Int) = 2
   decide
  ·rw [lon_eq, if_neg (show ¬ (2 : Int) = 1 by decide), if_pos rfl]
   show min (sumI (((a :: b :: r).map oneN).map GNode.lon)) 1025 ≤ 1024
   omega
theorem one_stp {b : List UInt8} {c : UInt8} {i j : Nat} : (oneN c).stp b i j ↔ b[i]? = some c ∧ j = i + 1 := by
 rw [stp_set (x := oneN c) rfl]
 constructor
 ·rintro ⟨d, h1, ⟨r, hr, h2, h3⟩, h4⟩
  simp only [oneN, List.mem_singleton] at hr
  subst hr
  have : d = c := UInt8.toNat_inj.1 (by dsimp only at h2 h3; omega)
  exact ⟨this ▸ h1, h4⟩
 ·rintro ⟨h1, h2⟩
  exact ⟨c, h1, ⟨GRange.mk c c, by simp [oneN], Nat.le_refl _, Nat.le_refl _⟩, h2⟩
theorem ones_stp {b : List UInt8} : ∀ (s : List UInt8) (i j : Nat), seqR ((s.map oneN).map (GNode.stp b)) i j ↔ j = i + s.length ∧ ∀ q, q < s.length → b[i + q]? = s[q]?
 | [], i, j => by simp only [List.map_nil, seqR, List.length_nil]; exact ⟨fun h => ⟨by omega, fun q h => by omega⟩, fun h => by omega⟩
 | c :: r, i, j => by
  simp only [List.map_cons, seqR, one_stp, ones_stp r, List.length_cons]
  constructor
  ·rintro ⟨m, ⟨h1, rfl⟩, rfl, h3⟩
   refine ⟨by omega, fun q hq => ?_⟩
   cases q with
   | zero => simpa using h1
   | succ q => have := h3 q (by omega); rw [List.getElem?_cons_succ, ← this]; congr 1; omega
  ·rintro ⟨rfl, h⟩
   refine ⟨i + 1, ⟨by simpa using h 0 (by omega), rfl⟩, by omega, fun q hq => ?_⟩
   have := h (q + 1) (by omega)
   rw [List.getElem?_cons_succ] at this
   rw [← this]; congr 1; omega
theorem word_stp {s b : List UInt8} (h1 : 1 ≤ s.length) : (wordN s).stp b 0 b.length ↔ s = b := by
 have key : seqR ((s.map oneN).map (GNode.stp b)) 0 b.length ↔ s = b := by
  rw [ones_stp]
  constructor
  ·rintro ⟨h2, h3⟩
   refine List.ext_getElem? fun q => ?_
   by_cases hq : q < s.length
   ·have := h3 q hq; rw [Nat.zero_add] at this; exact this.symm
   ·rw [List.getElem?_eq_none (by omega), List.getElem?_eq_none (by omega)]
  ·rintro rfl
   exact ⟨by omega, fun q _ => by rw [Nat.zero_add]⟩
 match s, h1, key with
 | [c], _, key =>
  refine Iff.trans ?_ key
  simp only [List.map_cons, List.map_nil, seqR]
  exact ⟨fun h => ⟨_, h, rfl⟩, fun ⟨m, h, e⟩ => e ▸ h⟩
 | a :: b' :: r, _, key => exact (stp_seq (x := GNode.mk 2 [] ((a :: b' :: r).map oneN) 0 0) rfl).trans key
open Classical in
theorem belongs_yes {x : GNode} {b : List UInt8} (h : b.length ≤ 1024 ∧ PV x ∧ x.stp b 0 b.length) : F_m x b = some true := by rw [belongs_eq, decide_eq_true h]
theorem members05 {tape : List Int} (ht : (V.sl (tape.map (V.int .i64))).fact) : F_1q tape = some true := by
 have h0 : TO (GTape.mk tape 0) := ⟨Int.le_refl 0, Int.ofNat_le.2 (fact_sl ht)⟩
 refine Ok.eq ?_
 unfold F_1q
 refine Ok.bind (made_pattern h0) fun x hx => Ok.bind (made_member hx.2 hx.1) fun w hw => ?_
 obtain ⟨hv, _⟩ := hx
 obtain ⟨l1, l2⟩ := hw.1.len hv
 have l3 := hv.lon
 have k0 : F_m x.1 w.1 = some true := belongs_yes ⟨by omega, hv, hw.1.whole⟩
 rw [k0]
 simp only [Option.bind_some]
 refine Ok.ite (fun c => by cases c) fun _ => ?_
 rw [Shortest_eq, if_pos hv]
 simp only [Option.bind_some]
 refine Ok.ite (fun c => by have := of_decide_eq_true c; omega) fun _ => ?_
 rw [Longest_eq, if_pos hv]
 simp only [Option.bind_some]
 refine Ok.ite (fun c => by have := of_decide_eq_true c; omega) fun _ => ?_
 refine Ok.bind (btw_ok hw.2 (by omega) (by omega) (by omega)) fun a ha => Ok.bind (mbytes_ok ha.2.2 (by omega) (by have := ha.2.1; omega)) fun s hs => Ok.bind (btw_ok hs.2 (by omega) (by omega) (by omega)) fun b hb => Ok.bind (mbytes_ok hb.2.2 (by omega) (by have := hb.2.1; omega)) fun r hr => ?_
 have s1 : 1 ≤ s.1.length := by have := ha.1; have := hs.1; omega
 have s2 : s.1.length ≤ 100 := by have := ha.2.1; have := hs.1; omega
 have s3 : r.1.length ≤ 100 := by have := hb.2.1; have := hr.1; omega
 have hp := word_PV s1 s2
 rw [word_eq s1 s2]
 simp only [Option.bind_some]
 have k1 : F_m (wordN s.1) r.1 = some (decide (s.1 = r.1)) := by
  rw [belongs_eq]
  congr 1
  rw [decide_eq_decide]
  exact ⟨fun h => (word_stp s1).1 h.2.2, fun h => ⟨by omega, hp, (word_stp s1).2 h⟩⟩
 have k2 : F_m (wordN s.1) s.1 = some true := belongs_yes ⟨by omega, hp, (word_stp s1).2 rfl⟩
 rw [k1]
 simp only [Option.bind_some]
 refine Ok.ite (fun _ => ?_) fun c => ?_
 ·rw [k2, awake05]
  exact Ok.ret rfl
 ·simp at c
theorem acall_fact {P : Program} {f : FuncId} {ys : List V} {H : Heap} {Q : V → Heap → Prop} (hc : callable P f = true) (h : (∀ y ∈ ys, y.fact) → ACall P f ys H Q) : ACall P f ys H Q :=
 ⟨hc, fun g w vals hH hs hr => (h fun y hy => by
  obtain ⟨i, hi⟩ := List.getElem?_of_mem hy
  exact (hr i y hi).fact).2 g w vals hH hs hr⟩
theorem call05m {tape : List Int} : ACall Tryz.prog 8 [.sl (tape.map (V.int .i64))] [] (fun r H => r = .bool true ∧ H = []) :=
 acall_fact (by kernel_rfl) fun h => Wq_1q.w (members05 (h _ (by simp)))
end Go.Ab
