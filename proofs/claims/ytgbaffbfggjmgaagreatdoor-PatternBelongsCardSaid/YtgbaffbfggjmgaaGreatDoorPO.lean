/- Patterns: heights, numbers of nodes, and which are right. -/
import Derived.Test.YtgbaffbfggjmgaaGreatDoorLA
import Derived.Test.YtgbaffbfggjmgaaGreatDoorAbHo
import Derived.Test.YtgbaffbfggjmgaaGreatDoorLD
import Derived.Test.YtgbaffbfggjmgaaGreatDoorAbMir
import Derived.Test.YtgbaffbfggjmgaaGreatDoorMI
import Derived.Test.YtgbaffbfggjmgaaGreatDoorAbTop
set_option linter.all false
set_option linter.all false
namespace Go.Ab
open Go.Proofs
theorem in64_s {n : Int} (h1 : -1000000000000000 ≤ n) (h2 : n ≤ 1000000000000000) : in64 n = true := in64_iff.2 ⟨by omega, by omega⟩
theorem room_s {n b : Nat} (h : n * b ≤ 100000000) : room n b = true := room_iff.2 (by omega)
theorem getD_at {α : Type} [Inhabited α] {l pre r : List α} {x : α} (hw : l = pre ++ x :: r) : l.getD pre.length default = x := by rw [hw]; simp
theorem len_at {α : Type} {l pre r : List α} {x : α} (hw : l = pre ++ x :: r) : pre.length < l.length := by rw [hw]; simp
theorem mem_at {α : Type} {l pre r : List α} {x : α} (hw : l = pre ++ x :: r) : x ∈ l := by rw [hw]; simp
mutual
def GNode.hgt : GNode → Nat
 | ⟨_, _, k, _, _⟩ => GNode.hgts k + 1
def GNode.hgts : List GNode → Nat
 | [] => 0
 | a :: r => max (GNode.hgt a) (GNode.hgts r)
end
theorem hgt_eq (x : GNode) : x.hgt = GNode.hgts x.Kids + 1 := by cases x; simp only [GNode.hgt]
theorem hgts_mem : ∀ {l : List GNode} {k : GNode}, k ∈ l → k.hgt ≤ GNode.hgts l
 | a :: r, k, h => by
  simp only [GNode.hgts]
  rcases List.mem_cons.1 h with rfl | h
  ·omega
  ·have := hgts_mem h; omega
theorem kid_hgt {x k : GNode} (h : k ∈ x.Kids) : k.hgt < x.hgt := by rw [hgt_eq x]; have := hgts_mem h; omega
theorem hgt_pos (x : GNode) : 1 ≤ x.hgt := by rw [hgt_eq]; omega
theorem GNode.ind {P : GNode → Prop} (h : ∀ x, (∀ k ∈ x.Kids, P k) → P x) : ∀ x, P x := by
 have : ∀ n (x : GNode), x.hgt ≤ n → P x := by
  intro n
  induction n with
  | zero => intro x hx; have := hgt_pos x; omega
  | succ n ih => intro x hx; exact h x fun k hk => ih k (by have := kid_hgt hk; omega)
 exact fun x => this x.hgt x (Nat.le_refl _)
mutual
def GNode.cnt : GNode → Int
 | ⟨_, _, k, _, _⟩ => GNode.cnts k + 1
def GNode.cnts : List GNode → Int
 | [] => 0
 | a :: r => GNode.cnt a + GNode.cnts r
end
theorem cnt_eq (x : GNode) : x.cnt = GNode.cnts x.Kids + 1 := by cases x; simp only [GNode.cnt]
theorem cnts_nn' : ∀ {l : List GNode}, (∀ k ∈ l, 1 ≤ k.cnt) → (l.length : Int) ≤ GNode.cnts l
 | [], _ => by simp [GNode.cnts]
 | a :: r, h => by
  have h1 := h a (by simp)
  have h2 := cnts_nn' (l := r) fun k hk => h k (by simp [hk])
  simp only [GNode.cnts, List.length_cons]; omega
theorem cnt_pos : ∀ x : GNode, 1 ≤ x.cnt := GNode.ind fun x ih => by rw [cnt_eq]; have := cnts_nn' ih; omega
theorem cnts_len (l : List GNode) : (l.length : Int) ≤ GNode.cnts l := cnts_nn' fun k _ => cnt_pos k
theorem cnts_append : ∀ a b : List GNode, GNode.cnts (a ++ b) = GNode.cnts a + GNode.cnts b
 | [], b => by simp [GNode.cnts]
 | x :: r, b => by simp only [List.cons_append, GNode.cnts, cnts_append r b]; omega
theorem cnts_mem {l : List GNode} {k : GNode} (h : k ∈ l) : k.cnt ≤ GNode.cnts l := by
 obtain ⟨a, b, rfl⟩ := List.append_of_mem h
 have h1 := cnts_len a
 have h2 := cnts_len b
 rw [cnts_append]; simp only [GNode.cnts]; omega
theorem kid_cnt {x k : GNode} (h : k ∈ x.Kids) : k.cnt < x.cnt := by rw [cnt_eq x]; have := cnts_mem h; omega
theorem kids_cnt (x : GNode) : (x.Kids.length : Int) < x.cnt := by rw [cnt_eq x]; have := cnts_len x.Kids; omega
theorem hgt_cnt : ∀ x : GNode, (x.hgt : Int) ≤ x.cnt := GNode.ind fun x ih => by
 have : ∀ l : List GNode, (∀ k ∈ l, (k.hgt : Int) ≤ k.cnt) → (GNode.hgts l : Int) ≤ GNode.cnts l := by
  intro l
  induction l with
  | nil => intro _; simp [GNode.hgts, GNode.cnts]
  | cons a r ih =>
   intro h
   have h1 := h a (by simp)
   have h2 := ih fun k hk => h k (by simp [hk])
   have h3 := cnts_len r
   have h4 := cnt_pos a
   simp only [GNode.hgts, GNode.cnts]; omega
 have := this x.Kids ih
 rw [hgt_eq, cnt_eq]; omega
theorem nodes_ok : ∀ (x : GNode) (m : Nat), x.hgt ≤ m → Ok (FR_8 m x) (· = min x.cnt 201) := by
 refine GNode.ind fun x ih m hm => ?_
 cases m with
 | zero => have := hgt_pos x; omega
 | succ m =>
  simp only [FR_8]
  refine Ok.bind (Ok.forI (all := x.Kids) (Q := fun o => o = if 1 + GNode.cnts x.Kids ≤ 200 then .nx (1 + GNode.cnts x.Kids) else .ex 201) (fun pre s => s = 1 + GNode.cnts pre ∧ s ≤ 200) x.Kids [] 0 1 rfl rfl ⟨by simp [GNode.cnts], by omega⟩ (fun pre k r s hw hs => ?_) fun s hs => ?_) fun o ho => ?_
  ·obtain ⟨hs, hs2⟩ := hs
   have hk := mem_at hw
   have h1 := cnts_len pre
   have h2 := cnts_len r
   have h3 := cnt_pos k
   have hc : GNode.cnts x.Kids = GNode.cnts pre + (k.cnt + GNode.cnts r) := by rw [hw, cnts_append]; simp only [GNode.cnts]
   refine Ok.bind (ih k hk m (by have := kid_hgt hk; omega)) fun y hy => ?_
   subst hy
   refine Ok.chk (in64_s (by omega) (by omega)) (Ok.ite (fun c => ?_) fun c => ?_)
   ·have c := of_decide_eq_true c
    refine Ok.ret ?_
    show Fl.ex 201 = _
    rw [if_neg (by omega)]
   ·have c := of_decide_eq_false c
    exact Ok.ret ⟨by rw [cnts_append]; simp only [GNode.cnts]; omega, by omega⟩
  ·rw [if_pos (by omega), ← hs.1]
  ·subst ho
   rw [cnt_eq]
   by_cases c : 1 + GNode.cnts x.Kids ≤ 200
   ·rw [if_pos c]; exact Ok.ret (by show _ = min _ _; omega)
   ·rw [if_neg c]; exact Ok.ret (by show _ = min _ _; omega)
theorem nodes_eq (x : GNode) : F_8 x = some (min x.cnt 201) := lim_of ⟨x.hgt, fun m hm => (nodes_ok x m hm).eq⟩
theorem hgts_append : ∀ a b : List GNode, GNode.hgts (a ++ b) = max (GNode.hgts a) (GNode.hgts b)
 | [], b => by simp [GNode.hgts]
 | x :: r, b => by simp only [List.cons_append, GNode.hgts, hgts_append r b]; omega
theorem depth_ok : ∀ (x : GNode) (m : Nat) (left : Int), x.hgt ≤ m → 0 ≤ left → left ≤ 1000 → Ok (FR_9 m x left) (· = min (x.hgt : Int) (left + 1)) := by
 refine GNode.ind fun x ih m left hm h0 h1 => ?_
 cases m with
 | zero => have := hgt_pos x; omega
 | succ m =>
  have hp := hgt_pos x
  simp only [FR_9]
  refine Ok.ite (fun c => ?_) fun c => ?_
  ·have c := of_decide_eq_true c
   exact Ok.ret (by show _ = min _ _; omega)
  ·have c := of_decide_eq_false c
   refine Ok.bind (Ok.foldI (all := x.Kids) (Q := fun o => o = min (GNode.hgts x.Kids : Int) left) (fun pre s => s = min (GNode.hgts pre : Int) left) x.Kids [] 0 0 rfl rfl (by simp only [GNode.hgts]; omega) (fun pre k r s hw hs => ?_) fun s hs => hs) fun o ho => ?_
   ·have hk := mem_at hw
    refine Ok.chk (in64_s (by omega) (by omega)) (Ok.bind (ih k hk m (left - 1) (by have := kid_hgt hk; omega) (by omega) (by omega)) fun y hy => Ok.ret ?_)
    subst hy hs
    rw [hgts_append]; simp only [GNode.hgts]; omega
   ·subst ho
    refine Ok.chk (in64_s (by omega) (by omega)) (Ok.ret ?_)
    rw [hgt_eq]; omega
theorem depth_eq (x : GNode) : F_9 x 20 = some (min (x.hgt : Int) 21) := lim_of ⟨x.hgt, fun m hm => (depth_ok x m 20 hm (by omega) (by omega)).eq⟩
def rng1 (l : List GRange) (i : Nat) : Prop := (l.getD i default).Low.toNat ≤ (l.getD i default).High.toNat ∧ (0 < i → (l.getD (i - 1) default).High.toNat + 1 < (l.getD i default).Low.toNat)
def rngP (l : List GRange) : Prop := ∀ i, i < l.length → rng1 l i
def okN (x : GNode) : Prop :=
 (x.Op = 1 ∧ rngP x.Ranges ∧ x.Ranges ≠ [] ∧ x.Kids = [] ∧ x.Min = 0 ∧ x.Max = 0) ∨
 ((x.Op = 2 ∨ x.Op = 3) ∧ 2 ≤ x.Kids.length ∧ x.Ranges = [] ∧ x.Min = 0 ∧ x.Max = 0 ∧ ∀ k ∈ x.Kids, k.Op ≠ x.Op) ∨
 (x.Op = 4 ∧ x.Kids.length = 1 ∧ x.Ranges = [] ∧ 0 ≤ x.Min ∧ 1 ≤ x.Max ∧ x.Min ≤ x.Max ∧ x.Max ≤ 64 ∧ ¬ (x.Min = 1 ∧ x.Max = 1))
inductive Rgt : GNode → Prop
 | mk (x : GNode) (h : okN x) (hk : ∀ k ∈ x.Kids, Rgt k) : Rgt x
theorem Rgt.ok {x : GNode} (h : Rgt x) : okN x := by cases h; assumption
theorem Rgt.kid {x k : GNode} (h : Rgt x) (hk : k ∈ x.Kids) : Rgt k := by cases h with | mk _ _ h => exact h k hk
theorem rng_lo {l : List GRange} : ∀ i, (∀ j, j ≤ i → rng1 l j) → 2 * i ≤ (l.getD i default).Low.toNat
 | 0, h => by omega
 | i + 1, h => by
  have ih := rng_lo i fun j hj => h j (by omega)
  have h1 := (h i (by omega)).1
  have h2 := (h (i + 1) (Nat.le_refl _)).2 (by omega)
  simp only [Nat.add_sub_cancel] at h2
  omega
theorem rng_len {l : List GRange} (h : rngP l) : l.length ≤ 128 := by
 by_cases c : l.length ≤ 128
 ·exact c
 ·have := rng_lo (l := l) 128 fun j hj => h j (by omega)
  have := (l.getD 128 default).Low.toNat_lt
  omega
open Classical in
theorem set_ok (x : GNode) : F_12 x = some (decide (rngP x.Ranges ∧ x.Ranges ≠ [] ∧ x.Kids = [] ∧ x.Min = 0 ∧ x.Max = 0)) := by
 refine Ok.eq ?_
 unfold F_12
 refine Ok.bind (Ok.forI (all := x.Ranges) (Q := fun o => (o = .nx () ∧ rngP x.Ranges) ∨ (o = .ex false ∧ ¬ rngP x.Ranges)) (fun pre _ => ∀ i, i < pre.length → rng1 x.Ranges i) x.Ranges [] 0 () rfl rfl (by simp) (fun pre r q s hw hs => ?_) fun s hs => .inl ⟨rfl, hs⟩) fun o ho => ?_
 ·have hl := len_at hw
  have hr := getD_at hw
  have hb : pre.length ≤ 128 := by
   by_cases c : pre.length ≤ 128
   ·exact c
   ·have := rng_lo (l := x.Ranges) 128 fun j hj => hs j (by omega)
    have := (x.Ranges.getD 128 default).Low.toNat_lt
    omega
  unfold F_24
  refine Ok.ite (fun c => ?_) fun c => Ok.ite (fun c2 => ?_) fun c2 => ?_
  ·have c := of_decide_eq_true c
   refine Ok.ret (.inr ⟨rfl, fun h => ?_⟩)
   have := (h _ hl).1
   rw [hr] at this; omega
  ·have c := of_decide_eq_false c
   have c2 := of_decide_eq_true c2
   have e1 : ((pre.length : Int) - 1).toNat = pre.length - 1 := by omega
   have hlt := (x.Ranges.getD (pre.length - 1) default).High.toNat_lt
   refine Ok.chk (in64_s (by omega) (by omega)) (Ok.chk (inb_iff.2 ⟨by omega, by omega⟩) ?_)
   rw [e1]
   refine Ok.chk (in64_s (by omega) (by omega)) (Ok.ite (fun c3 => ?_) fun c3 => ?_)
   ·have c3 := of_decide_eq_true c3
    refine Ok.ret (.inr ⟨rfl, fun h => ?_⟩)
    have := (h _ hl).2 (by omega)
    rw [hr] at this; omega
   ·have c3 := of_decide_eq_false c3
    refine Ok.ret fun i hi => ?_
    simp only [List.length_append, List.length_singleton] at hi
    by_cases e : i = pre.length
    ·subst e
     exact ⟨by rw [hr]; omega, fun _ => by rw [hr]; omega⟩
    ·exact hs i (by omega)
  ·have c := of_decide_eq_false c
   have c2 := of_decide_eq_false c2
   refine Ok.ret fun i hi => ?_
   simp only [List.length_append, List.length_singleton] at hi
   have e : i = pre.length := by omega
   subst e
   exact ⟨by rw [hr]; omega, fun h => by omega⟩
 ·rcases ho with ⟨rfl, h⟩ | ⟨rfl, h⟩
  ·refine Ok.grp (Ok.grp (Ok.grp (Ok.ret ?_)))
   rw [Bool.eq_iff_iff]
   simp only [Bool.and_eq_true, decide_eq_true_eq]
   constructor
   ·rintro ⟨⟨⟨h1, h2⟩, h3⟩, h4⟩
    exact ⟨h, fun e => by simp [e] at h1, List.length_eq_zero_iff.1 (by omega), h3, h4⟩
   ·rintro ⟨_, h1, h2, h3, h4⟩
    have := List.length_pos_iff.2 h1
    exact ⟨⟨⟨by omega, by simp [h2]⟩, h3⟩, h4⟩
  ·refine Ok.ret ?_
   show false = _
   rw [eq_comm, decide_eq_false_iff_not]
   exact fun h' => h h'.1
theorem contains_go {α : Type} {body : Int → α → Unit → Option (Fl Unit Int)} (p : α → Prop) [DecidablePred p] : ∀ (xs : List α) (k : Int),0 ≤ k → (∀ k x, x ∈ xs → body k x () = some (if p x then .ex k else .nx ())) →
  ∃ o, forL body xs k () = some o ∧ ((∃ x ∈ xs, p x) → ∃ r, o = .ex r ∧ 0 ≤ r) ∧ ((∀ x ∈ xs, ¬ p x) → o = .nx ())
 | [], k, hk, h => ⟨.nx (), rfl, fun ⟨x, hx, _⟩ => by simp at hx, fun _ => rfl⟩
 | x :: r, k, hk, h => by
  simp only [forL, h k x (by simp)]
  by_cases c : p x
  ·simp only [if_pos c, Option.bind_some, Fl_ex]
   exact ⟨_, rfl, fun _ => ⟨k, rfl, hk⟩, fun hn => absurd c (hn x (by simp))⟩
  ·simp only [if_neg c, Option.bind_some, Fl_nx]
   obtain ⟨o, h1, h2, h3⟩ := contains_go p r (k + 1) (by omega) fun k y hy => h k y (by simp [hy])
   refine ⟨o, h1, fun ⟨y, hy, hp⟩ => ?_, fun hn => h3 fun y hy => hn y (by simp [hy])⟩
   rcases List.mem_cons.1 hy with rfl | hy
   ·exact absurd hp c
   ·exact h2 ⟨y, hy, hp⟩
open Classical in
theorem contains_b {α : Type} {body : Int → α → Unit → Option (Fl Unit Int)} (p : α → Prop) (xs : List α) [Decidable (∃ x ∈ xs, p x)] (h : ∀ k x, x ∈ xs → body k x () = some (if p x then .ex k else .nx ())) :
  (((forL body xs 0 ()).bind fun o => o.elim (fun _ => some (-1)) fun r => some r).bind fun y => some (decide (0 ≤ y))) = some (decide (∃ x ∈ xs, p x)) := by
 obtain ⟨o, h1, h2, h3⟩ := contains_go p xs 0 (Int.le_refl 0) h
 rw [h1]
 by_cases c : ∃ x ∈ xs, p x
 ·obtain ⟨r, rfl, hr⟩ := h2 c
  simp only [Option.bind_some, Fl_ex, decide_eq_true hr, decide_eq_true c]
 ·have := h3 fun x hx hp => c ⟨x, hx, hp⟩
  subst this
  simp only [Option.bind_some, Fl_nx, decide_eq_false c]
  rfl
open Classical in
theorem several_ok (x : GNode) : F_13 x = some (decide (2 ≤ x.Kids.length ∧ x.Ranges = [] ∧ x.Min = 0 ∧ x.Max = 0 ∧ ∀ k ∈ x.Kids, k.Op ≠ x.Op)) := by
 have hc : F_1r x.Kids x = some (decide (∃ k ∈ x.Kids, k.Op = x.Op)) :=
  contains_b (body := F_1q x) (fun k : GNode => k.Op = x.Op) x.Kids fun k y _ => by
   by_cases c : y.Op = x.Op <;> simp [F_1q, F_v, c]
 refine Ok.eq ?_
 unfold F_13
 refine Ok.grp (Ok.grp (Ok.grp (Ok.jn (P := fun b => b = decide (2 ≤ x.Kids.length ∧ x.Ranges = [] ∧ x.Min = 0 ∧ x.Max = 0 ∧ ∀ k ∈ x.Kids, k.Op ≠ x.Op)) ?_ fun y hy => Ok.ret hy)))
 refine Ok.ite (fun c => ?_) fun c => Ok.ret ?_
 ·rw [hc]
  refine Ok.ret ?_
  simp only [Bool.and_eq_true, decide_eq_true_eq] at c
  rw [Bool.eq_iff_iff]
  simp only [Bool.not_eq_true', decide_eq_false_iff_not, decide_eq_true_eq]
  constructor
  ·intro h
   exact ⟨by omega, List.length_eq_zero_iff.1 (by omega), c.1.2, c.2, fun k hk e => h ⟨k, hk, e⟩⟩
  ·rintro ⟨_, _, _, _, h⟩ ⟨k, hk, e⟩
   exact h k hk e
 ·rw [eq_comm, decide_eq_false_iff_not]
  rintro ⟨h1, h2, h3, h4, _⟩
  simp [h2, h3, h4] at c
  omega
open Classical in
theorem repeat_ok (x : GNode) : F_14 x = some (decide (x.Kids.length = 1 ∧ x.Ranges = [] ∧ 0 ≤ x.Min ∧ 1 ≤ x.Max ∧ x.Min ≤ x.Max ∧ x.Max ≤ 64 ∧ ¬ (x.Min = 1 ∧ x.Max = 1))) := by
 refine Ok.eq ?_
 unfold F_14
 refine Ok.grp (Ok.grp (Ok.jn (P := fun b => b = decide (((x.Kids.length : Int) = 1 ∧ (x.Ranges.length : Int) = 0) ∧ 0 ≤ x.Min ∧ max x.Min 1 ≤ x.Max)) ?_ fun y hy => Ok.grp (Ok.grp (Ok.ret ?_))))
 ·refine Ok.ite (fun c => Ok.ret ?_) fun c => Ok.ret ?_
  ·simp only [Bool.and_eq_true, decide_eq_true_eq] at c
   rw [decide_eq_decide]
   exact ⟨fun h => ⟨c.1, c.2, h⟩, fun h => h.2.2⟩
  ·rw [eq_comm, decide_eq_false_iff_not]
   intro h
   simp [h.1.1, h.1.2, h.2.1] at c
 ·subst hy
  rw [Bool.eq_iff_iff]
  simp only [Bool.and_eq_true, decide_eq_true_eq, Bool.or_eq_true, Bool.not_eq_true', decide_eq_false_iff_not]
  constructor
  ·rintro ⟨⟨⟨⟨h1, h2⟩, h3, h4⟩, h5⟩, h6⟩
   exact ⟨by omega, List.length_eq_zero_iff.1 (by omega), h3, by omega, by omega, h5, by omega⟩
  ·rintro ⟨h1, h2, h3, h4, h5, h6, h7⟩
   exact ⟨⟨⟨⟨by omega, by simp [h2]⟩, h3, by omega⟩, h6⟩, by omega⟩
open Classical in
theorem right_ok : ∀ (x : GNode) (m : Nat),4 * x.hgt ≤ m → Ok (FR_a m x) (· = decide (Rgt x)) := by
 refine GNode.ind fun x ih m hm => ?_
 have hp := hgt_pos x
 obtain ⟨m, rfl⟩ : ∃ n, m = n + 4 := ⟨m - 4, by omega⟩
 have hc : FR_k (m + 3) x.Kids = some (decide (∃ k ∈ x.Kids, ¬ Rgt k)) := by
  simp only [FR_k, FR_o]
  refine contains_b (fun k => ¬ Rgt k) x.Kids fun k y hy => ?_
  have := (ih y hy m (by have := kid_hgt hy; omega)).eq
  simp only [FR_i, this, Option.bind_some]
  by_cases c : Rgt y <;> simp [c]
 simp only [FR_a]
 refine Ok.jn (P := fun b => b = decide (okN x)) ?_ fun y hy => ?_
 ·refine Ok.ite (fun c => ?_) fun c => ?_
  ·have c := of_decide_eq_true c
   rw [set_ok]
   refine Ok.ret (decide_eq_decide.2 ?_)
   unfold okN
   constructor
   ·exact fun h => .inl ⟨c, h⟩
   ·rintro (h | ⟨h, _⟩ | ⟨h, _⟩)
    ·exact h.2
    ·omega
    ·omega
  ·have c := of_decide_eq_false c
   refine Ok.jn (P := fun b => b = decide (x.Op = 2 ∨ x.Op = 3)) ?_ fun y hy => ?_
   ·refine Ok.ite (fun c2 => Ok.ret ?_) fun c2 => Ok.ret ?_
    ·have c2 := of_decide_eq_true c2
     simp [c2]
    ·have c2 := of_decide_eq_false c2
     simp [c2]
   ·subst hy
    refine Ok.ite (fun c2 => ?_) fun c2 => Ok.ite (fun c3 => ?_) fun c3 => Ok.ret ?_
    ·have c2 := of_decide_eq_true c2
     rw [several_ok]
     refine Ok.ret (decide_eq_decide.2 ?_)
     unfold okN
     constructor
     ·exact fun h => .inr (.inl ⟨c2, h⟩)
     ·rintro (h | h | ⟨h, _⟩)
      ·exact absurd h.1 c
      ·exact h.2
      ·omega
    ·have c2 := of_decide_eq_false c2
     have c3 := of_decide_eq_true c3
     rw [repeat_ok]
     refine Ok.ret (decide_eq_decide.2 ?_)
     unfold okN
     constructor
     ·exact fun h => .inr (.inr ⟨c3, h⟩)
     ·rintro (h | h | h)
      ·exact absurd h.1 c
      ·exact absurd h.1 c2
      ·exact h.2
    ·have c2 := of_decide_eq_false c2
     have c3 := of_decide_eq_false c3
     rw [eq_comm, decide_eq_false_iff_not]
     rintro (h | h | h)
     ·exact c h.1
     ·exact c2 h.1
     ·exact c3 h.1
 ·subst hy
  refine Ok.jn (P := fun b => b = decide (Rgt x)) ?_ fun y hy => Ok.ret hy
  refine Ok.ite (fun c => ?_) fun c => Ok.ret ?_
  ·have c := of_decide_eq_true c
   rw [hc]
   refine Ok.ret ?_
   rw [Bool.eq_iff_iff]
   simp only [Bool.not_eq_true', decide_eq_false_iff_not, decide_eq_true_eq]
   constructor
   ·exact fun h => .mk x c fun k hk => Classical.byContradiction fun hn => h ⟨k, hk, hn⟩
   ·rintro h ⟨k, hk, hn⟩
    exact hn (h.kid hk)
  ·have c := of_decide_eq_false c
   rw [eq_comm, decide_eq_false_iff_not]
   exact fun h => c h.ok
open Classical in
theorem right_eq (x : GNode) : F_a x = some (decide (Rgt x)) := lim_of ⟨4 * x.hgt, fun m hm => (right_ok x m hm).eq⟩
end Go.Ab
namespace Go.Ab
open Go.Proofs
def sumI : List Int → Int
 | [] => 0
 | a :: r => a + sumI r
def maxI : List Int → Int
 | [] => 0
 | a :: r => max a (maxI r)
def minI : Int → List Int → Int
 | m, [] => m
 | m, a :: r => minI (min m a) r
mutual
def GNode.lon : GNode → Int
 | ⟨o, _, k, _, ma⟩ => min (if o = 1 then 1 else if o = 2 then sumI (GNode.lons k) else if o = 3 then maxI (GNode.lons k) else ma * (GNode.lons k).headD 0) 1025
def GNode.lons : List GNode → List Int
 | [] => []
 | a :: r => GNode.lon a :: GNode.lons r
end
theorem lons_map : ∀ l : List GNode, GNode.lons l = l.map GNode.lon
 | [] => by simp [GNode.lons]
 | a :: r => by simp only [GNode.lons, List.map_cons, lons_map r]
theorem lon_eq (x : GNode) : x.lon = min (if x.Op = 1 then 1 else if x.Op = 2 then sumI (x.Kids.map GNode.lon) else if x.Op = 3 then maxI (x.Kids.map GNode.lon) else x.Max * (x.Kids.map GNode.lon).headD 0) 1025 := by
 cases x; simp only [GNode.lon, lons_map]
theorem sumI_append : ∀ a b : List Int, sumI (a ++ b) = sumI a + sumI b
 | [], b => by simp [sumI]
 | x :: r, b => by simp only [List.cons_append, sumI, sumI_append r b]; omega
theorem maxI_append : ∀ a b : List Int, (∀ y ∈ a, 0 ≤ y) → (∀ y ∈ b, 0 ≤ y) → maxI (a ++ b) = max (maxI a) (maxI b)
 | [], b, _, hb => by
  have : ∀ l : List Int, (∀ y ∈ l, 0 ≤ y) → 0 ≤ maxI l := by
   intro l; induction l with
   | nil => intro _; simp [maxI]
   | cons a r ih => intro h; have := ih fun y hy => h y (by simp [hy]); simp only [maxI]; omega
  have := this b hb
  simp only [List.nil_append, maxI]; omega
 | x :: r, b, ha, hb => by
  have := maxI_append r b (fun y hy => ha y (by simp [hy])) hb
  simp only [List.cons_append, maxI, this]; omega
theorem sum_rng {f : GNode → Int} {c : Int} : ∀ {l : List GNode}, (∀ k ∈ l, 0 ≤ f k ∧ f k ≤ c) → 0 ≤ sumI (l.map f) ∧ sumI (l.map f) ≤ c * l.length ∧ ∀ k ∈ l, f k ≤ sumI (l.map f)
 | [], _ => by simp [sumI]
 | a :: r, h => by
  have h1 := h a (by simp)
  obtain ⟨h2, h3, h4⟩ := sum_rng (l := r) fun k hk => h k (by simp [hk])
  simp only [List.map_cons, sumI, List.length_cons, Int.natCast_add, Int.natCast_one, Int.mul_add, Int.mul_one]
  refine ⟨by omega, by omega, fun k hk => ?_⟩
  rcases List.mem_cons.1 hk with rfl | hk
  ·omega
  ·have := h4 k hk; omega
theorem max_rng {f : GNode → Int} {c : Int} (hc : 0 ≤ c) : ∀ {l : List GNode}, (∀ k ∈ l, 0 ≤ f k ∧ f k ≤ c) → 0 ≤ maxI (l.map f) ∧ maxI (l.map f) ≤ c ∧ ∀ k ∈ l, f k ≤ maxI (l.map f)
 | [], _ => by simp [maxI]; exact hc
 | a :: r, h => by
  have h1 := h a (by simp)
  obtain ⟨h2, h3, h4⟩ := max_rng hc (l := r) fun k hk => h k (by simp [hk])
  simp only [List.map_cons, maxI]
  refine ⟨by omega, by omega, fun k hk => ?_⟩
  rcases List.mem_cons.1 hk with rfl | hk
  ·omega
  ·have := h4 k hk; omega
theorem one_kid {x : GNode} (h : x.Kids.length = 1) : ∃ k, x.Kids = [k] := by
 match hk : x.Kids, h with
 | [k], _ => exact ⟨k, rfl⟩
theorem Rgt.kinds {x : GNode} (h : Rgt x) : (x.Op = 1 ∧ rngP x.Ranges ∧ x.Ranges ≠ []) ∨ (x.Op = 2 ∧ 2 ≤ x.Kids.length) ∨ (x.Op = 3 ∧ 2 ≤ x.Kids.length) ∨ (x.Op = 4 ∧ (∃ k, x.Kids = [k]) ∧ 0 ≤ x.Min ∧ 1 ≤ x.Max ∧ x.Min ≤ x.Max ∧ x.Max ≤ 64) := by
 rcases h.ok with h | ⟨h1 | h1, h2⟩ | h
 ·exact .inl ⟨h.1, h.2.1, h.2.2.1⟩
 ·exact .inr (.inl ⟨h1, h2.1⟩)
 ·exact .inr (.inr (.inl ⟨h1, h2.1⟩))
 ·exact .inr (.inr (.inr ⟨h.1, one_kid h.2.1, h.2.2.2.1, h.2.2.2.2.1, h.2.2.2.2.2.1, h.2.2.2.2.2.2.1⟩))
theorem lon_rng : ∀ x : GNode, Rgt x → 1 ≤ x.lon ∧ x.lon ≤ 1025 ∧ (x.lon ≤ 1024 → ∀ k ∈ x.Kids, k.lon ≤ x.lon) := by
 refine GNode.ind fun x ih hx => ?_
 have hk : ∀ k ∈ x.Kids, 0 ≤ k.lon ∧ k.lon ≤ 1025 := fun k hk => by have := ih k hk (hx.kid hk); omega
 have hlo : ∀ k ∈ x.Kids, 1 ≤ k.lon := fun k hk => (ih k hk (hx.kid hk)).1
 rw [lon_eq]
 rcases hx.kinds with ⟨h, _⟩ | ⟨h, h2⟩ | ⟨h, h2⟩ | ⟨h, ⟨k, h2⟩, h3, h4, h5, h6⟩
 ·rw [if_pos h]
  refine ⟨by omega, by omega, fun _ k hk => ?_⟩
  rcases hx.ok with h' | ⟨h1 | h1, h2⟩ | h'
  ·rw [h'.2.2.2.1] at hk; cases hk
  ·omega
  ·omega
  ·omega
 ·rw [if_neg (by omega), if_pos h]
  obtain ⟨s1, s2, s3⟩ := sum_rng hk
  obtain ⟨k, hkm⟩ := List.exists_mem_of_length_pos (l := x.Kids) (by omega)
  have := s3 k hkm; have := hlo k hkm
  exact ⟨by omega, by omega, fun _ k hk => by have := s3 k hk; omega⟩
 ·rw [if_neg (by omega), if_neg (by omega), if_pos h]
  obtain ⟨s1, s2, s3⟩ := max_rng (by omega) hk
  obtain ⟨k, hkm⟩ := List.exists_mem_of_length_pos (l := x.Kids) (by omega)
  have := s3 k hkm; have := hlo k hkm
  exact ⟨by omega, by omega, fun _ k hk => by have := s3 k hk; omega⟩
 ·rw [if_neg (by omega), if_neg (by omega), if_neg (by omega), h2]
  have h7 := hlo k (by rw [h2]; simp)
  have : 1 * k.lon ≤ x.Max * k.lon := Int.mul_le_mul_of_nonneg_right h4 (by omega)
  simp only [List.map_cons, List.map_nil, List.headD_cons]
  exact ⟨by omega, by omega, fun _ k' hk' => by simp at hk'; subst hk'; omega⟩
theorem longest_ok : ∀ (x : GNode) (m : Nat), x.hgt ≤ m → Rgt x → x.cnt ≤ 1000 → Ok (FR_2 m x) (· = x.lon) := by
 refine GNode.ind fun x ih m hm hx hc => ?_
 cases m with
 | zero => have := hgt_pos x; omega
 | succ m =>
  have hrec : ∀ k ∈ x.Kids, Ok (FR_2 m k) (· = k.lon) := fun k hk => ih k hk m (by have := kid_hgt hk; omega) (hx.kid hk) (by have := kid_cnt hk; omega)
  have hkr : ∀ k ∈ x.Kids, 0 ≤ k.lon ∧ k.lon ≤ 1025 := fun k hk => by have := lon_rng k (hx.kid hk); omega
  have hlen := kids_cnt x
  simp only [FR_2]
  refine Ok.jn (P := fun o => min o 1025 = x.lon) ?_ fun o ho => Ok.ret ho
  rw [lon_eq]
  refine Ok.ite (fun c => Ok.ret (by rw [if_pos (of_decide_eq_true c)])) fun c => ?_
  have c := of_decide_eq_false c
  rw [if_neg c]
  refine Ok.ite (fun c2 => ?_) fun c2 => ?_
  ·rw [if_pos (of_decide_eq_true c2)]
   refine Ok.bind (Ok.foldI (all := x.Kids) (Q := fun o => o = sumI (x.Kids.map GNode.lon)) (fun pre s => s = sumI (pre.map GNode.lon)) x.Kids [] 0 0 rfl rfl rfl (fun pre k r s hw hs => ?_) fun s hs => hs) fun o ho => Ok.ret (by rw [ho])
   have hk := mem_at hw
   have hl := len_at hw
   have hpr := sum_rng (f := GNode.lon) (c := 1025) (l := pre) fun k hk => hkr k (by rw [hw]; simp [hk])
   have := hkr k hk
   refine Ok.bind (hrec k hk) fun y hy => ?_
   subst hy
   refine Ok.chk (in64_s (by omega) (by omega)) (Ok.ret ?_)
   rw [hs, List.map_append, sumI_append]; simp [sumI]
  ·have c2 := of_decide_eq_false c2
   rw [if_neg c2]
   refine Ok.ite (fun c3 => ?_) fun c3 => ?_
   ·rw [if_pos (of_decide_eq_true c3)]
    refine Ok.bind (Ok.foldI (all := x.Kids) (Q := fun o => o = maxI (x.Kids.map GNode.lon)) (fun pre s => s = maxI (pre.map GNode.lon)) x.Kids [] 0 0 rfl rfl rfl (fun pre k r s hw hs => ?_) fun s hs => hs) fun o ho => Ok.ret (by rw [ho])
    have hk := mem_at hw
    refine Ok.bind (hrec k hk) fun y hy => ?_
    subst hy
    refine Ok.ret ?_
    have := hkr k hk
    rw [hs, List.map_append, maxI_append _ _ (fun y hy => by obtain ⟨z, hz, rfl⟩ := List.mem_map.1 hy; exact (hkr z (by rw [hw]; simp [hz])).1) (fun y hy => by simp at hy; subst hy; omega)]
    simp only [List.map_cons, List.map_nil, maxI]; omega
   ·have c3 := of_decide_eq_false c3
    rw [if_neg c3]
    rcases hx.kinds with ⟨h, _⟩ | ⟨h, h2⟩ | ⟨h, h2⟩ | ⟨h, ⟨k, h2⟩, h3, h4, h5, h6⟩
    ·exact absurd h c
    ·exact absurd h c2
    ·exact absurd h c3
    ·have hk : k ∈ x.Kids := by rw [h2]; simp
     have := hkr k hk
     have e : x.Kids.getD 0 default = k := by rw [h2]; rfl
     have hm1 : 0 ≤ x.Max * k.lon := Int.mul_nonneg (by omega) (by omega)
     have hm2 : x.Max * k.lon ≤ 64 * 1025 := Int.mul_le_mul h6 (by omega) (by omega) (by omega)
     rw [e]
     refine Ok.chk (inb_iff.2 ⟨by omega, by rw [h2]; simp⟩) (Ok.bind (hrec k hk) fun y hy => ?_)
     subst hy
     refine Ok.chk (in64_s (by omega) (by omega)) (Ok.ret ?_)
     rw [h2]; rfl
theorem longest_eq {x : GNode} (hx : Rgt x) (hc : x.cnt ≤ 1000) : F_2 x = some x.lon := lim_of ⟨x.hgt, fun m hm => (longest_ok x m hm hx hc).eq⟩
structure PV (x : GNode) : Prop where
 cnt : x.cnt ≤ 200
 hgt : x.hgt ≤ 20
 rgt : Rgt x
 lon : x.lon ≤ 1024
open Classical in
noncomputable def GNode.err (x : GNode) : Int := if 200 < x.cnt then 3 else if 20 < x.hgt then 9 else if ¬ Rgt x then 1 else if 1024 < x.lon then 3 else 0
open Classical in
theorem valid_eq (x : GNode) : F_l x = some x.err := by
 refine Ok.eq ?_
 unfold F_l GNode.err
 rw [nodes_eq]
 refine Ok.bind (P := fun y => y = min x.cnt 201) ⟨_, rfl, rfl⟩ fun y hy => ?_
 subst hy
 refine Ok.ite (fun c => Ok.ret (by rw [if_pos (by have := of_decide_eq_true c; omega)])) fun c => ?_
 have c := of_decide_eq_false c
 rw [if_neg (by omega), depth_eq]
 refine Ok.bind (P := fun y => y = min (x.hgt : Int) 21) ⟨_, rfl, rfl⟩ fun y hy => ?_
 subst hy
 refine Ok.ite (fun c => Ok.ret (by rw [if_pos (by have := of_decide_eq_true c; omega)])) fun c => ?_
 have c := of_decide_eq_false c
 rw [if_neg (by omega), right_eq]
 refine Ok.bind (P := fun y => y = decide (Rgt x)) ⟨_, rfl, rfl⟩ fun y hy => ?_
 subst hy
 refine Ok.ite (fun c => Ok.ret (by rw [if_pos (by simpa using c)])) fun c => ?_
 have c : Rgt x := by simpa using c
 rw [if_neg (fun h => h c), longest_eq c (by omega)]
 refine Ok.bind (P := fun y => y = x.lon) ⟨_, rfl, rfl⟩ fun y hy => ?_
 subst hy
 refine Ok.ite (fun c => Ok.ret (by rw [if_pos (of_decide_eq_true c)])) fun c => Ok.ret (by rw [if_neg (of_decide_eq_false c)])
theorem err_zero {x : GNode} : x.err = 0 ↔ PV x := by
 classical
 unfold GNode.err
 constructor
 ·intro h
  split at h
  ·omega
  ·split at h
   ·omega
   ·split at h
    ·omega
    ·split at h
     ·omega
     ·rename_i h1 h2 h3 h4
      exact ⟨by omega, by omega, Classical.byContradiction h3, by omega⟩
 ·rintro ⟨h1, h2, h3, h4⟩
  rw [if_neg (by omega), if_neg (by omega), if_neg (fun h => h h3), if_neg (by omega)]
theorem PV.kid {x k : GNode} (h : PV x) (hk : k ∈ x.Kids) : PV k :=
 ⟨by have := kid_cnt hk; have := h.cnt; omega, by have := kid_hgt hk; have := h.hgt; omega, h.rgt.kid hk, by have := (lon_rng x h.rgt).2.2 h.lon k hk; have := h.lon; omega⟩
mutual
def GNode.sho : GNode → Int
 | ⟨o, _, k, mi, _⟩ => if o = 1 then 1 else if o = 2 then sumI (GNode.shos k) else if o = 3 then minI ((GNode.shos k).headD 0) (GNode.shos k) else mi * (GNode.shos k).headD 0
def GNode.shos : List GNode → List Int
 | [] => []
 | a :: r => GNode.sho a :: GNode.shos r
end
theorem shos_map : ∀ l : List GNode, GNode.shos l = l.map GNode.sho
 | [] => by simp [GNode.shos]
 | a :: r => by simp only [GNode.shos, List.map_cons, shos_map r]
theorem sho_eq (x : GNode) : x.sho = if x.Op = 1 then 1 else if x.Op = 2 then sumI (x.Kids.map GNode.sho) else if x.Op = 3 then minI ((x.Kids.map GNode.sho).headD 0) (x.Kids.map GNode.sho) else x.Min * (x.Kids.map GNode.sho).headD 0 := by
 cases x; simp only [GNode.sho, shos_map]
theorem minI_le : ∀ (l : List Int) (m : Int), minI m l ≤ m ∧ (∀ y ∈ l, minI m l ≤ y) ∧ ∀ c, c ≤ m → (∀ y ∈ l, c ≤ y) → c ≤ minI m l
 | [], m => ⟨Int.le_refl m, by simp, fun c h _ => h⟩
 | a :: r, m => by
  obtain ⟨h1, h2, h3⟩ := minI_le r (min m a)
  simp only [minI]
  refine ⟨by omega, fun y hy => ?_, fun c hc hy => h3 c (by have := hy a (by simp); omega) fun y h => hy y (by simp [h])⟩
  rcases List.mem_cons.1 hy with rfl | hy
  ·omega
  ·exact h2 y hy
theorem minI_append : ∀ (a b : List Int) (m : Int), minI m (a ++ b) = minI (minI m a) b
 | [], b, m => rfl
 | x :: r, b, m => by simp only [List.cons_append, minI, minI_append r b]
theorem sum_le {f g : GNode → Int} : ∀ {l : List GNode}, (∀ k ∈ l, f k ≤ g k) → sumI (l.map f) ≤ sumI (l.map g)
 | [], _ => by simp [sumI]
 | a :: r, h => by
  have h1 := h a (by simp)
  have h2 := sum_le (l := r) fun k hk => h k (by simp [hk])
  simp only [List.map_cons, sumI]; omega
theorem sho_rng : ∀ x : GNode, PV x → 0 ≤ x.sho ∧ x.sho ≤ x.lon := by
 refine GNode.ind fun x ih hx => ?_
 have hk := fun k hk => ih k hk (hx.kid hk)
 have hl := hx.lon
 have hle := lon_eq x
 rw [sho_eq]
 rcases hx.rgt.kinds with ⟨h, _⟩ | ⟨h, h2⟩ | ⟨h, h2⟩ | ⟨h, ⟨k, h2⟩, h3, h4, h5, h6⟩
 ·rw [if_pos h]; rw [if_pos h] at hle; omega
 ·rw [if_neg (by omega), if_pos h]
  rw [if_neg (by omega), if_pos h] at hle
  have := sum_le (f := GNode.sho) (g := GNode.lon) (l := x.Kids) fun k hk' => (hk k hk').2
  have : 0 ≤ sumI (x.Kids.map GNode.sho) := by
   have : ∀ l : List GNode, (∀ k ∈ l, 0 ≤ k.sho) → 0 ≤ sumI (l.map GNode.sho) := by
    intro l; induction l with
    | nil => intro _; simp [sumI]
    | cons a r ih => intro h; have := ih fun y hy => h y (by simp [hy]); have := h a (by simp); simp only [List.map_cons, sumI]; omega
   exact this _ fun k hk' => (hk k hk').1
  omega
 ·rw [if_neg (by omega), if_neg (by omega), if_pos h]
  rw [if_neg (by omega), if_neg (by omega), if_pos h] at hle
  obtain ⟨q, hq⟩ : ∃ q, x.Kids = q :: x.Kids.tail := by
   cases hkk : x.Kids with
   | nil => rw [hkk] at h2; simp at h2
   | cons q r => exact ⟨q, rfl⟩
  have hqm : q ∈ x.Kids := by rw [hq]; simp
  have e : (x.Kids.map GNode.sho).headD 0 = q.sho := by rw [hq]; rfl
  rw [e]
  obtain ⟨m1, m2, m3⟩ := minI_le (x.Kids.map GNode.sho) q.sho
  have h8 := hk q hqm
  have h9 := (lon_rng x hx.rgt).2.2 hl q hqm
  refine ⟨m3 0 h8.1 fun y hy => ?_, by omega⟩
  obtain ⟨z, hz, rfl⟩ := List.mem_map.1 hy
  exact (hk z hz).1
 ·rw [if_neg (by omega), if_neg (by omega), if_neg (by omega), h2]
  rw [if_neg (by omega), if_neg (by omega), if_neg (by omega), h2] at hle
  have h7 := hk k (by rw [h2]; simp)
  have h8 := lon_rng k (hx.rgt.kid (k := k) (by rw [h2]; simp))
  simp only [List.map_cons, List.map_nil, List.headD_cons] at hle ⊢
  have m1 : 0 ≤ x.Min * k.sho := Int.mul_nonneg h3 h7.1
  have m2 : x.Min * k.sho ≤ x.Max * k.lon := Int.mul_le_mul h5 h7.2 h7.1 (by omega)
  omega
end Go.Ab
namespace Go.Ab
open Go.Proofs
def Jmp := Nat → Nat → Prop
def seqR : List Jmp → Jmp
 | [] => fun i j => i = j
 | R :: r => fun i j => ∃ m, R i m ∧ seqR r m j
def powR (R : Jmp) : Nat → Jmp
 | 0 => fun i j => i = j
 | n + 1 => fun i j => ∃ m, powR R n i m ∧ R m j
def inRs (l : List GRange) (c : UInt8) : Prop := ∃ r ∈ l, r.Low.toNat ≤ c.toNat ∧ c.toNat ≤ r.High.toNat
mutual
def GNode.stp (b : List UInt8) : GNode → Jmp
 | ⟨o, rs, k, mi, ma⟩ => if o = 1 then fun i j => ∃ c, b[i]? = some c ∧ inRs rs c ∧ j = i + 1 else if o = 2 then seqR (GNode.stps b k) else if o = 3 then fun i j => ∃ R ∈ GNode.stps b k, R i j else fun i j => ∃ n : Nat, mi ≤ n ∧ (n : Int) ≤ ma ∧ powR ((GNode.stps b k).headD fun _ _ => False) n i j
def GNode.stps (b : List UInt8) : List GNode → List Jmp
 | [] => []
 | a :: r => GNode.stp b a :: GNode.stps b r
end
theorem stps_map (b : List UInt8) : ∀ l : List GNode, GNode.stps b l = l.map (GNode.stp b)
 | [] => by simp [GNode.stps]
 | a :: r => by simp only [GNode.stps, List.map_cons, stps_map b r]
theorem stp_set {b : List UInt8} {x : GNode} (h : x.Op = 1) {i j : Nat} : x.stp b i j ↔ ∃ c, b[i]? = some c ∧ inRs x.Ranges c ∧ j = i + 1 := by
 cases x; simp only at h; subst h; simp only [GNode.stp]; rfl
theorem stp_seq {b : List UInt8} {x : GNode} (h : x.Op = 2) {i j : Nat} : x.stp b i j ↔ seqR (x.Kids.map (GNode.stp b)) i j := by
 cases x; simp only at h; subst h; simp only [GNode.stp, stps_map]; rfl
theorem stp_alt {b : List UInt8} {x : GNode} (h : x.Op = 3) {i j : Nat} : x.stp b i j ↔ ∃ k ∈ x.Kids, k.stp b i j := by
 cases x; simp only at h; subst h; simp only [GNode.stp, stps_map]
 show (∃ R : Jmp, R ∈ List.map (GNode.stp b) _ ∧ R i j) ↔ _
 constructor
 ·rintro ⟨R, hR, h⟩
  obtain ⟨k, hk, rfl⟩ := List.mem_map.1 hR
  exact ⟨k, hk, h⟩
 ·rintro ⟨k, hk, h⟩
  exact ⟨_, List.mem_map_of_mem hk, h⟩
theorem stp_rep {b : List UInt8} {x k : GNode} (h : x.Op = 4) (hk : x.Kids = [k]) {i j : Nat} : x.stp b i j ↔ ∃ n : Nat, x.Min ≤ n ∧ (n : Int) ≤ x.Max ∧ powR (k.stp b) n i j := by
 cases x; simp only at h hk; subst h hk; simp only [GNode.stp, stps_map]; rfl
theorem seqR_append : ∀ (a : List Jmp) (b : List Jmp) (i j : Nat), seqR (a ++ b) i j ↔ ∃ m, seqR a i m ∧ seqR b m j
 | [], b, i, j => by simp only [List.nil_append, seqR]; exact ⟨fun h => ⟨i, rfl, h⟩, fun ⟨m, e, h⟩ => e ▸ h⟩
 | R :: r, b, i, j => by
  simp only [List.cons_append, seqR, seqR_append r b]
  exact ⟨fun ⟨m, h1, q, h2, h3⟩ => ⟨q, ⟨m, h1, h2⟩, h3⟩, fun ⟨q, ⟨m, h1, h2⟩, h3⟩ => ⟨m, h1, q, h2, h3⟩⟩
theorem seqR_snoc (a : List Jmp) (R : Jmp) (i j : Nat) : seqR (a ++ [R]) i j ↔ ∃ m, seqR a i m ∧ R m j := by
 rw [seqR_append]; simp only [seqR]
 exact ⟨fun ⟨m, h1, q, h2, e⟩ => ⟨m, h1, e ▸ h2⟩, fun ⟨m, h1, h2⟩ => ⟨m, h1, j, h2, rfl⟩⟩
theorem seq_rng {b : List UInt8} : ∀ {l : List GNode}, (∀ k ∈ l, ∀ i j, k.stp b i j → k.sho ≤ (j : Int) - i ∧ (j : Int) - i ≤ k.lon) → ∀ i j, seqR (l.map (GNode.stp b)) i j → sumI (l.map GNode.sho) ≤ (j : Int) - i ∧ (j : Int) - i ≤ sumI (l.map GNode.lon)
 | [], _, i, j, h => by cases h; simp [sumI]
 | a :: r, hl, i, j, h => by
  obtain ⟨m, h1, h2⟩ := h
  have h1 := hl a (by simp) i m h1
  have h2 := seq_rng (fun k hk => hl k (by simp [hk])) m j h2
  simp only [List.map_cons, sumI]; omega
theorem pow_rng {R : Jmp} {a c : Int} (hR : ∀ i j, R i j → a ≤ (j : Int) - i ∧ (j : Int) - i ≤ c) : ∀ n i j, powR R n i j → n * a ≤ (j : Int) - i ∧ (j : Int) - i ≤ n * c
 | 0, i, j, h => by cases h; simp
 | n + 1, i, j, h => by
  obtain ⟨m, h1, h2⟩ := h
  have h1 := pow_rng hR n i m h1
  have h2 := hR m j h2
  have e1 : ((n + 1 : Nat) : Int) * a = n * a + a := by rw [Int.natCast_add, Int.add_mul]; simp
  have e2 : ((n + 1 : Nat) : Int) * c = n * c + c := by rw [Int.natCast_add, Int.add_mul]; simp
  omega
theorem stp_rng {b : List UInt8} : ∀ x : GNode, PV x → ∀ i j, x.stp b i j → x.sho ≤ (j : Int) - i ∧ (j : Int) - i ≤ x.lon := by
 refine GNode.ind fun x ih hx i j h => ?_
 have hl := hx.lon
 have hle := lon_eq x
 have hse := sho_eq x
 rcases hx.rgt.kinds with ⟨h1, _⟩ | ⟨h1, h2⟩ | ⟨h1, h2⟩ | ⟨h1, ⟨k, h2⟩, h3, h4, h5, h6⟩
 ·rw [if_pos h1] at hle hse
  obtain ⟨c, _, _, e⟩ := (stp_set h1).1 h
  omega
 ·rw [if_neg (by omega), if_pos h1] at hle hse
  have := seq_rng (fun k hk i j h => ih k hk (hx.kid hk) i j h) i j ((stp_seq h1).1 h)
  omega
 ·rw [if_neg (by omega), if_neg (by omega), if_pos h1] at hle hse
  obtain ⟨k, hk, h⟩ := (stp_alt h1).1 h
  have := ih k hk (hx.kid hk) i j h
  have hkl := (lon_rng x hx.rgt).2.2 hl k hk
  have := (minI_le (x.Kids.map GNode.sho) ((x.Kids.map GNode.sho).headD 0)).2.1 k.sho (List.mem_map_of_mem hk)
  omega
 ·rw [if_neg (by omega), if_neg (by omega), if_neg (by omega), h2] at hle hse
  obtain ⟨n, n1, n2, h⟩ := (stp_rep h1 h2).1 h
  have hk : k ∈ x.Kids := by rw [h2]; simp
  have h7 := pow_rng (fun i j h => ih k hk (hx.kid hk) i j h) n i j h
  have h8 := sho_rng k (hx.kid hk)
  simp only [List.map_cons, List.map_nil, List.headD_cons] at hle hse
  have m1 : x.Min * k.sho ≤ n * k.sho := Int.mul_le_mul_of_nonneg_right n1 h8.1
  have m2 : n * k.lon ≤ x.Max * k.lon := Int.mul_le_mul_of_nonneg_right n2 (by omega)
  omega
def At (l : List Bool) (j : Nat) : Prop := l.getD j default = true
theorem At_lt {l : List Bool} {j : Nat} (h : At l j) : j < l.length := by
 unfold At at h
 rw [List.getD_eq_getElem?_getD] at h
 by_cases c : j < l.length
 ·exact c
 ·rw [List.getElem?_eq_none (by omega)] at h; cases h
theorem At_repl (n j : Nat) : ¬ At (List.replicate n false) j := by
 unfold At; rw [List.getD_eq_getElem?_getD, List.getElem?_replicate]; split <;> simp <;> rfl
theorem At_set {l : List Bool} {i : Nat} {v : Bool} (hi : i < l.length) (j : Nat) : At (l.set i v) j ↔ if j = i then v = true else At l j := by
 unfold At
 rw [List.getD_eq_getElem?_getD, List.getD_eq_getElem?_getD, List.getElem?_set]
 by_cases e : i = j
 ·subst e; simp [hi]
 ·have : ¬ j = i := fun h => e h.symm
  simp [e, this]
open Classical in
theorem holds_eq (l : List GRange) (c : UInt8) : F_1m l c = some (decide (inRs l c)) := by
 unfold F_1m F_20 F_1z
 have := contains_b (body := F_1y c) (fun r : GRange => r.Low.toNat ≤ c.toNat ∧ c.toNat ≤ r.High.toNat) l fun k y _ => by
  unfold F_1y F_1x
  have e : (decide ((y.Low.toNat : Int) ≤ (c.toNat : Int)) && decide ((c.toNat : Int) ≤ (y.High.toNat : Int))) = decide (y.Low.toNat ≤ c.toNat ∧ c.toNat ≤ y.High.toNat) := by
   rw [Bool.eq_iff_iff]; simp only [Bool.and_eq_true, decide_eq_true_eq]; omega
  rw [e]
  by_cases h : y.Low.toNat ≤ c.toNat ∧ c.toNat ≤ y.High.toNat <;> simp [grp, h]
 rw [this]
 show some _ = some _
 congr 1
 exact decide_eq_decide.2 Iff.rfl
theorem join_ok {to ps : List Bool} (hl : to.length = ps.length) (hn : ps.length ≤ 100000) : Ok (F_u to ps) fun o => o.length = to.length ∧ ∀ j, At o j ↔ At to j ∨ At ps j := by
 unfold F_u
 refine Ok.bind (Ok.foldI (all := ps) (Q := fun o => o.length = to.length ∧ ∀ j, At o j ↔ At to j ∨ At ps j) (fun pre s => s.length = to.length ∧ ∀ j, At s j ↔ At to j ∨ (j < pre.length ∧ At ps j)) ps [] 0 to rfl rfl ⟨rfl, fun j => by simp⟩ (fun pre p r s hw hs => ?_) fun s hs => ⟨hs.1, fun j => by rw [hs.2]; exact or_congr_right ⟨fun h => h.2, fun h => ⟨At_lt h, h⟩⟩⟩) fun o ho => Ok.ret ho
 have hlt := len_at hw
 have hg := getD_at hw
 unfold F_1n
 simp only [Int.toNat_natCast]
 refine Ok.chk (inb_iff.2 ⟨by omega, by omega⟩) (Ok.grp (Ok.chk (inb_iff.2 ⟨by omega, by omega⟩) (Ok.ret ⟨by simp [hs.1], fun j => ?_⟩)))
 rw [At_set (by omega)]
 simp only [List.length_append, List.length_singleton]
 by_cases e : j = pre.length
 ·subst e
  rw [if_pos rfl, Bool.or_eq_true]
  have h1 := hs.2 pre.length
  have h2 : At ps pre.length ↔ p = true := by unfold At; rw [hg]
  have h3 : s.getD pre.length default = true ↔ At s pre.length := Iff.rfl
  rw [h3, h1, ← h2]
  constructor
  ·rintro ((h | h) | h)
   ·exact .inl h
   ·omega
   ·exact .inr ⟨by omega, h⟩
  ·rintro (h | h)
   ·exact .inl (.inl h)
   ·exact .inr h.2
 ·rw [if_neg e, hs.2]
  exact or_congr_right ⟨fun h => ⟨by omega, h.2⟩, fun h => ⟨by omega, h.2⟩⟩
open Classical in
theorem any_eq (l : List Bool) : F_1o l true = some (decide (∃ j, At l j)) := by
 unfold F_1o F_22
 have := contains_b (body := F_21 true) (fun x : Bool => x = true) l fun k y _ => by
  unfold F_21
  cases y <;> simp
 rw [this]
 congr 1
 rw [decide_eq_decide]
 constructor
 ·rintro ⟨x, hx, rfl⟩
  obtain ⟨i, hi⟩ := List.getElem?_of_mem hx
  exact ⟨i, by unfold At; rw [List.getD_eq_getElem?_getD, hi]; rfl⟩
 ·rintro ⟨j, h⟩
  have hl := At_lt h
  refine ⟨l[j], List.getElem_mem hl, ?_⟩
  unfold At at h
  rwa [List.getD_eq_getElem?_getD, List.getElem?_eq_getElem hl] at h
end Go.Ab
namespace Go.Ab
open Go.Proofs
theorem ends_ok {b : List UInt8} (hb : b.length ≤ 1024) : ∀ (x : GNode) (m : Nat) (fr : List Bool), x.hgt ≤ m → Rgt x → fr.length = b.length + 1 → Ok (FR_6 m x b fr) fun o => o.length = b.length + 1 ∧ ∀ j, At o j ↔ ∃ i, At fr i ∧ x.stp b i j := by
 refine GNode.ind fun x ih m fr hm hx hfr => ?_
 cases m with
 | zero => have := hgt_pos x; omega
 | succ m =>
  have hrec : ∀ k ∈ x.Kids, ∀ fr : List Bool, fr.length = b.length + 1 → Ok (FR_6 m k b fr) fun o => o.length = b.length + 1 ∧ ∀ j, At o j ↔ ∃ i, At fr i ∧ k.stp b i j := fun k hk fr h => ih k hk m fr (by have := kid_hgt hk; omega) (hx.kid hk) h
  simp only [FR_6, Int.toNat_natCast]
  refine Ok.chk (roomI_iff.2 ⟨by omega, by omega, by omega⟩) (Ok.ite (fun c => ?_) fun c => Ok.ite (fun c2 => ?_) fun c2 => Ok.ite (fun c3 => ?_) fun c3 => ?_)
  ·have c := of_decide_eq_true c
   refine Ok.bind (Ok.foldI (all := b) (Q := fun o => o.length = b.length + 1 ∧ ∀ j, At o j ↔ ∃ i, At fr i ∧ x.stp b i j) (fun pre s => s.length = b.length + 1 ∧ ∀ j, At s j ↔ ∃ i, i < pre.length ∧ At fr i ∧ x.stp b i j) b [] 0 _ rfl rfl ⟨by simp [hfr], fun j => ⟨fun h => absurd h (At_repl _ _), fun ⟨i, h, _⟩ => by simp at h⟩⟩ (fun pre a r s hw hs => ?_) fun s hs => ⟨hs.1, fun j => ?_⟩) fun o ho => Ok.ret ho
   ·have hlt := len_at hw
    have hge : b[pre.length]? = some a := by rw [hw]; simp
    refine Ok.chk (inb_iff.2 ⟨by omega, by omega⟩) ?_
    simp only [Int.toNat_natCast]
    classical
    refine Ok.jn (P := fun v => v = decide (At fr pre.length ∧ inRs x.Ranges a)) ?_ fun v hv => ?_
    ·refine Ok.ite (fun h => ?_) fun h => ?_
     ·rw [holds_eq]
      refine Ok.ret (decide_eq_decide.2 ⟨fun h2 => ⟨h, h2⟩, fun h2 => h2.2⟩)
     ·refine Ok.ret ?_
      rw [eq_comm, decide_eq_false_iff_not]
      rintro ⟨h2, _⟩
      unfold At at h2
      rw [h] at h2; cases h2
    ·have e1 : ((pre.length : Int) + 1).toNat = pre.length + 1 := by omega
     rw [e1]
     refine Ok.chk (inb_iff.2 ⟨by omega, by omega⟩) (Ok.ret ⟨by simp [hs.1], fun j => ?_⟩)
     rw [At_set (by omega), hv]
     simp only [List.length_append, List.length_singleton]
     have hst : ∀ i, x.stp b i j ↔ ∃ c, b[i]? = some c ∧ inRs x.Ranges c ∧ j = i + 1 := fun i => stp_set c
     by_cases e : j = pre.length + 1
     ·subst e
      rw [if_pos rfl, decide_eq_true_eq]
      constructor
      ·rintro ⟨h1, h2⟩
       exact ⟨pre.length, by omega, h1, (hst _).2 ⟨a, hge, h2, rfl⟩⟩
      ·rintro ⟨i, h1, h2, h3⟩
       obtain ⟨c', h4, h5, h6⟩ := (hst _).1 h3
       have : i = pre.length := by omega
       subst this
       rw [hge] at h4; cases h4
       exact ⟨h2, h5⟩
     ·rw [if_neg e, hs.2]
      constructor
      ·rintro ⟨i, h1, h2, h3⟩
       exact ⟨i, by omega, h2, h3⟩
      ·rintro ⟨i, h1, h2, h3⟩
       obtain ⟨c', h4, h5, h6⟩ := (hst _).1 h3
       exact ⟨i, by omega, h2, h3⟩
   ·rw [hs.2]
    constructor
    ·rintro ⟨i, h1, h2, h3⟩
     exact ⟨i, h2, h3⟩
    ·rintro ⟨i, h2, h3⟩
     obtain ⟨c', h4, h5, h6⟩ := (stp_set c).1 h3
     refine ⟨i, ?_, h2, h3⟩
     by_cases hlt : i < b.length
     ·exact hlt
     ·rw [List.getElem?_eq_none (by omega)] at h4; cases h4
  ·have c2 := of_decide_eq_true c2
   refine Ok.chk (eqn_iff.2 (by simp)) (Ok.bind (Ok.foldI (all := x.Kids) (Q := fun o => o.length = b.length + 1 ∧ ∀ j, At o j ↔ ∃ i, At fr i ∧ x.stp b i j) (fun pre s => s.length = b.length + 1 ∧ ∀ j, At s j ↔ ∃ i, At fr i ∧ seqR (pre.map (GNode.stp b)) i j) x.Kids [] 0 _ rfl rfl ⟨hfr, fun j => ⟨fun h => ⟨j, h, rfl⟩, fun ⟨i, h, e⟩ => e ▸ h⟩⟩ (fun pre k r s hw hs => ?_) fun s hs => ⟨hs.1, fun j => by rw [hs.2]; exact exists_congr fun i => and_congr_right fun _ => (stp_seq c2).symm⟩) fun o ho => Ok.ret ho)
   refine Ok.bind (hrec k (mem_at hw) s hs.1) fun y hy => Ok.ret ⟨hy.1, fun j => ?_⟩
   rw [hy.2, List.map_append]
   simp only [List.map_cons, List.map_nil, seqR_snoc, hs.2]
   exact ⟨fun ⟨q, ⟨i, h1, h2⟩, h3⟩ => ⟨i, h1, q, h2, h3⟩, fun ⟨i, h1, q, h2, h3⟩ => ⟨q, ⟨i, h1, h2⟩, h3⟩⟩
  ·have c3 := of_decide_eq_true c3
   refine Ok.bind (Ok.foldI (all := x.Kids) (Q := fun o => o.length = b.length + 1 ∧ ∀ j, At o j ↔ ∃ i, At fr i ∧ x.stp b i j) (fun pre s => s.length = b.length + 1 ∧ ∀ j, At s j ↔ ∃ i, At fr i ∧ ∃ k ∈ pre, k.stp b i j) x.Kids [] 0 _ rfl rfl ⟨by simp [hfr], fun j => ⟨fun h => absurd h (At_repl _ _), fun ⟨i, _, k, h, _⟩ => by simp at h⟩⟩ (fun pre k r s hw hs => ?_) fun s hs => ⟨hs.1, fun j => by rw [hs.2]; exact exists_congr fun i => and_congr_right fun _ => (stp_alt c3).symm⟩) fun o ho => Ok.ret ho
   refine Ok.bind (hrec k (mem_at hw) fr hfr) fun y hy => Ok.bind (join_ok (to := s) (ps := y) (by omega) (by omega)) fun z hz => Ok.ret ⟨by omega, fun j => ?_⟩
   rw [hz.2, hs.2, hy.2]
   constructor
   ·rintro (⟨i, h1, k', h2, h3⟩ | ⟨i, h1, h2⟩)
    ·exact ⟨i, h1, k', by simp [h2], h3⟩
    ·exact ⟨i, h1, k, by simp, h2⟩
   ·rintro ⟨i, h1, k', h2, h3⟩
    rcases List.mem_append.1 h2 with h2 | h2
    ·exact .inl ⟨i, h1, k', h2, h3⟩
    ·cases List.mem_singleton.1 h2
     exact .inr ⟨i, h1, h3⟩
  ·have c := of_decide_eq_false c
   have c2 := of_decide_eq_false c2
   have c3 := of_decide_eq_false c3
   have h4 : x.Op = 4 := by rcases hx.kinds with h | h | h | h <;> omega
   obtain ⟨k, hk, h5, h6, h7, h8⟩ : (∃ k, x.Kids = [k] ∧ 0 ≤ x.Min ∧ 1 ≤ x.Max ∧ x.Min ≤ x.Max ∧ x.Max ≤ 64) := by
    rcases hx.kinds with h | h | h | ⟨_, ⟨k, h⟩, h2⟩
    ·omega
    ·omega
    ·omega
    ·exact ⟨k, h, h2⟩
   have hkm : k ∈ x.Kids := by rw [hk]; simp
   have hg : x.Kids.getD 0 default = k := by rw [hk]; rfl
   rw [hg]
   refine Ok.jn (P := fun o => o.length = b.length + 1 ∧ ∀ j, At o j ↔ x.Min = 0 ∧ At fr j) (Ok.ite (fun h => ?_) fun h => ?_) fun o0 ho => ?_
   ·have h := of_decide_eq_true h
    refine Ok.bind (join_ok (to := List.replicate fr.length false) (ps := fr) (by simp) (by omega)) fun y hy => Ok.ret ⟨by rw [hy.1]; simp [hfr], fun j => ?_⟩
    rw [hy.2]
    exact ⟨fun h' => h'.elim (fun h => absurd h (At_repl _ _)) fun h' => ⟨h, h'⟩, fun h' => .inr h'.2⟩
   ·have h := of_decide_eq_false h
    exact Ok.ret ⟨by simp [hfr], fun j => ⟨fun h => absurd h (At_repl _ _), fun h' => absurd h'.1 h⟩⟩
   ·refine Ok.bind (Ok.loop (Q := fun o => o.length = b.length + 1 ∧ ∀ j, At o j ↔ ∃ i, At fr i ∧ x.stp b i j) (fun s : List Bool × Int × List Bool => ∃ n : Nat, s.2.1 = (n : Int) + 1 ∧ (n : Int) ≤ x.Max ∧ s.1.length = b.length + 1 ∧ s.2.2.length = b.length + 1 ∧ (∀ j, At s.1 j ↔ ∃ i, At fr i ∧ powR (k.stp b) n i j) ∧ ∀ j, At s.2.2 j ↔ ∃ i, At fr i ∧ ∃ q : Nat, x.Min ≤ (q : Int) ∧ q ≤ n ∧ powR (k.stp b) q i j) (fun s : List Bool × Int × List Bool => (x.Max + 1 - s.2.1).toNat) ?_ _ ?_) fun o ho => Ok.ret ho
    ·rintro ⟨now, at_, out⟩ ⟨n, e, hn, l1, l2, a1, a2⟩
     simp only at e hn l1 l2 a1 a2
     subst e
     refine Ok.ite (fun d => ?_) fun d => ?_
     ·have d := of_decide_eq_true d
      dsimp only at d
      rw [any_eq]
      simp only [Option.bind_some]
      refine Ok.ite (fun f => ?_) fun f => ?_
      ·refine Ok.jn (P := fun j : List Bool × List Bool => j.1.length = b.length + 1 ∧ j.2.length = b.length + 1 ∧ (∀ j', At j.1 j' ↔ ∃ i, At fr i ∧ powR (k.stp b) (n + 1) i j') ∧ ∀ j', At j.2 j' ↔ ∃ i, At fr i ∧ ∃ q : Nat, x.Min ≤ (q : Int) ∧ q ≤ n + 1 ∧ powR (k.stp b) q i j') (Ok.chk (inb_iff.2 ⟨by omega, by rw [hk]; simp⟩) (Ok.bind (hrec k hkm now l1) fun y hy => ?_)) fun j hj => ?_
       ·have hyp : ∀ j', At y j' ↔ ∃ i, At fr i ∧ powR (k.stp b) (n + 1) i j' := fun j' => by
         rw [hy.2]
         simp only [a1, powR]
         exact ⟨fun ⟨q, ⟨i, h1, h2⟩, h3⟩ => ⟨i, h1, q, h2, h3⟩, fun ⟨i, h1, q, h2, h3⟩ => ⟨q, ⟨i, h1, h2⟩, h3⟩⟩
        refine Ok.ite (fun g => ?_) fun g => ?_
        ·have g : x.Min ≤ (n : Int) + 1 := of_decide_eq_true g
         refine Ok.bind (join_ok (to := out) (ps := y) (by omega) (by omega)) fun z hz => Ok.ret ⟨hy.1, (show z.length = b.length + 1 by omega), hyp, fun j' => ?_⟩
         show At z j' ↔ _
         rw [hz.2, hyp, a2]
         constructor
         ·rintro (⟨i, h1, q, h2, h3, h4⟩ | ⟨i, h1, h2⟩)
          ·exact ⟨i, h1, q, h2, by omega, h4⟩
          ·exact ⟨i, h1, n + 1, by omega, by omega, h2⟩
         ·rintro ⟨i, h1, q, h2, h3, h4⟩
          by_cases e : q = n + 1
          ·subst e; exact .inr ⟨i, h1, h4⟩
          ·exact .inl ⟨i, h1, q, h2, by omega, h4⟩
        ·have g : ¬ x.Min ≤ (n : Int) + 1 := of_decide_eq_false g
         refine Ok.ret ⟨hy.1, l2, hyp, fun j' => ?_⟩
         show At out j' ↔ _
         rw [a2]
         constructor
         ·rintro ⟨i, h1, q, h2, h3, h4⟩
          exact ⟨i, h1, q, h2, by omega, h4⟩
         ·rintro ⟨i, h1, q, h2, h3, h4⟩
          exact ⟨i, h1, q, h2, by omega, h4⟩
       ·refine Ok.chk (in64_s (by omega) (by omega)) (Ok.ret ⟨⟨n + 1, rfl, by omega, hj⟩, ?_⟩)
        dsimp only; omega
      ·replace f : ¬ ∃ j, At now j := by simpa using f
       refine Ok.ret ⟨l2, fun j => ?_⟩
       show At out j ↔ _
       rw [a2]
       refine exists_congr fun i => and_congr_right fun hi => ?_
       rw [stp_rep h4 hk]
       have hno : ∀ q, n ≤ q → ∀ j', ¬ powR (k.stp b) q i j' := by
        intro q hq
        induction q with
        | zero =>
         intro j' h
         have : n = 0 := by omega
         subst this
         exact f ⟨j', (a1 j').2 ⟨i, hi, h⟩⟩
        | succ q ih =>
         intro j' h
         by_cases e : n = q + 1
         ·subst e; exact f ⟨j', (a1 j').2 ⟨i, hi, h⟩⟩
         ·obtain ⟨m', h1, _⟩ := h
          exact ih (by omega) m' h1
       constructor
       ·rintro ⟨q, h1, h2, h3⟩
        exact ⟨q, h1, by omega, h3⟩
       ·rintro ⟨q, h1, h2, h3⟩
        by_cases e : q ≤ n
        ·exact ⟨q, h1, e, h3⟩
        ·exact absurd h3 (hno q (by omega) j)
     ·have d := of_decide_eq_false d
      dsimp only at d
      refine Ok.ret ⟨l2, fun j => ?_⟩
      show At out j ↔ _
      rw [a2]
      refine exists_congr fun i => and_congr_right fun hi => ?_
      rw [stp_rep h4 hk]
      exact ⟨fun ⟨q, h1, h2, h3⟩ => ⟨q, h1, by omega, h3⟩, fun ⟨q, h1, h2, h3⟩ => ⟨q, h1, by omega, h3⟩⟩
    ·refine ⟨0, rfl, by omega, hfr, ho.1, fun j => ⟨fun h => ⟨j, h, rfl⟩, fun ⟨i, h, e⟩ => e ▸ h⟩, fun j => ?_⟩
     show At o0 j ↔ _
     rw [ho.2]
     constructor
     ·rintro ⟨h1, h2⟩
      exact ⟨j, h2,0, by omega, by omega, rfl⟩
     ·rintro ⟨i, h1, q, h2, h3, h4⟩
      have : q = 0 := by omega
      subst this
      cases h4
      exact ⟨by omega, h1⟩
open Classical in
theorem belongs_eq (x : GNode) (b : List UInt8) : F_10 x b = some (decide (b.length ≤ 1024 ∧ PV x ∧ x.stp b 0 b.length)) := by
 refine Ok.eq ?_
 unfold F_10
 refine Ok.ite (fun c => Ok.ret ?_) fun c => ?_
 ·have c := of_decide_eq_true c
  rw [eq_comm, decide_eq_false_iff_not]; omega
 ·have c := of_decide_eq_false c
  have hb : b.length ≤ 1024 := by omega
  rw [valid_eq]
  simp only [Option.bind_some]
  refine Ok.ite (fun d => Ok.ret ?_) fun d => ?_
  ·rw [eq_comm, decide_eq_false_iff_not]
   rintro ⟨_, h, _⟩
   simp [err_zero.2 h] at d
  ·have hv : PV x := err_zero.1 (by simpa using d)
   have e1 : ((b.length : Int) + 1).toNat = b.length + 1 := by omega
   rw [e1]
   refine Ok.chk (in64_s (by omega) (by omega)) (Ok.chk (roomI_iff.2 ⟨by omega, by omega, by omega⟩) (Ok.chk (inb_iff.2 ⟨by omega, by simp⟩) ?_))
   obtain ⟨y, hy, h1, h2⟩ := ends_ok hb x x.hgt ((List.replicate (b.length + 1) false).set 0 true) (Nat.le_refl _) hv.rgt (by simp)
   have hF : F_6 x b ((List.replicate (b.length + 1) false).set 0 true) = some y := by
    refine lim_of ⟨x.hgt, fun m hm => ?_⟩
    obtain ⟨y', hy', h1', h2'⟩ := ends_ok hb x m ((List.replicate (b.length + 1) false).set 0 true) hm hv.rgt (by simp)
    show FR_6 m x b _ = _
    rw [hy']
    have : y' = y := by
     refine List.ext_getElem (by omega) fun i hi hi' => ?_
     have := (h2' i).trans (h2 i).symm
     unfold At at this
     rw [List.getD_eq_getElem?_getD, List.getD_eq_getElem?_getD, List.getElem?_eq_getElem hi, List.getElem?_eq_getElem hi'] at this
     exact Bool.eq_iff_iff.2 this
    rw [this]
   rw [hF]
   simp only [Option.bind_some, Int.toNat_natCast]
   refine Ok.chk (inb_iff.2 ⟨by omega, by omega⟩) (Ok.ret ?_)
   rw [Bool.eq_iff_iff, decide_eq_true_eq]
   have := h2 b.length
   unfold At at this
   refine this.trans ⟨?_, ?_⟩
   ·rintro ⟨i, h3, h4⟩
    have : At ((List.replicate (b.length + 1) false).set 0 true) i := h3
    rw [At_set (by simp)] at this
    by_cases e : i = 0
    ·subst e; exact ⟨hb, hv, h4⟩
    ·rw [if_neg e] at this; exact absurd this (At_repl _ _)
   ·rintro ⟨_, _, h⟩
    refine ⟨0, ?_, h⟩
    show At _ 0
    rw [At_set (by simp), if_pos rfl]
end Go.Ab
namespace Go.Ab
open Go.Proofs
theorem Le.loopL {σ ρ : Type} {f g : σ → Option (Fl σ ρ)} {s : σ} (h : ∀ s, Le (f s) (g s)) : Le (Go.Ab.loop f s) (Go.Ab.loop g s) := fun r hr => by
 obtain ⟨n, hn⟩ := loop_iter.1 hr
 exact loop_iter.2 ⟨n, Le.iter h n s r hn⟩
theorem Le.up {α : Type} {f : Nat → Option α} (h : ∀ n, Le (f n) (f (n + 1))) {n m : Nat} (hm : n ≤ m) : Le (f n) (f m) := by
 induction hm with
 | refl => exact Le.refl
 | step _ ih => exact fun r hr => h _ r (ih r hr)
theorem Ok.lim {α : Type} {f : Nat → Option α} {Q : α → Prop} (h : ∀ n, Le (f n) (f (n + 1))) (n : Nat) (hn : Ok (f n) Q) : Ok (Go.Ab.lim f) Q := by
 obtain ⟨y, e, hy⟩ := hn
 exact ⟨y, lim_of ⟨n, fun m hm => Le.up h hm y e⟩, hy⟩
theorem pattern_mono : ∀ n (t : GTape) (d : Int), Le (FR_0 n t d) (FR_0 (n + 1) t d)
 | 0, t, d => by simp only [FR_0]; exact Le.non
 | n + 1, t, d => by
  have ih := pattern_mono n
  rw [FR_0, FR_0]
  (repeat' (with_reducible first | exact Le.refl | assumption | (refine Le.bind ?_ fun _ => ?_) | (refine Le.jn ?_ fun _ => ?_) | (refine Le.grp fun _ => ?_) | (refine Le.chk ?_) | (refine Le.cond ?_ ?_) | (refine Le.fl (fun _ => ?_) fun _ => ?_) | (refine Le.sum (fun _ => ?_) fun _ => ?_) | (refine Le.forL (fun _ _ _ => ?_) _ _ _) | (refine Le.foldL (fun _ _ _ => ?_) _ _ _) | (refine Le.loopL fun _ => ?_)))
  all_goals exact ih _ _
theorem member_mono : ∀ n (t : GTape) (x : GNode), Le (FR_1 n t x) (FR_1 (n + 1) t x)
 | 0, t, d => by simp only [FR_1]; exact Le.non
 | n + 1, t, d => by
  have ih := member_mono n
  rw [FR_1, FR_1]
  (repeat' (with_reducible first | exact Le.refl | assumption | (refine Le.bind ?_ fun _ => ?_) | (refine Le.jn ?_ fun _ => ?_) | (refine Le.grp fun _ => ?_) | (refine Le.chk ?_) | (refine Le.cond ?_ ?_) | (refine Le.fl (fun _ => ?_) fun _ => ?_) | (refine Le.sum (fun _ => ?_) fun _ => ?_) | (refine Le.forL (fun _ _ _ => ?_) _ _ _) | (refine Le.foldL (fun _ _ _ => ?_) _ _ _) | (refine Le.loopL fun _ => ?_)))
  all_goals exact ih _ _
def TO (t : GTape) : Prop := 0 ≤ t.at_ ∧ (t.L.length : Int) ≤ 9223372036854775807
theorem nx_ok {t : GTape} {n : Int} (h : TO t) (hn : 0 < n) : Ok (F_3 t n) fun y => 0 ≤ y.1 ∧ y.1 < n ∧ TO y.2 := by
 unfold F_3
 refine Ok.ite (fun c => Ok.ret ⟨Int.le_refl 0, hn, h⟩) fun c => ?_
 have c' : t.at_ < t.L.length := by simpa using c
 have h1 := h.1; have h2 := h.2
 refine Ok.chk (inb_iff.2 ⟨h.1, c'⟩) (Ok.chk (in64_iff.2 ⟨by omega, by omega⟩) (Ok.chk (divs_iff.2 ⟨Int.emod_nonneg _ (by decide), hn⟩) (Ok.ret ⟨Int.emod_nonneg _ (by omega), Int.emod_lt_of_pos _ hn, ?_, h2⟩)))
 show 0 ≤ t.at_ + 1
 omega
theorem btw_ok {t : GTape} {a b : Int} (h : TO t) (h1 : -100000 ≤ a) (h2 : a ≤ b) (h3 : b ≤ 100000) : Ok (F_x t a b) fun y => a ≤ y.1 ∧ y.1 ≤ b ∧ TO y.2 := by
 unfold F_x
 refine Ok.chk (in64_s (by omega) (by omega)) (Ok.chk (in64_s (by omega) (by omega)) (Ok.bind (nx_ok h (by omega)) fun y hy => Ok.chk (in64_s (by omega) (by omega)) (Ok.ret ⟨?_, ?_, hy.2.2⟩)))
 ·show a ≤ a + y.1; omega
 ·show a + y.1 ≤ b; omega
theorem mbytes_ok {t : GTape} {n : Int} (h : TO t) (h0 : 0 ≤ n) (hn : n ≤ 100) : Ok (F_1l t n) fun y => (y.1.length : Int) = n ∧ TO y.2 := by
 unfold F_1l
 refine Ok.bind (Ok.loop (Q := fun y : List UInt8 × GTape => (y.1.length : Int) = n ∧ TO y.2) (fun x => (x.2.1.length : Int) = x.1 ∧ x.1 ≤ n ∧ TO x.2.2) (fun x => (n - x.1).toNat) (fun x hx => ?_) _ ⟨rfl, h0, h⟩) fun r hr => Ok.ret hr
 obtain ⟨i, out, t⟩ := x
 obtain ⟨h1, h2, h3⟩ := hx
 simp only at h1 h2 h3
 unfold F_2i
 refine Ok.ite (fun c => ?_) fun c => ?_
 ·have c : i < n := of_decide_eq_true c
  have rm : ∀ b : UInt8, room (out.length + [b].length) 1 = true := fun b => room_s (by simp; omega)
  refine Ok.jn (P := fun j : List UInt8 × GTape => (j.1.length : Int) = i + 1 ∧ TO j.2) ?_ fun j hj => ?_
  ·refine Ok.bind (nx_ok h3 (by omega)) fun y hy => ?_
   have ln : ∀ b : UInt8, ((out ++ [b]).length : Int) = i + 1 := fun b => by simp; omega
   refine Ok.ite (fun _ => ?_) fun _ => Ok.ite (fun _ => ?_) fun _ => ?_
   ·exact Ok.bind (nx_ok hy.2.2 (by omega)) fun z hz => Ok.chk (inb_iff.2 ⟨hz.1, hz.2.1⟩) (Ok.chk (room_s (by simp; omega)) (Ok.ret ⟨ln _, hz.2.2⟩))
   ·exact Ok.bind (nx_ok hy.2.2 (by omega)) fun z hz => Ok.chk (room_s (by simp; omega)) (Ok.ret ⟨ln _, hz.2.2⟩)
   ·refine Ok.jn (P := fun _ => True) (Ok.ite (fun _ => Ok.ret trivial) fun _ => Ok.ret trivial) fun b _ => ?_
    refine Ok.ite (fun _ => ?_) fun _ => ?_
    ·exact Ok.bind (nx_ok hy.2.2 (by omega)) fun z hz => Ok.chk (in64_s (by omega) (by omega)) (Ok.chk (room_s (by simp; omega)) (Ok.ret ⟨ln _, hz.2.2⟩))
    ·exact Ok.bind (nx_ok hy.2.2 (by omega)) fun z hz => Ok.chk (inb_iff.2 ⟨hz.1, hz.2.1⟩) (Ok.chk (room_s (by simp; omega)) (Ok.ret ⟨ln _, hz.2.2⟩))
  ·refine Ok.chk (in64_s (by omega) (by omega)) (Ok.ret ?_)
   simp only [Fl.elim]
   exact ⟨⟨hj.1, by omega, hj.2⟩, by omega⟩
 ·have c : ¬ i < n := of_decide_eq_false c
  exact Ok.ret ⟨by show (out.length : Int) = n; omega, h3⟩
structure gd (d : Nat) (x : GNode) : Prop where
 rgt : Rgt x
 hgt : x.hgt ≤ d + 1
 cnt : 2 * x.cnt + 1 ≤ 3 ^ (d + 1)
 lon : x.lon ≤ 4 ^ d
theorem pow3_pos (d : Nat) : (1 : Int) ≤ 3 ^ d := by
 induction d with
 | zero => decide
 | succ d ih => rw [Int.pow_succ]; omega
theorem pow4_pos (d : Nat) : (1 : Int) ≤ 4 ^ d := by
 induction d with
 | zero => decide
 | succ d ih => rw [Int.pow_succ]; omega
theorem gd.up {d : Nat} {x : GNode} (h : gd d x) : gd (d + 1) x := by
 obtain ⟨h1, h2, h3, h4⟩ := h
 have := pow3_pos (d + 1); have := pow4_pos d
 refine ⟨h1, by omega, ?_, ?_⟩
 ·rw [Int.pow_succ 3 (d + 1)]; omega
 ·rw [Int.pow_succ]; omega
theorem gd.lift {x : GNode} : ∀ {d : Nat}, gd 0 x → gd d x
 | 0, h => h
 | d + 1, h => (gd.lift h).up
theorem gd_set {l : List GRange} (h1 : rngP l) (h2 : l ≠ []) : gd 0 (GNode.mk 1 l [] 0 0) := by
 refine ⟨.mk _ (.inl ⟨rfl, h1, h2, rfl, rfl, rfl⟩) (by simp), ?_, ?_, ?_⟩
 ·rw [hgt_eq]; simp [GNode.hgts]
 ·rw [cnt_eq]; simp [GNode.cnts]
 ·rw [lon_eq]; simp; omega
def sets8 : List (List GRange) := [[(GRange.mk 97 98)],[(GRange.mk 48 57)],[(GRange.mk 97 97)],[(GRange.mk 98 98)],[(GRange.mk 48 57), (GRange.mk 97 102)],[(GRange.mk 107 107)],[(GRange.mk 45 45)],[(GRange.mk 0 9), (GRange.mk 250 255)]]
instance (l : List GRange) (i : Nat) : Decidable (rng1 l i) := inferInstanceAs (Decidable (_ ∧ _))
instance (l : List GRange) : Decidable (rngP l) := inferInstanceAs (Decidable (∀ i, i < l.length → rng1 l i))
theorem sets8_ok : ∀ i, i < 8 → rngP (sets8.getD i default) ∧ sets8.getD i default ≠ [] := by
 intro i hi
 have : i = 0 ∨ i = 1 ∨ i = 2 ∨ i = 3 ∨ i = 4 ∨ i = 5 ∨ i = 6 ∨ i = 7 := by omega
 rcases this with rfl | rfl | rfl | rfl | rfl | rfl | rfl | rfl <;> exact ⟨by decide, by simp [sets8]⟩
theorem mset_ok {t : GTape} (h : TO t) : Ok (F_y t) fun y => gd 0 y.1 ∧ y.1.Op = 1 ∧ TO y.2 := by
 unfold F_y
 refine Ok.bind (nx_ok h (by simp)) fun y hy => Ok.chk (inb_iff.2 ⟨hy.1, hy.2.1⟩) (Ok.ret ?_)
 have := sets8_ok y.1.toNat (by have := hy.2.1; simp at this; omega)
 exact ⟨gd_set this.1 this.2, rfl, hy.2.2⟩
theorem hgts_le {c : Nat} : ∀ {l : List GNode}, (∀ k ∈ l, k.hgt ≤ c) → GNode.hgts l ≤ c
 | [], _ => by simp [GNode.hgts]
 | a :: r, h => by
  have h1 := h a (by simp)
  have h2 := hgts_le (l := r) fun k hk => h k (by simp [hk])
  simp only [GNode.hgts]; omega
theorem gd_node {e : Nat} {op : Int} {kids : List GNode} {mi ma : Int} (ho : okN (GNode.mk op [] kids mi ma)) (hk : ∀ k ∈ kids, gd e k) (hl : kids.length ≤ 3) (hma : ma ≤ 4) : gd (e + 1) (GNode.mk op [] kids mi ma) := by
 have hr : Rgt (GNode.mk op [] kids mi ma) := .mk _ ho fun k h => (hk k h).rgt
 have p3 := pow3_pos (e + 1); have p4 := pow4_pos e
 refine ⟨hr, ?_, ?_, ?_⟩
 ·rw [hgt_eq]
  have := hgts_le (c := e + 1) (l := kids) fun k h => (hk k h).hgt
  show GNode.hgts kids + 1 ≤ _; omega
 ·rw [cnt_eq]
  show 2 * (GNode.cnts kids + 1) + 1 ≤ _
  have h3 : ∀ l : List GNode, (∀ k ∈ l, gd e k) → l.length ≤ 3 → 2 * GNode.cnts l ≤ 3 * (3 ^ (e + 1) - 1) := by
   intro l h hl
   match l, h, hl with
   | [], _, _ => simp only [GNode.cnts]; omega
   | [a], h, _ => have h1 := (h a (by simp)).cnt; simp only [GNode.cnts]; omega
   | [a, b], h, _ => have h1 := (h a (by simp)).cnt; have h2 := (h b (by simp)).cnt; simp only [GNode.cnts]; omega
   | [a, b, c], h, _ => have h1 := (h a (by simp)).cnt; have h2 := (h b (by simp)).cnt; have h3 := (h c (by simp)).cnt; simp only [GNode.cnts]; omega
   | _ :: _ :: _ :: _ :: _, _, hl => simp only [List.length_cons] at hl; omega
  have := h3 kids hk hl
  rw [Int.pow_succ 3 (e + 1)]; omega
 ·rw [lon_eq, Int.pow_succ]
  have hkl : ∀ k ∈ kids, 0 ≤ k.lon ∧ k.lon ≤ 4 ^ e := fun k h => ⟨by have := lon_rng k (hk k h).rgt; omega, (hk k h).lon⟩
  have s1 := (sum_rng hkl).2.1
  have s2 : (4 : Int) ^ e * (kids.length : Int) ≤ 4 ^ e * 3 := Int.mul_le_mul_of_nonneg_left (by omega) (by omega)
  have m1 := max_rng (by omega) hkl
  rcases hr.kinds with ⟨h, _⟩ | ⟨h, h2⟩ | ⟨h, h2⟩ | ⟨h, ⟨k, h2⟩, h3, h4, h5, h6⟩ <;> dsimp only at h <;> subst h
  ·simp only [if_true]; omega
  ·rw [if_neg (show ¬ (2 : Int) = 1 by decide), if_pos rfl]
   show min (sumI (kids.map GNode.lon)) 1025 ≤ _; omega
  ·rw [if_neg (show ¬ (3 : Int) = 1 by decide), if_neg (show ¬ (3 : Int) = 2 by decide), if_pos rfl]
   show min (maxI (kids.map GNode.lon)) 1025 ≤ _; omega
  ·rw [if_neg (show ¬ (4 : Int) = 1 by decide), if_neg (show ¬ (4 : Int) = 2 by decide), if_neg (show ¬ (4 : Int) = 3 by decide)]
   dsimp only at h2 h3 h4 h5
   subst h2
   have h7 := hkl k (by simp)
   show min (ma * k.lon) 1025 ≤ _
   have : ma * k.lon ≤ 4 * 4 ^ e := Int.mul_le_mul hma h7.2 h7.1 (by omega)
   omega
theorem pattern_ok : ∀ (d m : Nat) (t : GTape), d < m → TO t → d ≤ 100 → Ok (FR_0 m t ((d : Int) + 1)) fun y => gd d y.1 ∧ TO y.2 := by
 intro d
 induction d with
 | zero =>
  intro m t hm ht _
  obtain ⟨m, rfl⟩ : ∃ n, m = n + 1 := ⟨m - 1, by omega⟩
  rw [FR_0]
  exact Ok.ite (fun _ => Ok.bind (mset_ok ht) fun y hy => Ok.ret ⟨hy.1, hy.2.2⟩) fun c => by have := of_decide_eq_false c; simp at this
 | succ e ih =>
  intro m t hm ht he
  obtain ⟨m, rfl⟩ : ∃ n, m = n + 1 := ⟨m - 1, by omega⟩
  have e1 : ((e + 1 : Nat) : Int) + 1 - 1 = (e : Int) + 1 := by omega
  have hrec : ∀ t, TO t → Ok (FR_0 m t ((e : Int) + 1)) fun y => gd e y.1 ∧ TO y.2 := fun t h => ih m t (by omega) h (by omega)
  rw [FR_0]
  simp only [e1]
  refine Ok.ite (fun c => Ok.bind (mset_ok ht) fun y hy => Ok.ret ⟨hy.1.lift, hy.2.2⟩) fun _ => ?_
  refine Ok.jn (P := fun o => Fl.elim (fun j : Int × GTape => (j.1 = 2 ∨ j.1 = 3) ∧ TO j.2) (fun r : GNode × GTape => gd (e + 1) r.1 ∧ TO r.2) o) ?_ fun o ho => ?_
  ·refine Ok.bind (nx_ok ht (by omega)) fun y hy => Ok.jn (P := fun _ => True) (Ok.ite (fun _ => Ok.ret trivial) fun _ => Ok.ret trivial) fun j _ => ?_
   refine Ok.ite (fun _ => Ok.ret ⟨.inl rfl, hy.2.2⟩) fun _ => Ok.ite (fun _ => Ok.ret ⟨.inr rfl, hy.2.2⟩) fun _ => Ok.ite (fun _ => ?_) fun _ => Ok.bind (mset_ok hy.2.2) fun z hz => Ok.ret ⟨hz.1.lift, hz.2.2⟩
   refine Ok.bind (btw_ok hy.2.2 (by omega) (by omega) (by omega)) fun z hz => Ok.chk (in64_s (by omega) (by omega)) (Ok.bind (nx_ok hz.2.2 (by omega)) fun w hw => ?_)
   refine Ok.jn (P := fun j : Int × Int => 0 ≤ j.1 ∧ 1 ≤ j.2 ∧ j.1 ≤ j.2 ∧ j.2 ≤ 4 ∧ ¬ (j.1 = 1 ∧ j.2 = 1)) (Ok.grp (Ok.ite (fun c => Ok.ret ?_) fun c => Ok.ret ?_)) fun j hj => ?_
   ·simp only [Bool.and_eq_true, decide_eq_true_eq] at c
    exact ⟨hw.1, by omega, by show w.1 ≤ 2; omega, by omega, by show ¬ (w.1 = 1 ∧ (2 : Int) = 1); omega⟩
   ·refine ⟨hw.1, hz.1, by have := hw.2.1; show w.1 ≤ z.1; omega, hz.2.1, fun ⟨h1, h2⟩ => ?_⟩
    dsimp only at h1 h2
    simp [h1, h2] at c
   ·refine Ok.chk (in64_s (by omega) (by omega)) (Ok.bind (hrec _ hw.2.2) fun v hv => Ok.ret ⟨?_, hv.2⟩)
    exact gd_node (.inr (.inr ⟨rfl, rfl, rfl, hj.1, hj.2.1, hj.2.2.1, by show j.2 ≤ 64; omega, hj.2.2.2.2⟩)) (by simp; exact hv.1) (by simp) hj.2.2.2.1
  ·cases o with
   | ex r => exact Ok.ret ho
   | nx j =>
    obtain ⟨hj, ht2⟩ := ho
    dsimp only [Fl.elim]
    refine Ok.bind (btw_ok ht2 (by omega) (by omega) (by omega)) fun n hn => ?_
    refine Ok.bind (Ok.loop (Q := fun r : Int × List GNode × GTape => r.1 = j.1 ∧ (r.2.1.length : Int) = n.1 ∧ (∀ k ∈ r.2.1, gd e k ∧ k.Op ≠ j.1) ∧ TO r.2.2) (fun x : Int × Int × List GNode × GTape => x.2.1 = j.1 ∧ 0 ≤ x.1 ∧ x.1 + x.2.2.1.length = n.1 ∧ (∀ k ∈ x.2.2.1, gd e k ∧ k.Op ≠ j.1) ∧ TO x.2.2.2) (fun x => x.1.toNat) (fun x hx => ?_) _ ⟨rfl, by omega, by simp, by simp, hn.2.2⟩) fun r hr => Ok.ret ⟨?_, hr.2.2.2⟩
    ·obtain ⟨a, op, kids, t3⟩ := x
     obtain ⟨h1, h2, h3, h4, h5⟩ := hx
     dsimp only at h1 h2 h3 h4 h5
     subst h1
     refine Ok.ite (fun c => ?_) fun c => ?_
     ·have c : 0 < a := of_decide_eq_true c
      refine Ok.chk (in64_s (by omega) (by omega)) (Ok.bind (hrec _ h5) fun y hy => ?_)
      refine Ok.jn (P := fun q : GNode × GTape => (gd e q.1 ∧ q.1.Op ≠ j.1) ∧ TO q.2) (Ok.ite (fun f => ?_) fun f => ?_) fun q hq => ?_
      ·refine Ok.bind (mset_ok hy.2) fun z hz => Ok.ret ⟨⟨hz.1.lift, ?_⟩, hz.2.2⟩
       rw [hz.2.1]; omega
      ·exact Ok.ret ⟨⟨hy.1, of_decide_eq_false f⟩, hy.2⟩
      ·refine Ok.chk (room_s (by simp; omega)) (Ok.chk (in64_s (by omega) (by omega)) (Ok.ret ⟨⟨rfl, by dsimp only; omega, by dsimp only; simp; omega, fun k hk => ?_, hq.2⟩, by dsimp only; omega⟩))
       rcases List.mem_append.1 hk with hk | hk
       ·exact h4 k hk
       ·cases List.mem_singleton.1 hk; exact hq.1
     ·have c : ¬ 0 < a := of_decide_eq_false c
      exact Ok.ret ⟨rfl, by dsimp only; omega, h4, h5⟩
    ·obtain ⟨r1, r2, r3, r4⟩ := hr
     rw [r1]
     exact gd_node (.inr (.inl ⟨hj, by show 2 ≤ r.2.1.length; omega, rfl, rfl, rfl, fun k hk => (r3 k hk).2⟩)) (fun k hk => (r3 k hk).1) (by omega) (by omega)
end Go.Ab
namespace Go.Ab
open Go.Proofs
def Mem (x : GNode) (w : List UInt8) : Prop := ∀ p s : List UInt8, x.stp (p ++ w ++ s) p.length (p.length + w.length)
theorem Mem.len {x : GNode} {w : List UInt8} (h : Mem x w) (hx : PV x) : x.sho ≤ w.length ∧ (w.length : Int) ≤ x.lon := by
 have := stp_rng x hx _ _ (h [] [])
 simp only [List.length_nil, Nat.zero_add] at this; omega
theorem Mem.whole {x : GNode} {w : List UInt8} (h : Mem x w) : x.stp w 0 w.length := by
 have := h [] []
 simpa using this
theorem member_ok : ∀ (x : GNode) (m : Nat) (t : GTape), x.hgt ≤ m → PV x → TO t → Ok (FR_1 m t x) fun y => Mem x y.1 ∧ TO y.2 := by
 refine GNode.ind fun x ih m t hm hx ht => ?_
 obtain ⟨m, rfl⟩ : ∃ n, m = n + 1 := ⟨m - 1, by have := hgt_pos x; omega⟩
 have hrec : ∀ k ∈ x.Kids, ∀ t, TO t → Ok (FR_1 m t k) fun y => (Mem k y.1 ∧ y.1.length ≤ 1024) ∧ TO y.2 := fun k hk t h => Ok.mono (ih k hk m t (by have := kid_hgt hk; omega) (hx.kid hk) h) fun y hy => ⟨⟨hy.1, by have := (hy.1.len (hx.kid hk)).2; have := (hx.kid hk).lon; omega⟩, hy.2⟩
 have hkl := kids_cnt x
 have hcn := hx.cnt
 rw [FR_1]
 refine Ok.ite (fun c => ?_) fun c => Ok.ite (fun c2 => ?_) fun c2 => Ok.ite (fun c3 => ?_) fun c3 => Ok.ite (fun c4 => ?_) fun c4 => ?_
 ·have c := of_decide_eq_true c
  obtain ⟨h1, h2⟩ : rngP x.Ranges ∧ x.Ranges ≠ [] := by rcases hx.rgt.kinds with h | h | h | h <;> first | exact h.2 | omega
  have hpos := List.length_pos_iff.2 h2
  refine Ok.bind (nx_ok ht (by omega)) fun y hy => Ok.chk (inb_iff.2 ⟨hy.1, hy.2.1⟩) ?_
  have hlt : y.1.toNat < x.Ranges.length := by have := hy.2.1; omega
  have hr := (h1 _ hlt).1
  have hmem : x.Ranges.getD y.1.toNat default ∈ x.Ranges := by
   rw [List.getD_eq_getElem?_getD, List.getElem?_eq_getElem hlt]; exact List.getElem_mem hlt
  generalize x.Ranges.getD y.1.toNat default = r at hr hmem
  have b1 := r.High.toNat_lt
  refine Ok.chk (in64_s (by omega) (by omega)) (Ok.chk (in64_s (by omega) (by omega)) (Ok.bind (nx_ok hy.2.2 (by omega)) fun z hz => Ok.ret ⟨fun p s => (stp_set c).2 ⟨_, by simp; rfl, ⟨r, hmem, ?_⟩, rfl⟩, hz.2.2⟩))
  have e1 : ((u8 z.1).toNat : Int) = z.1 := by rw [u8_toNat]; have := hz.1; have := hz.2.1; omega
  have e2 := u8_toNat ((r.Low.toNat : Int) + ((u8 z.1).toNat : Int))
  have := hz.1; have := hz.2.1
  rw [e1] at e2 ⊢
  omega
 ·have c2 := of_decide_eq_true c2
  refine Ok.bind (Ok.loop (Q := fun r : List UInt8 × GTape => Mem x r.1 ∧ TO r.2) (fun s : Int × List UInt8 × GTape => ∃ n : Nat, s.1 = (n : Int) ∧ n ≤ x.Kids.length ∧ s.2.1.length ≤ n * 1024 ∧ (∀ p q : List UInt8, seqR ((x.Kids.take n).map (GNode.stp (p ++ s.2.1 ++ q))) p.length (p.length + s.2.1.length)) ∧ TO s.2.2) (fun s => (x.Kids.length - s.1).toNat) (fun s hs => ?_) _ ⟨0, rfl, by omega, by simp, fun p q => by simp [seqR], ht⟩) fun r hr => Ok.ret hr
  obtain ⟨i, out, t1⟩ := s
  obtain ⟨n, rfl, h2, h3, h4, h5⟩ := hs
  dsimp only at h3 h4 h5
  refine Ok.ite (fun d => ?_) fun d => ?_
  ·have d : (n : Int) < x.Kids.length := of_decide_eq_true d
   have hlt : n < x.Kids.length := by omega
   have hg : x.Kids.getD (n : Int).toNat default = x.Kids[n] := by rw [Int.toNat_natCast, List.getD_eq_getElem?_getD, List.getElem?_eq_getElem hlt]; rfl
   refine Ok.chk (inb_iff.2 ⟨by dsimp only; omega, d⟩) ?_
   dsimp only
   rw [hg]
   refine Ok.bind (hrec _ (List.getElem_mem hlt) t1 h5) fun y hy => Ok.chk (room_s (by omega)) (Ok.chk (in64_s (by omega) (by omega)) (Ok.ret ⟨⟨n + 1, rfl, by omega, by simp; omega, fun p q => ?_, hy.2⟩, by dsimp only; omega⟩))
   dsimp only
   rw [List.take_succ_eq_append_getElem hlt, List.map_append, List.map_cons, List.map_nil, seqR_snoc]
   refine ⟨p.length + out.length, ?_, ?_⟩
   ·have := h4 p (y.1 ++ q)
    simpa [List.append_assoc] using this
   ·have := hy.1.1 (p ++ out) q
    simpa [List.append_assoc, Nat.add_assoc] using this
  ·have d : ¬ (n : Int) < x.Kids.length := of_decide_eq_false d
   have : n = x.Kids.length := by omega
   subst this
   refine Ok.ret ⟨fun p q => (stp_seq c2).2 ?_, h5⟩
   have := h4 p q
   rwa [List.take_length] at this
 ·have c3 := of_decide_eq_true c3
  have h2 : 2 ≤ x.Kids.length := by rcases hx.rgt.kinds with h | h | h | h <;> first | exact h.2 | omega
  refine Ok.bind (nx_ok ht (by omega)) fun y hy => Ok.chk (inb_iff.2 ⟨hy.1, hy.2.1⟩) ?_
  have hlt : y.1.toNat < x.Kids.length := by have := hy.2.1; have := hy.1; omega
  have hmem : x.Kids.getD y.1.toNat default ∈ x.Kids := by
   rw [List.getD_eq_getElem?_getD, List.getElem?_eq_getElem hlt]; exact List.getElem_mem hlt
  refine Ok.bind (hrec _ hmem _ hy.2.2) fun z hz => Ok.ret ⟨fun p q => (stp_alt c3).2 ⟨_, hmem, hz.1.1 p q⟩, hz.2⟩
 ·have c4 := of_decide_eq_true c4
  obtain ⟨k, hk, h5, h6, h7, h8⟩ : (∃ k, x.Kids = [k] ∧ 0 ≤ x.Min ∧ 1 ≤ x.Max ∧ x.Min ≤ x.Max ∧ x.Max ≤ 64) := by
   rcases hx.rgt.kinds with h | h | h | ⟨_, ⟨k, h⟩, h2⟩
   ·omega
   ·omega
   ·omega
   ·exact ⟨k, h, h2⟩
  have hkm : k ∈ x.Kids := by rw [hk]; simp
  have hg : x.Kids.getD 0 default = k := by rw [hk]; rfl
  rw [hg]
  refine Ok.bind (btw_ok ht (by omega) h7 (by omega)) fun n hn => ?_
  refine Ok.bind (Ok.loop (Q := fun r : List UInt8 × GTape => Mem x r.1 ∧ TO r.2) (fun s : Int × List UInt8 × GTape => ∃ q : Nat, 0 ≤ s.1 ∧ (q : Int) + s.1 = n.1 ∧ s.2.1.length ≤ q * 1024 ∧ (∀ p r : List UInt8, powR (k.stp (p ++ s.2.1 ++ r)) q p.length (p.length + s.2.1.length)) ∧ TO s.2.2) (fun s => s.1.toNat) (fun s hs => ?_) _ ⟨0, by dsimp only; omega, by dsimp only; omega, by simp, fun p q => by simp [powR], hn.2.2⟩) fun r hr => Ok.ret hr
  obtain ⟨i, out, t1⟩ := s
  obtain ⟨q, h1, h2, h3, h4, h9⟩ := hs
  dsimp only at h1 h2 h3 h4 h9
  refine Ok.ite (fun d => ?_) fun d => ?_
  ·have d : 0 < i := of_decide_eq_true d
   refine Ok.chk (inb_iff.2 ⟨by omega, by rw [hk]; simp⟩) (Ok.bind (hrec k hkm t1 h9) fun y hy => Ok.chk (room_s (by dsimp only; omega)) (Ok.chk (in64_s (by dsimp only; omega) (by dsimp only; omega)) (Ok.ret ⟨⟨q + 1, by dsimp only; omega, by dsimp only; omega, by simp; omega, fun p r => ?_, hy.2⟩, by dsimp only; omega⟩)))
   dsimp only
   refine ⟨p.length + out.length, ?_, ?_⟩
   ·have := h4 p (y.1 ++ r)
    simpa [List.append_assoc] using this
   ·have := hy.1.1 (p ++ out) r
    simpa [List.append_assoc, Nat.add_assoc] using this
  ·have d : ¬ 0 < i := of_decide_eq_false d
   exact Ok.ret ⟨fun p r => (stp_rep c4 hk).2 ⟨q, by have := hn.1; omega, by have := hn.2.1; omega, h4 p r⟩, h9⟩
 ·have c := of_decide_eq_false c
  have c2 := of_decide_eq_false c2
  have c3 := of_decide_eq_false c3
  have c4 := of_decide_eq_false c4
  rcases hx.rgt.kinds with h | h | h | h <;> omega
theorem made_member {t : GTape} {x : GNode} (h : TO t) (hx : PV x) : Ok (F_1 t x) fun y => Mem x y.1 ∧ TO y.2 :=
 Ok.lim (f := fun n => FR_1 n t x) (fun n => member_mono n t x) x.hgt (member_ok x x.hgt t (Nat.le_refl _) hx h)
theorem acall_fact {P : Program} {f : FuncId} {ys : List V} {H : Heap} {Q : V → Heap → Prop} (hc : callable P f = true) (h : (∀ y ∈ ys, y.fact) → ACall P f ys H Q) : ACall P f ys H Q :=
 ⟨hc, fun g w vals hH hs hr => (h fun y hy => by
  obtain ⟨i, hi⟩ := List.getElem?_of_mem hy
  exact (hr i y hi).fact).2 g w vals hH hs hr⟩
end Go.Ab
namespace Go.Ab
open Go.Proofs Go.RowKit
inductive Fit : GNode → Prop
 | mk (x : GNode) (h1 : rng .i64 x.Op) (h2 : x.Ranges.length ≤ maxLen) (h3 : x.Kids.length ≤ maxLen) (h4 : rng .i64 x.Min) (h5 : rng .i64 x.Max) (hk : ∀ k ∈ x.Kids, Fit k) : Fit x
def RRng (x : V) : Prop := ∃ l : List GRange, x = .sl (l.map GRange.v) ∧ l.length ≤ maxLen
def RKid (x : V) : Prop := ∃ l : List GNode, x = .sl (GNode.vs l) ∧ l.length ≤ maxLen ∧ ∀ k ∈ l, Fit k
def rho05 (t : TypeId) : Option (V → Prop) := bif Nat.beq t 23 then some RRng else bif Nat.beq t 24 then some RKid else none
theorem byteOK {y : V} (h : Sh.has (.int .u8) y) : ∃ a : UInt8, y = byteV a := by
 obtain ⟨n, e, h1, h2⟩ := h
 refine ⟨UInt8.ofNat n.toNat, ?_⟩
 rw [e, byteV]
 congr 1
 have : (UInt8.ofNat n.toNat).toNat = n.toNat % 256 := by simp
 rw [this]; omega
theorem has_c {s : Sh} {r : List Sh} : ∀ {xs : List V}, Sh.hasL (s :: r) xs → ∃ x q, xs = x :: q ∧ s.has x ∧ Sh.hasL r q
 | [], h => h.elim
 | x :: q, h => ⟨x, q, rfl, h.1, h.2⟩
theorem has_n : ∀ {xs : List V}, Sh.hasL [] xs → xs = []
 | [], _ => rfl
 | _ :: _, h => h.elim
theorem nodeOK {zs : List V} (h : Sh.hasL [.int .i64, .rk RRng, .rk RKid, .int .i64, .int .i64] zs) : ∃ a : GNode, (.agg zs : V) = GNode.v a ∧ Fit a := by
 obtain ⟨_, q1, rfl, ⟨n0, rfl, g0⟩, k1⟩ := has_c h
 obtain ⟨_, q2, rfl, ⟨l1, rfl, g1⟩, k2⟩ := has_c k1
 obtain ⟨_, q3, rfl, ⟨l2, rfl, g2, g2'⟩, k3⟩ := has_c k2
 obtain ⟨_, q4, rfl, ⟨n3, rfl, g3⟩, k4⟩ := has_c k3
 obtain ⟨_, q5, rfl, ⟨n4, rfl, g4⟩, k5⟩ := has_c k4
 obtain rfl := has_n k5
 exact ⟨⟨n0, l1, l2, n3, n4⟩, rfl, .mk _ g0 g1 g2 g3 g4 g2'⟩
theorem map_of2 {α : Type} {f : α → V} {p : α → Prop} : ∀ {ys : List V}, (∀ y ∈ ys, ∃ a, y = f a ∧ p a) → ∃ l : List α, ys = l.map f ∧ ∀ a ∈ l, p a
 | [], _ => ⟨[], rfl, by simp⟩
 | y :: r, h => by
  obtain ⟨a, rfl, ha⟩ := h y (by simp)
  obtain ⟨l, rfl, hl⟩ := map_of2 (ys := r) fun z hz => h z (by simp [hz])
  exact ⟨a :: l, rfl, by simp; exact ⟨ha, hl⟩⟩
theorem rho_at05 : ∀ t R, rho05 t = some R → RhoAt Tryz.prog rho05 30 t R := by
 intro t R h
 unfold rho05 at h
 by_cases c : Nat.beq t 23 = true
 ·rw [c] at h; cases h
  obtain rfl := Nat.eq_of_beq_eq_true c
  refine ⟨57, true, [.int .u8, .int .u8], by kernel_rfl, by kernel_rfl, by kernel_rfl, fun ys hl h => ?_⟩
  obtain ⟨l, rfl⟩ := map_of (f := GRange.v) (ys := ys) fun y hy => by
   obtain ⟨zs, rfl, hz⟩ := h y hy
   obtain ⟨_, q1, rfl, g0, k1⟩ := has_c hz
   obtain ⟨_, q2, rfl, g1, k2⟩ := has_c k1
   obtain rfl := has_n k2
   obtain ⟨a, rfl⟩ := byteOK g0
   obtain ⟨b, rfl⟩ := byteOK g1
   exact ⟨⟨a, b⟩, rfl⟩
  exact ⟨l, rfl, by simpa using hl⟩
 ·rw [Bool.not_eq_true] at c
  rw [c] at h
  by_cases c2 : Nat.beq t 24 = true
  ·rw [c2] at h; cases h
   obtain rfl := Nat.eq_of_beq_eq_true c2
   refine ⟨26, true, [.int .i64, .rk RRng, .rk RKid, .int .i64, .int .i64], by kernel_rfl, by kernel_rfl, by kernel_rfl, fun ys hl h => ?_⟩
   obtain ⟨l, rfl, hf⟩ := map_of2 (f := GNode.v) (p := Fit) (ys := ys) fun y hy => by
    obtain ⟨zs, rfl, hz⟩ := h y hy
    exact nodeOK hz
   exact ⟨l, by rw [GNode.vs_eq], by simpa using hl, hf⟩
  ·rw [Bool.not_eq_true] at c2
   rw [c2] at h; cases h
end Go.Ab
namespace Go.Ab
open Go.Proofs
theorem at_take {α : Type} [Inhabited α] {l : List α} {n : Nat} (h : n < l.length) : ∃ k, k ∈ l ∧ l.getD n default = k ∧ l.take (n + 1) = l.take n ++ [k] :=
 ⟨l[n], List.getElem_mem h, by rw [List.getD_eq_getElem?_getD, List.getElem?_eq_getElem h]; rfl, List.take_succ_eq_append_getElem h⟩
theorem rcount_ok : ∀ (x : GNode) (m : Nat) (h : Int), x.hgt ≤ m → 0 ≤ h → h ≤ 200 → Ok (FR_e m x h) (· = min (h + x.cnt) 201) := by
 refine GNode.ind fun x ih m h hm h0 h1 => ?_
 obtain ⟨m, rfl⟩ : ∃ n, m = n + 1 := ⟨m - 1, by have := hgt_pos x; omega⟩
 rw [FR_e]
 refine Ok.chk (in64_s (by omega) (by omega)) (Ok.bind (Ok.loop (Q := fun r => r = min (h + x.cnt) 201) (fun s : Int × Int => ∃ n : Nat, s.2 = (n : Int) ∧ n ≤ x.Kids.length ∧ (n : Int) ≤ 201 ∧ (n : Int) ≤ s.1 ∧ s.1 = min (h + 1 + GNode.cnts (x.Kids.take n)) 201) (fun s => (x.Kids.length - s.2).toNat) (fun s hs => ?_) _ ⟨0, rfl, by omega, by omega, by dsimp only; omega, by simp [GNode.cnts]; omega⟩) fun r hr => Ok.ret hr)
 obtain ⟨s, i⟩ := s
 obtain ⟨n, e, h2, h3, h5, h4⟩ := hs
 dsimp only at e h4 h5
 subst e
 refine Ok.grp (Ok.ite (fun c => ?_) fun c => ?_)
 ·simp only [Bool.and_eq_true, decide_eq_true_eq] at c
  obtain ⟨k, hk, hg, ht⟩ := at_take (l := x.Kids) (n := n) (by omega)
  have hp := cnt_pos k
  have hc : GNode.cnts (x.Kids.take (n + 1)) = GNode.cnts (x.Kids.take n) + k.cnt := by rw [ht, cnts_append]; simp [GNode.cnts]
  have hl := cnts_len (x.Kids.take n)
  refine Ok.chk (inb_iff.2 ⟨by dsimp only; omega, by dsimp only; omega⟩) ?_
  dsimp only
  rw [Int.toNat_natCast, hg]
  refine Ok.bind (ih k hk m s (by have := kid_hgt hk; omega) (by omega) (by omega)) fun y hy => Ok.chk (in64_s (by omega) (by omega)) (Ok.ret ⟨⟨n + 1, rfl, by omega, by omega, by dsimp only; omega, ?_⟩, by dsimp only; omega⟩)
  dsimp only
  rw [hc, hy]; omega
 ·have c' : ¬ ((n : Int) < x.Kids.length ∧ s ≤ 200) := by simpa only [Bool.and_eq_true, decide_eq_true_eq, ← Bool.not_eq_true] using c
  refine Ok.ret ?_
  show s = _
  rw [cnt_eq]
  by_cases e : n = x.Kids.length
  ·subst e; rw [List.take_length] at h4; omega
  ·have hs : GNode.cnts x.Kids = GNode.cnts (x.Kids.take n) + GNode.cnts (x.Kids.drop n) := by rw [← cnts_append, List.take_append_drop]
   have := cnts_len (x.Kids.drop n)
   omega
theorem rnodes_eq (x : GNode) : F_z x = some (min x.cnt 201) := by
 have : F_e x 0 = some (min x.cnt 201) := lim_of ⟨x.hgt, fun m hm => by
  have := (rcount_ok x m 0 hm (by omega) (by omega)).eq
  rwa [Int.zero_add] at this⟩
 unfold F_z
 rw [this]
 show some _ = some _
 congr 1; omega
theorem rdepth_ok : ∀ (x : GNode) (m : Nat), x.hgt ≤ m → x.cnt ≤ 1000 → Ok (FR_f m x) (· = (x.hgt : Int)) := by
 refine GNode.ind fun x ih m hm hc => ?_
 obtain ⟨m, rfl⟩ : ∃ n, m = n + 1 := ⟨m - 1, by have := hgt_pos x; omega⟩
 have hkl := kids_cnt x
 have hh := hgt_cnt x
 rw [FR_f]
 refine Ok.bind (Ok.loop (Q := fun r => r = (GNode.hgts x.Kids : Int)) (fun s : Int × Int => ∃ n : Nat, s.2 = (n : Int) ∧ n ≤ x.Kids.length ∧ s.1 = (GNode.hgts (x.Kids.take n) : Int)) (fun s => (x.Kids.length - s.2).toNat) (fun s hs => ?_) _ ⟨0, rfl, by omega, by simp [GNode.hgts]⟩) fun r hr => ?_
 ·obtain ⟨s, i⟩ := s
  obtain ⟨n, e, h2, h4⟩ := hs
  dsimp only at e h4
  subst e
  refine Ok.ite (fun c => ?_) fun c => ?_
  ·have c : (n : Int) < x.Kids.length := of_decide_eq_true c
   obtain ⟨k, hk, hg, ht⟩ := at_take (l := x.Kids) (n := n) (by omega)
   refine Ok.chk (inb_iff.2 ⟨by dsimp only; omega, c⟩) ?_
   dsimp only
   rw [Int.toNat_natCast, hg]
   refine Ok.bind (ih k hk m (by have := kid_hgt hk; omega) (by have := kid_cnt hk; omega)) fun y hy => Ok.chk (in64_s (by omega) (by omega)) (Ok.ret ⟨⟨n + 1, rfl, by omega, ?_⟩, by dsimp only; omega⟩)
   dsimp only
   rw [ht, hgts_append, hy, h4]; simp only [GNode.hgts]; omega
  ·have c : ¬ (n : Int) < x.Kids.length := of_decide_eq_false c
   have e : n = x.Kids.length := by omega
   subst e
   rw [List.take_length] at h4
   exact Ok.ret h4
 ·have := hgt_eq x
  exact Ok.chk (in64_s (by omega) (by omega)) (Ok.ret (by omega))
theorem rdepth_eq {x : GNode} (hc : x.cnt ≤ 1000) : F_f x = some (x.hgt : Int) := lim_of ⟨x.hgt, fun m hm => (rdepth_ok x m hm hc).eq⟩
open Classical in
theorem rranges_ok (l : List GRange) : F_1h l = some (decide (rngP l ∧ l ≠ [])) := by
 refine Ok.eq ?_
 unfold F_1h
 refine Ok.bind (Ok.loop (Q := fun r => (r = .inl () ∧ rngP l) ∨ (r = .inr false ∧ ¬ rngP l)) (fun i : Int => ∃ n : Nat, i = (n : Int) ∧ n ≤ l.length ∧ n ≤ 129 ∧ ∀ j, j < n → rng1 l j) (fun i => (l.length - i).toNat) (fun i hi => ?_) _ ⟨0, rfl, by omega, by omega, fun j h => by omega⟩) fun r hr => ?_
 ·obtain ⟨n, rfl, h2, h3, h4⟩ := hi
  unfold F_2g
  refine Ok.ite (fun c => ?_) fun c => ?_
  ·have c : (n : Int) < l.length := of_decide_eq_true c
   have hb : n ≤ 128 := by
    by_cases c : n ≤ 128
    ·exact c
    ·have := rng_lo (l := l) 128 fun j hj => h4 j (by omega)
     have := (l.getD 128 default).Low.toNat_lt
     omega
   refine Ok.jn (P := fun o => Fl.elim (fun _ => rng1 l n) (fun r => r = false ∧ ¬ rngP l) o) (Ok.chk (inb_iff.2 ⟨by omega, c⟩) (Ok.chk (inb_iff.2 ⟨by omega, c⟩) ?_)) fun o ho => ?_
   ·have e0 : (n : Int).toNat = n := Int.toNat_natCast n
    rw [e0]
    refine Ok.ite (fun d => Ok.ret ⟨rfl, fun h => ?_⟩) fun d => Ok.ite (fun d2 => ?_) fun d2 => Ok.ret ⟨?_, fun h => ?_⟩
    ·have d := of_decide_eq_true d
     have := (h n (by omega)).1; omega
    ·have d := of_decide_eq_false d
     have d2 := of_decide_eq_true d2
     have e1 : ((n : Int) - 1).toNat = n - 1 := by omega
     rw [e1]
     have hlt := (l.getD (n - 1) default).High.toNat_lt
     refine Ok.chk (inb_iff.2 ⟨by omega, c⟩) (Ok.chk (in64_s (by omega) (by omega)) (Ok.chk (inb_iff.2 ⟨by omega, by omega⟩) (Ok.chk (in64_s (by omega) (by omega)) (Ok.ite (fun d3 => Ok.ret ⟨rfl, fun h => ?_⟩) fun d3 => Ok.ret ⟨?_, fun h => ?_⟩))))
     ·have d3 := of_decide_eq_true d3
      have := (h n (by omega)).2 (by omega); omega
     ·omega
     ·have d3 := of_decide_eq_false d3; omega
    ·have d := of_decide_eq_false d; omega
    ·have d2 := of_decide_eq_false d2; omega
   ·cases o with
    | ex r => rw [Fl_ex]; exact Ok.ret (.inr ⟨by rw [ho.1], ho.2⟩)
    | nx j =>
     rw [Fl_nx]
     refine Ok.chk (in64_s (by omega) (by omega)) (Ok.ret ⟨⟨n + 1, rfl, by omega, by omega, fun j hj => ?_⟩, by omega⟩)
     by_cases e : j = n
     ·subst e; exact ho
     ·exact h4 j (by omega)
  ·have c : ¬ (n : Int) < l.length := of_decide_eq_false c
   exact Ok.ret (.inl ⟨rfl, fun j hj => h4 j (by omega)⟩)
 ·rcases hr with ⟨rfl, h⟩ | ⟨rfl, h⟩
  ·refine Ok.ret ?_
   rw [Bool.eq_iff_iff, decide_eq_true_eq, decide_eq_true_eq]
   exact ⟨fun h' => ⟨h, fun e => by simp [e] at h'⟩, fun h' => by have := List.length_pos_iff.2 h'.2; omega⟩
  ·refine Ok.ret ?_
   show false = _
   rw [eq_comm, decide_eq_false_iff_not]
   exact fun h' => h h'.1
open Classical in
theorem rkids_ok {x : GNode} (hc : x.cnt ≤ 1000) : F_1i x = some (decide (2 ≤ x.Kids.length ∧ x.Ranges = [] ∧ x.Min = 0 ∧ x.Max = 0 ∧ ∀ k ∈ x.Kids, k.Op ≠ x.Op)) := by
 have hkl := kids_cnt x
 refine Ok.eq ?_
 unfold F_1i
 refine Ok.bind (Ok.loop (Q := fun r => (r = .inl () ∧ ∀ k ∈ x.Kids, k.Op ≠ x.Op) ∨ (r = .inr false ∧ ∃ k ∈ x.Kids, k.Op = x.Op)) (fun i : Int => ∃ n : Nat, i = (n : Int) ∧ n ≤ x.Kids.length ∧ ∀ k ∈ x.Kids.take n, k.Op ≠ x.Op) (fun i => (x.Kids.length - i).toNat) (fun i hi => ?_) _ ⟨0, rfl, by omega, by simp⟩) fun r hr => ?_
 ·obtain ⟨n, rfl, h2, h4⟩ := hi
  unfold F_2h
  refine Ok.ite (fun c => ?_) fun c => ?_
  ·have c : (n : Int) < x.Kids.length := of_decide_eq_true c
   obtain ⟨k, hk, hg, ht⟩ := at_take (l := x.Kids) (n := n) (by omega)
   refine Ok.chk (inb_iff.2 ⟨by omega, c⟩) ?_
   rw [Int.toNat_natCast, hg]
   refine Ok.ite (fun d => Ok.ret (.inr ⟨rfl, k, hk, of_decide_eq_true d⟩)) fun d => Ok.chk (in64_s (by omega) (by omega)) (Ok.ret ⟨⟨n + 1, rfl, by omega, fun q hq => ?_⟩, by omega⟩)
   rw [ht] at hq
   rcases List.mem_append.1 hq with hq | hq
   ·exact h4 q hq
   ·cases List.mem_singleton.1 hq; exact of_decide_eq_false d
  ·have c : ¬ (n : Int) < x.Kids.length := of_decide_eq_false c
   have e : n = x.Kids.length := by omega
   subst e
   rw [List.take_length] at h4
   exact Ok.ret (.inl ⟨rfl, h4⟩)
 ·rcases hr with ⟨rfl, h⟩ | ⟨rfl, k, hk, h⟩
  ·refine Ok.grp (Ok.grp (Ok.grp (Ok.ret ?_)))
   rw [Bool.eq_iff_iff]
   simp only [Bool.and_eq_true, decide_eq_true_eq]
   constructor
   ·rintro ⟨⟨⟨h1, h2⟩, h3⟩, h4⟩
    exact ⟨by omega, List.length_eq_zero_iff.1 (by omega), h3, h4, h⟩
   ·rintro ⟨h1, h2, h3, h4, _⟩
    exact ⟨⟨⟨by omega, by simp [h2]⟩, h3⟩, h4⟩
  ·refine Ok.ret ?_
   show false = _
   rw [eq_comm, decide_eq_false_iff_not]
   rintro ⟨_, _, _, _, h'⟩
   exact h' k hk h
open Classical in
theorem rright_ok : ∀ (x : GNode) (m : Nat), x.hgt ≤ m → x.cnt ≤ 1000 → Ok (FR_g m x) (· = decide (Rgt x)) := by
 refine GNode.ind fun x ih m hm hc => ?_
 obtain ⟨m, rfl⟩ : ∃ n, m = n + 1 := ⟨m - 1, by have := hgt_pos x; omega⟩
 have hkl := kids_cnt x
 rw [FR_g]
 refine Ok.jn (P := fun b => b = decide (okN x)) ?_ fun b hb => ?_
 ·refine Ok.ite (fun c => ?_) fun c => ?_
  ·have c := of_decide_eq_true c
   rw [rranges_ok]
   refine Ok.grp (Ok.grp (Ok.grp (Ok.ret ?_)))
   rw [Bool.eq_iff_iff]
   simp only [Bool.and_eq_true, decide_eq_true_eq]
   unfold okN
   constructor
   ·rintro ⟨⟨⟨h1, h2⟩, h3⟩, h4⟩
    exact .inl ⟨c, h1.1, h1.2, List.length_eq_zero_iff.1 (by omega), h3, h4⟩
   ·rintro (h | ⟨h, _⟩ | ⟨h, _⟩)
    ·exact ⟨⟨⟨⟨h.2.1, h.2.2.1⟩, by simp [h.2.2.2.1]⟩, h.2.2.2.2.1⟩, h.2.2.2.2.2⟩
    ·omega
    ·omega
  ·have c := of_decide_eq_false c
   refine Ok.jn (P := fun y => y = decide (x.Op = 2 ∨ x.Op = 3)) ?_ fun y hy => ?_
   ·refine Ok.ite (fun c2 => Ok.ret ?_) fun c2 => Ok.ret ?_
    ·have c2 := of_decide_eq_true c2
     simp [c2]
    ·have c2 := of_decide_eq_false c2
     simp [c2]
   ·subst hy
    refine Ok.ite (fun c2 => ?_) fun c2 => Ok.ite (fun c3 => ?_) fun c3 => Ok.ret ?_
    ·have c2 := of_decide_eq_true c2
     rw [rkids_ok hc]
     refine Ok.ret (decide_eq_decide.2 ?_)
     unfold okN
     constructor
     ·exact fun h => .inr (.inl ⟨c2, h⟩)
     ·rintro (h | h | ⟨h, _⟩)
      ·exact absurd h.1 c
      ·exact h.2
      ·omega
    ·have c2 := of_decide_eq_false c2
     have c3 := of_decide_eq_true c3
     refine Ok.grp (Ok.grp (Ok.grp (Ok.grp (Ok.grp (Ok.grp (Ok.ret ?_))))))
     rw [Bool.eq_iff_iff]
     simp only [Bool.and_eq_true, decide_eq_true_eq, Bool.or_eq_true, Bool.not_eq_true', decide_eq_false_iff_not]
     unfold okN
     constructor
     ·rintro ⟨⟨⟨⟨⟨⟨h1, h2⟩, h3⟩, h4⟩, h5⟩, h6⟩, h7⟩
      exact .inr (.inr ⟨c3, by omega, List.length_eq_zero_iff.1 (by omega), h3, h4, h5, h6, by omega⟩)
     ·rintro (h | h | ⟨_, h1, h2, h3, h4, h5, h6, h7⟩)
      ·exact absurd h.1 c
      ·exact absurd h.1 c2
      ·exact ⟨⟨⟨⟨⟨⟨by omega, by simp [h2]⟩, h3⟩, h4⟩, h5⟩, h6⟩, by omega⟩
    ·have c2 := of_decide_eq_false c2
     have c3 := of_decide_eq_false c3
     rw [eq_comm, decide_eq_false_iff_not]
     rintro (h | h | h)
     ·exact c h.1
     ·exact c2 h.1
     ·exact c3 h.1
 ·subst hb
  refine Ok.bind (Ok.loop (Q := fun r => r = decide (Rgt x)) (fun s : Bool × Int => ∃ n : Nat, s.2 = (n : Int) ∧ n ≤ x.Kids.length ∧ s.1 = decide (okN x ∧ ∀ k ∈ x.Kids.take n, Rgt k)) (fun s => (x.Kids.length - s.2).toNat) (fun s hs => ?_) _ ⟨0, rfl, by omega, by simp⟩) fun r hr => Ok.ret hr
  obtain ⟨s, i⟩ := s
  obtain ⟨n, e, h2, h4⟩ := hs
  dsimp only at e h4
  subst e
  refine Ok.grp (Ok.ite (fun c => ?_) fun c => ?_)
  ·simp only [Bool.and_eq_true, decide_eq_true_eq] at c
   have hs : okN x ∧ ∀ k ∈ x.Kids.take n, Rgt k := by rw [c.2] at h4; exact of_decide_eq_true h4.symm
   obtain ⟨k, hk, hg, ht⟩ := at_take (l := x.Kids) (n := n) (by omega)
   refine Ok.chk (inb_iff.2 ⟨by dsimp only; omega, by dsimp only; omega⟩) ?_
   dsimp only
   rw [Int.toNat_natCast, hg]
   refine Ok.bind (ih k hk m (by have := kid_hgt hk; omega) (by have := kid_cnt hk; omega)) fun y hy => Ok.chk (in64_s (by omega) (by omega)) (Ok.ret ⟨⟨n + 1, rfl, by omega, ?_⟩, by dsimp only; omega⟩)
   dsimp only
   rw [hy, ht, decide_eq_decide]
   constructor
   ·intro h
    refine ⟨hs.1, fun q hq => ?_⟩
    rcases List.mem_append.1 hq with hq | hq
    ·exact hs.2 q hq
    ·cases List.mem_singleton.1 hq; exact h
   ·exact fun h => h.2 k (by simp)
  ·refine Ok.ret ?_
   show s = _
   by_cases e : s = true
   ·have : ¬ (n : Int) < x.Kids.length := fun h => by simp [h, e] at c
    have en : n = x.Kids.length := by omega
    subst en
    rw [List.take_length] at h4
    rw [h4, decide_eq_decide]
    exact ⟨fun h => .mk x h.1 h.2, fun h => ⟨h.ok, fun k hk => h.kid hk⟩⟩
   ·have e : s = false := by simpa using e
    rw [e] at h4 ⊢
    have h4 := of_decide_eq_false h4.symm
    rw [eq_comm, decide_eq_false_iff_not]
    exact fun h => h4 ⟨h.ok, fun k hk => h.kid (List.mem_of_mem_take hk)⟩
open Classical in
theorem rright_eq {x : GNode} (hc : x.cnt ≤ 1000) : F_g x = some (decide (Rgt x)) := lim_of ⟨x.hgt, fun m hm => (rright_ok x m hm hc).eq⟩
end Go.Ab
namespace Go.Ab
open Go.Proofs
def szF (x : GNode) (most : Bool) : Int := bif most then x.lon else x.sho
theorem rsize_ok (most : Bool) : ∀ (x : GNode) (m : Nat), x.hgt ≤ m → Rgt x → x.cnt ≤ 1000 → (most = false → PV x) → Ok (FR_5 m x most) (· = szF x most) := by
 refine GNode.ind fun x ih m hm hx hc hv => ?_
 obtain ⟨m, rfl⟩ : ∃ n, m = n + 1 := ⟨m - 1, by have := hgt_pos x; omega⟩
 have hkl := kids_cnt x
 have hrec : ∀ k ∈ x.Kids, Ok (FR_5 m k most) (· = szF k most) := fun k hk => ih k hk m (by have := kid_hgt hk; omega) (hx.kid hk) (by have := kid_cnt hk; omega) fun h => (hv h).kid hk
 have hkr : ∀ k ∈ x.Kids, 0 ≤ szF k most ∧ szF k most ≤ 1025 := fun k hk => by
  have := lon_rng k (hx.kid hk)
  cases most with
  | true => show 0 ≤ k.lon ∧ k.lon ≤ 1025; omega
  | false => have := sho_rng k ((hv rfl).kid hk); show 0 ≤ k.sho ∧ k.sho ≤ 1025; omega
 have hval : szF x most = min (if x.Op = 1 then 1 else if x.Op = 2 then sumI (x.Kids.map (szF · most)) else if x.Op = 3 then (bif most then maxI (x.Kids.map (szF · most)) else minI ((x.Kids.map (szF · most)).headD 0) (x.Kids.map (szF · most))) else (bif most then x.Max else x.Min) * (x.Kids.map (szF · most)).headD 0) 1025 := by
  cases most with
  | true => exact lon_eq x
  | false =>
   have h1 := sho_eq x
   have h2 := sho_rng x (hv rfl)
   have h3 := (hv rfl).lon
   show x.sho = min (if x.Op = 1 then 1 else if x.Op = 2 then sumI (x.Kids.map GNode.sho) else if x.Op = 3 then minI ((x.Kids.map GNode.sho).headD 0) (x.Kids.map GNode.sho) else x.Min * (x.Kids.map GNode.sho).headD 0) 1025
   rw [← h1]; omega
 rw [FR_5]
 refine Ok.jn (P := fun o => Fl.elim (fun j : Int => szF x most = min j 1025) (fun r => szF x most = r) o) ?_ fun o ho => ?_
 ·refine Ok.ite (fun c => Ok.ret ?_) fun c => ?_
  ·rw [if_pos (of_decide_eq_true c)] at hval
   show szF x most = 1
   rw [hval]; omega
  ·have c := of_decide_eq_false c
   rw [if_neg c] at hval
   refine Ok.ite (fun c2 => ?_) fun c2 => ?_
   ·rw [if_pos (of_decide_eq_true c2)] at hval
    refine Ok.bind (Ok.loop (Q := fun r => r = sumI (x.Kids.map (szF · most))) (fun s : Int × Int => ∃ n : Nat, s.2 = (n : Int) ∧ n ≤ x.Kids.length ∧ s.1 = sumI ((x.Kids.take n).map (szF · most))) (fun s => (x.Kids.length - s.2).toNat) (fun s hs => ?_) _ ⟨0, rfl, by omega, by simp [sumI]⟩) fun r hr => Ok.ret (by show szF x most = min r 1025; rw [hr]; exact hval)
    obtain ⟨s, i⟩ := s
    obtain ⟨n, e, h2, h4⟩ := hs
    dsimp only at e h4
    subst e
    refine Ok.ite (fun d => ?_) fun d => ?_
    ·have d : (n : Int) < x.Kids.length := of_decide_eq_true d
     obtain ⟨k, hk, hg, ht⟩ := at_take (l := x.Kids) (n := n) (by omega)
     have hs := (sum_rng (f := (szF · most)) (c := 1025) (l := x.Kids.take n) fun q hq => hkr q (List.mem_of_mem_take hq))
     have hl : (x.Kids.take n).length ≤ 1000 := by rw [List.length_take]; omega
     have := hkr k hk
     refine Ok.chk (inb_iff.2 ⟨by dsimp only; omega, d⟩) ?_
     dsimp only
     rw [Int.toNat_natCast, hg]
     refine Ok.bind (hrec k hk) fun y hy => Ok.chk (in64_s (by omega) (by omega)) (Ok.chk (in64_s (by omega) (by omega)) (Ok.ret ⟨⟨n + 1, rfl, by omega, ?_⟩, by dsimp only; omega⟩))
     dsimp only
     rw [ht, List.map_append, sumI_append, hy, h4]; simp [sumI]
    ·have d : ¬ (n : Int) < x.Kids.length := of_decide_eq_false d
     have e : n = x.Kids.length := by omega
     subst e
     rw [List.take_length] at h4
     exact Ok.ret h4
   ·have c2 := of_decide_eq_false c2
    rw [if_neg c2] at hval
    refine Ok.ite (fun c3 => ?_) fun c3 => ?_
    ·have c3 := of_decide_eq_true c3
     rw [if_pos c3] at hval
     have h2 : 2 ≤ x.Kids.length := by rcases hx.kinds with h | h | h | h <;> first | exact h.2 | omega
     obtain ⟨q, r, hq⟩ : ∃ q r, x.Kids = q :: r := by
      cases hkk : x.Kids with
      | nil => rw [hkk] at h2; simp at h2
      | cons q r => exact ⟨q, r, rfl⟩
     have hqm : q ∈ x.Kids := by rw [hq]; simp
     have e2 : x.Kids.getD 0 default = q := by rw [hq]; rfl
     rw [e2]
     have hq0 := hkr q hqm
     refine Ok.chk (inb_iff.2 ⟨by omega, by omega⟩) (Ok.bind (hrec q hqm) fun y hy => ?_)
     refine Ok.bind (Ok.loop (Q := fun t => t = (bif most then maxI (x.Kids.map (szF · most)) else minI (szF q most) (x.Kids.map (szF · most)))) (fun s : Int × Int => ∃ n : Nat, 1 ≤ n ∧ s.2 = (n : Int) ∧ n ≤ x.Kids.length ∧ s.1 = (bif most then maxI ((x.Kids.take n).map (szF · most)) else minI (szF q most) ((x.Kids.take n).map (szF · most)))) (fun s => (x.Kids.length - s.2).toNat) (fun s hs => ?_) _ ⟨1, by omega, rfl, by omega, ?_⟩) fun r' hr => Ok.ret ?_
     ·obtain ⟨s, i⟩ := s
      obtain ⟨n, h1, e, h2, h4⟩ := hs
      dsimp only at e h4
      subst e
      refine Ok.ite (fun d => ?_) fun d => ?_
      ·have d : (n : Int) < x.Kids.length := of_decide_eq_true d
       obtain ⟨k, hk, hg, ht⟩ := at_take (l := x.Kids) (n := n) (by omega)
       have hk0 := hkr k hk
       refine Ok.jn (P := fun z => z = (bif most then max s (szF k most) else min s (szF k most))) ?_ fun z hz => ?_
       ·refine Ok.chk (inb_iff.2 ⟨by dsimp only; omega, d⟩) ?_
        dsimp only
        rw [Int.toNat_natCast, hg]
        refine Ok.bind (hrec k hk) fun v hv' => Ok.grp (Ok.grp (Ok.ite (fun f => Ok.ret ?_) fun f => Ok.ret ?_))
        ·cases most with
         | true => simp at f; simp; omega
         | false => simp at f; simp; omega
        ·cases most with
         | true => simp at f; simp; omega
         | false => simp at f; simp; omega
       ·refine Ok.chk (in64_s (by dsimp only; omega) (by dsimp only; omega)) (Ok.ret ⟨⟨n + 1, by omega, rfl, by omega, ?_⟩, by dsimp only; omega⟩)
        dsimp only
        rw [hz, ht, h4, List.map_append]
        cases most with
        | true =>
         simp only [cond_true]
         rw [maxI_append _ _ (fun y hy => by obtain ⟨z, hz, rfl⟩ := List.mem_map.1 hy; exact (hkr z (List.mem_of_mem_take hz)).1) (fun y hy => by simp at hy; subst hy; exact hk0.1)]
         simp only [List.map_cons, List.map_nil, maxI]; omega
        | false =>
         simp only [cond_false]
         rw [minI_append]; rfl
      ·have d : ¬ (n : Int) < x.Kids.length := of_decide_eq_false d
       have e : n = x.Kids.length := by omega
       subst e
       rw [List.take_length] at h4
       exact Ok.ret h4
     ·dsimp only
      rw [hy, hq]
      cases most with
      | true => simp [maxI]; omega
      | false => simp [minI]
     ·show szF x most = min r' 1025
      rw [hr, hval]
      have : (x.Kids.map (szF · most)).headD 0 = szF q most := by rw [hq]; rfl
      rw [this]
    ·have c3 := of_decide_eq_false c3
     rw [if_neg c3] at hval
     obtain ⟨k, h2, h3, h4, h5, h6⟩ : ∃ k, x.Kids = [k] ∧ 0 ≤ x.Min ∧ 1 ≤ x.Max ∧ x.Min ≤ x.Max ∧ x.Max ≤ 64 := by
      rcases hx.kinds with h | h | h | ⟨_, ⟨k, h⟩, h2⟩
      ·omega
      ·omega
      ·omega
      ·exact ⟨k, h, h2⟩
     have hk : k ∈ x.Kids := by rw [h2]; simp
     have hg : x.Kids.getD 0 default = k := by rw [h2]; rfl
     have hk0 := hkr k hk
     refine Ok.jn (P := fun j => j = (bif most then x.Max else x.Min)) (by cases most <;> exact Ok.ret rfl) fun j hj => ?_
     have hj2 : 0 ≤ j ∧ j ≤ 64 := by rw [hj]; cases most <;> simp <;> omega
     have m1 : 0 ≤ j * szF k most := Int.mul_nonneg hj2.1 hk0.1
     have m2 : j * szF k most ≤ 64 * 1025 := Int.mul_le_mul hj2.2 hk0.2 hk0.1 (by omega)
     rw [hg]
     refine Ok.chk (inb_iff.2 ⟨by omega, by rw [h2]; simp⟩) (Ok.bind (hrec k hk) fun y hy => ?_)
     subst hy
     refine Ok.chk (in64_s (by omega) (by omega)) (Ok.ret ?_)
     show szF x most = min (j * szF k most) 1025
     rw [hval, h2, hj]; rfl
 ·cases o with
  | nx j => rw [Fl_nx]; exact Ok.ret ho.symm
  | ex r => rw [Fl_ex]; exact Ok.ret ho.symm
theorem rsize_lon {x : GNode} (hx : Rgt x) (hc : x.cnt ≤ 1000) : F_5 x true = some x.lon := lim_of ⟨x.hgt, fun m hm => (rsize_ok true x m hm hx hc fun h => by cases h).eq⟩
open Classical in
theorem rvalid_eq (x : GNode) : F_1j x = some x.err := by
 refine Ok.eq ?_
 unfold F_1j GNode.err
 rw [rnodes_eq]
 refine Ok.bind (P := fun y => y = min x.cnt 201) ⟨_, rfl, rfl⟩ fun y hy => ?_
 subst hy
 refine Ok.ite (fun c => Ok.ret (by rw [if_pos (by have := of_decide_eq_true c; omega)])) fun c => ?_
 have c := of_decide_eq_false c
 rw [if_neg (by omega), rdepth_eq (by omega)]
 refine Ok.bind (P := fun y => y = (x.hgt : Int)) ⟨_, rfl, rfl⟩ fun y hy => ?_
 subst hy
 refine Ok.ite (fun c => Ok.ret (by rw [if_pos (by have := of_decide_eq_true c; omega)])) fun c2 => ?_
 have c2 := of_decide_eq_false c2
 rw [if_neg (by omega), rright_eq (by omega)]
 refine Ok.bind (P := fun y => y = decide (Rgt x)) ⟨_, rfl, rfl⟩ fun y hy => ?_
 subst hy
 refine Ok.ite (fun c => Ok.ret (by rw [if_pos (by simpa using c)])) fun c3 => ?_
 have c3 : Rgt x := by simpa using c3
 rw [if_neg (fun h => h c3), rsize_lon c3 (by omega)]
 refine Ok.bind (P := fun y => y = x.lon) ⟨_, rfl, rfl⟩ fun y hy => ?_
 subst hy
 refine Ok.ite (fun c => Ok.ret (by rw [if_pos (of_decide_eq_true c)])) fun c => Ok.ret (by rw [if_neg (of_decide_eq_false c)])
theorem size_mono : ∀ n (x : GNode), Le (FR_4 n x) (FR_4 (n + 1) x)
 | 0, x => by simp only [FR_4]; exact Le.non
 | n + 1, x => by
  have ih := size_mono n
  rw [FR_4, FR_4]
  (repeat' (with_reducible first | exact Le.refl | assumption | (refine Le.bind ?_ fun _ => ?_) | (refine Le.jn ?_ fun _ => ?_) | (refine Le.grp fun _ => ?_) | (refine Le.chk ?_) | (refine Le.cond ?_ ?_) | (refine Le.fl (fun _ => ?_) fun _ => ?_) | (refine Le.sum (fun _ => ?_) fun _ => ?_) | (refine Le.loopL fun _ => ?_)))
  all_goals exact ih _
theorem size_ok : ∀ (x : GNode) (m : Nat), x.hgt ≤ m → Ok (FR_4 m x) fun r => 1 ≤ r ∧ r ≤ 1000 := by
 refine GNode.ind fun x ih m hm => ?_
 obtain ⟨m, rfl⟩ : ∃ n, m = n + 1 := ⟨m - 1, by have := hgt_pos x; omega⟩
 rw [FR_4]
 refine Ok.bind (Ok.loop (Q := fun r => 1 ≤ r ∧ r ≤ 1000) (fun s : Int × Int => 1 ≤ s.1 ∧ s.1 ≤ 1000 ∧ 0 ≤ s.2 ∧ (s.2 < s.1 ∨ s.1 = 1000)) (fun s => (x.Kids.length - s.2).toNat) (fun s hs => ?_) _ ⟨by omega, by omega, by omega, by dsimp only; omega⟩) fun r hr => Ok.ite (fun c => ?_) fun c => Ok.ret hr
 ·obtain ⟨s, i⟩ := s
  obtain ⟨h1, h2, h3, h4⟩ := hs
  dsimp only at h1 h2 h3 h4
  refine Ok.grp (Ok.ite (fun c => ?_) fun c => Ok.ret ⟨h1, h2⟩)
  simp only [Bool.and_eq_true, decide_eq_true_eq] at c
  have hlt : i.toNat < x.Kids.length := by omega
  have hmem : x.Kids.getD i.toNat default ∈ x.Kids := by rw [List.getD_eq_getElem?_getD, List.getElem?_eq_getElem hlt]; exact List.getElem_mem hlt
  refine Ok.chk (inb_iff.2 ⟨h3, c.1⟩) (Ok.bind (ih _ hmem m (by have := kid_hgt hmem; omega)) fun y hy => Ok.chk (in64_s (by dsimp only; omega) (by dsimp only; omega)) (Ok.chk (in64_s (by dsimp only; omega) (by dsimp only; omega)) (Ok.ret ⟨⟨by dsimp only; omega, by dsimp only; omega, by dsimp only; omega, by dsimp only; omega⟩, by dsimp only; omega⟩)))
 ·have c := of_decide_eq_true c
  have h1 : 1 * 1 ≤ r * min x.Max 1000 := Int.mul_le_mul hr.1 (by omega) (by omega) (by omega)
  have h2 : r * min x.Max 1000 ≤ 1000 * 1000 := Int.mul_le_mul hr.2 (by omega) (by omega) (by omega)
  exact Ok.chk (in64_s (by omega) (by omega)) (Ok.ret ⟨by omega, by omega⟩)
theorem few_ok (x : GNode) : Ok (F_1k x) fun _ => True := by
 unfold F_1k
 refine Ok.bind (Ok.lim (f := fun n => FR_4 n x) (fun n => size_mono n x) x.hgt (size_ok x x.hgt (Nat.le_refl _))) fun y _ => Ok.jn (P := fun _ => True) (Ok.ite (fun _ => ?_) fun _ => Ok.ret trivial) fun _ _ => Ok.ret trivial
 rw [rnodes_eq]
 exact Ok.ret trivial
end Go.Ab
namespace Go.Ab
open Go.Proofs
open Classical in
theorem rin_eq {l : List GRange} {c : UInt8} (hl : l.length ≤ 1000) : F_1p l c = some (decide (inRs l c)) := by
 refine Ok.eq ?_
 unfold F_1p
 refine Ok.bind (Ok.loop (Q := fun r => (r = .inl () ∧ ¬ inRs l c) ∨ (r = .inr true ∧ inRs l c)) (fun i : Int => ∃ n : Nat, i = (n : Int) ∧ n ≤ l.length ∧ ¬ inRs (l.take n) c) (fun i => (l.length - i).toNat) (fun i hi => ?_) _ ⟨0, rfl, by omega, by simp [inRs]⟩) fun r hr => ?_
 ·obtain ⟨n, rfl, h2, h3⟩ := hi
  unfold F_2j
  refine Ok.ite (fun d => ?_) fun d => ?_
  ·have d : (n : Int) < l.length := of_decide_eq_true d
   obtain ⟨k, hk, hg, ht⟩ := at_take (l := l) (n := n) (by omega)
   have e0 : (n : Int).toNat = n := Int.toNat_natCast n
   rw [e0, hg]
   refine Ok.chk (inb_iff.2 ⟨by omega, d⟩) (Ok.jn (P := fun v => v = decide (k.Low.toNat ≤ c.toNat ∧ c.toNat ≤ k.High.toNat)) (Ok.ite (fun f => Ok.chk (inb_iff.2 ⟨by omega, d⟩) (Ok.ret ?_)) fun f => Ok.ret ?_) fun v hv => ?_)
   ·have f := of_decide_eq_true f
    rw [decide_eq_decide]; omega
   ·have f := of_decide_eq_false f
    rw [eq_comm, decide_eq_false_iff_not]; omega
   ·subst hv
    refine Ok.ite (fun f => Ok.ret (.inr ⟨rfl, k, hk, of_decide_eq_true f⟩)) fun f => Ok.chk (in64_s (by omega) (by omega)) (Ok.ret ⟨⟨n + 1, rfl, by omega, ?_⟩, by omega⟩)
    have f : ¬ (k.Low.toNat ≤ c.toNat ∧ c.toNat ≤ k.High.toNat) := by simpa using f
    rw [ht]
    rintro ⟨r, hr, h⟩
    rcases List.mem_append.1 hr with hr | hr
    ·exact h3 ⟨r, hr, h⟩
    ·cases List.mem_singleton.1 hr; exact f h
  ·have d : ¬ (n : Int) < l.length := of_decide_eq_false d
   have e : n = l.length := by omega
   subst e
   rw [List.take_length] at h3
   exact Ok.ret (.inl ⟨rfl, h3⟩)
 ·rcases hr with ⟨rfl, h⟩ | ⟨rfl, h⟩
  ·exact Ok.ret (by show false = _; rw [eq_comm, decide_eq_false_iff_not]; exact h)
  ·exact Ok.ret (by show true = _; rw [eq_comm, decide_eq_true_eq]; exact h)
theorem union_ok {a b : List Bool} (hl : a.length = b.length) (hn : b.length ≤ 100000) : Ok (F_17 a b) fun o => o.length = a.length ∧ ∀ j, At o j ↔ At a j ∨ At b j := by
 unfold F_17
 rw [Int.toNat_natCast]
 refine Ok.chk (roomI_iff.2 ⟨by omega, by omega, by omega⟩) (Ok.bind (Ok.loop (Q := fun o => o.length = a.length ∧ ∀ j, At o j ↔ At a j ∨ At b j) (fun s : Int × List Bool => ∃ n : Nat, s.1 = (n : Int) ∧ n ≤ a.length ∧ s.2.length = a.length ∧ ∀ j, At s.2 j ↔ j < n ∧ (At a j ∨ At b j)) (fun s => (a.length - s.1).toNat) (fun s hs => ?_) _ ⟨0, rfl, by omega, by simp, fun j => ⟨fun h => absurd h (At_repl _ _), fun h => by omega⟩⟩) fun r hr => Ok.ret hr)
 obtain ⟨i, o⟩ := s
 obtain ⟨n, e, h2, h3, h4⟩ := hs
 dsimp only at e h3 h4
 subst e
 unfold F_2k
 dsimp only
 have e0 : (n : Int).toNat = n := Int.toNat_natCast n
 rw [e0]
 refine Ok.ite (fun d => ?_) fun d => ?_
 ·have d : (n : Int) < a.length := of_decide_eq_true d
  refine Ok.chk (inb_iff.2 ⟨by omega, d⟩) (Ok.jn (P := fun v => v = true ↔ (At a n ∨ At b n)) (Ok.ite (fun f => Ok.ret ⟨fun _ => .inl f, fun _ => rfl⟩) fun f => Ok.chk (inb_iff.2 ⟨by omega, by omega⟩) (Ok.ret ⟨fun h => .inr h, fun h => ?_⟩)) fun v hv => ?_)
  ·rcases h with h | h
   ·unfold At at h; rw [f] at h; cases h
   ·exact h
  ·refine Ok.chk (inb_iff.2 ⟨by omega, by omega⟩) (Ok.chk (in64_s (by omega) (by omega)) (Ok.ret ⟨⟨n + 1, rfl, by omega, by simp [h3], fun j => ?_⟩, by dsimp only; omega⟩))
   dsimp only
   rw [At_set (by omega)]
   by_cases e : j = n
   ·subst e
    rw [if_pos rfl, hv]
    exact ⟨fun h => ⟨by omega, h⟩, fun h => h.2⟩
   ·rw [if_neg e, h4]
    exact ⟨fun h => ⟨by omega, h.2⟩, fun h => ⟨by omega, h.2⟩⟩
 ·have d : ¬ (n : Int) < a.length := of_decide_eq_false d
  refine Ok.ret ⟨h3, fun j => ?_⟩
  show At o j ↔ _
  rw [h4]
  refine ⟨fun h => h.2, fun h => ⟨?_, h⟩⟩
  rcases h with h | h
  ·have := At_lt h; omega
  ·have := At_lt h; omega
open Classical in
theorem step_ok {b : List UInt8} (hb : b.length ≤ 1024) : ∀ (x : GNode) (m : Nat) (fr : List Bool), x.hgt ≤ m → Rgt x → x.cnt ≤ 1000 → fr.length = b.length + 1 → Ok (FR_7 m x b fr) fun o => o.length = b.length + 1 ∧ ∀ j, At o j ↔ ∃ i, At fr i ∧ x.stp b i j := by
 refine GNode.ind fun x ih m fr hm hx hcn hfr => ?_
 obtain ⟨m, rfl⟩ : ∃ n, m = n + 1 := ⟨m - 1, by have := hgt_pos x; omega⟩
 have hrec : ∀ k ∈ x.Kids, ∀ fr : List Bool, fr.length = b.length + 1 → Ok (FR_7 m k b fr) fun o => o.length = b.length + 1 ∧ ∀ j, At o j ↔ ∃ i, At fr i ∧ k.stp b i j := fun k hk fr h => ih k hk m fr (by have := kid_hgt hk; omega) (hx.kid hk) (by have := kid_cnt hk; omega) h
 have hkl := kids_cnt x
 have e1 : ((b.length : Int) + 1).toNat = b.length + 1 := by omega
 rw [FR_7, e1]
 refine Ok.chk (in64_s (by omega) (by omega)) (Ok.chk (roomI_iff.2 ⟨by omega, by omega, by omega⟩) (Ok.ite (fun c => ?_) fun c => Ok.ite (fun c2 => ?_) fun c2 => Ok.ite (fun c3 => ?_) fun c3 => ?_))
 ·have c := of_decide_eq_true c
  have hrl : x.Ranges.length ≤ 1000 := by
   have : rngP x.Ranges := by rcases hx.kinds with h | h | h | h <;> first | exact h.2.1 | omega
   have := rng_len this; omega
  refine Ok.bind (Ok.loop (Q := fun o => o.length = b.length + 1 ∧ ∀ j, At o j ↔ ∃ i, At fr i ∧ x.stp b i j) (fun s : Int × List Bool => ∃ n : Nat, s.1 = (n : Int) ∧ n ≤ b.length ∧ s.2.length = b.length + 1 ∧ ∀ j, At s.2 j ↔ ∃ i, i < n ∧ At fr i ∧ x.stp b i j) (fun s => (b.length - s.1).toNat) (fun s hs => ?_) _ ⟨0, rfl, by omega, by simp, fun j => ⟨fun h => absurd h (At_repl _ _), fun ⟨i, h, _⟩ => by omega⟩⟩) fun r hr => Ok.ret hr
  obtain ⟨i, o⟩ := s
  obtain ⟨n, e, h2, h3, h4⟩ := hs
  dsimp only at e h3 h4
  subst e
  have e0 : (n : Int).toNat = n := Int.toNat_natCast n
  have e2 : ((n : Int) + 1).toNat = n + 1 := by omega
  dsimp only
  rw [e0, e2]
  refine Ok.ite (fun d => ?_) fun d => ?_
  ·have d : (n : Int) < b.length := of_decide_eq_true d
   have hlt : n < b.length := by omega
   obtain ⟨a, _, hg, _⟩ := at_take (l := b) (n := n) hlt
   have hge : b[n]? = some a := by rw [List.getElem?_eq_getElem hlt]; rw [List.getD_eq_getElem?_getD, List.getElem?_eq_getElem hlt] at hg; exact congrArg some hg
   rw [hg]
   have hst : ∀ i j, x.stp b i j ↔ ∃ c, b[i]? = some c ∧ inRs x.Ranges c ∧ j = i + 1 := fun i j => stp_set c
   have key : ∀ v : Bool, (v = true ↔ At fr n ∧ inRs x.Ranges a) → ∀ j, At (o.set (n + 1) v) j ↔ ∃ i, i < n + 1 ∧ At fr i ∧ x.stp b i j := by
    intro v hv j
    rw [At_set (by omega)]
    by_cases e : j = n + 1
    ·subst e
     rw [if_pos rfl, hv]
     constructor
     ·rintro ⟨h1, h2⟩
      exact ⟨n, by omega, h1, (hst _ _).2 ⟨a, hge, h2, rfl⟩⟩
     ·rintro ⟨i, h1, g2, g3⟩
      obtain ⟨c', g4, g5, g6⟩ := (hst _ _).1 g3
      have : i = n := by omega
      subst this
      rw [hge] at g4; cases g4
      exact ⟨g2, g5⟩
    ·rw [if_neg e, h4]
     constructor
     ·rintro ⟨i, h1, h2, h3⟩
      exact ⟨i, by omega, h2, h3⟩
     ·rintro ⟨i, h1, h2, h3⟩
      obtain ⟨c', h4, h5, h6⟩ := (hst _ _).1 h3
      exact ⟨i, by omega, h2, h3⟩
   refine Ok.jn (P := fun z : List Bool => z.length = b.length + 1 ∧ ∀ j, At z j ↔ ∃ i, i < n + 1 ∧ At fr i ∧ x.stp b i j) (Ok.chk (in64_s (by omega) (by omega)) (Ok.chk (inb_iff.2 ⟨by omega, by omega⟩) (Ok.ite (fun f => ?_) fun f => ?_))) fun z hz => ?_
   ·rw [rin_eq hrl]
    refine Ok.chk (inb_iff.2 ⟨by omega, d⟩) (Ok.chk (inb_iff.2 ⟨by omega, by omega⟩) (Ok.ret ⟨by simp [h3], key _ ?_⟩))
    exact ⟨fun h => ⟨f, of_decide_eq_true h⟩, fun h => decide_eq_true h.2⟩
   ·refine Ok.chk (inb_iff.2 ⟨by omega, by omega⟩) (Ok.ret ⟨by simp [h3], key _ ⟨fun h => (by cases h), fun h => ?_⟩⟩)
    have := h.1; unfold At at this; rw [f] at this; cases this
   ·exact Ok.chk (in64_s (by omega) (by omega)) (Ok.ret ⟨⟨n + 1, rfl, by omega, hz.1, hz.2⟩, by dsimp only; omega⟩)
  ·have d : ¬ (n : Int) < b.length := of_decide_eq_false d
   refine Ok.ret ⟨h3, fun j => ?_⟩
   show At o j ↔ _
   rw [h4]
   constructor
   ·rintro ⟨i, h1, h2, h3⟩
    exact ⟨i, h2, h3⟩
   ·rintro ⟨i, h2, h3⟩
    obtain ⟨c', h4, h5, h6⟩ := (stp_set c).1 h3
    refine ⟨i, ?_, h2, h3⟩
    by_cases hlt : i < b.length
    ·omega
    ·rw [List.getElem?_eq_none (by omega)] at h4; cases h4
 ·have c2 := of_decide_eq_true c2
  refine Ok.bind (Ok.loop (Q := fun o => o.length = b.length + 1 ∧ ∀ j, At o j ↔ ∃ i, At fr i ∧ x.stp b i j) (fun s : List Bool × Int => ∃ n : Nat, s.2 = (n : Int) ∧ n ≤ x.Kids.length ∧ s.1.length = b.length + 1 ∧ ∀ j, At s.1 j ↔ ∃ i, At fr i ∧ seqR ((x.Kids.take n).map (GNode.stp b)) i j) (fun s => (x.Kids.length - s.2).toNat) (fun s hs => ?_) _ ⟨0, rfl, by omega, hfr, fun j => ⟨fun h => ⟨j, h, rfl⟩, fun ⟨i, h, e⟩ => e ▸ h⟩⟩) fun r hr => Ok.ret hr
  obtain ⟨s, i⟩ := s
  obtain ⟨n, e, h2, h3, h4⟩ := hs
  dsimp only at e h3 h4
  subst e
  have e0 : (n : Int).toNat = n := Int.toNat_natCast n
  dsimp only
  rw [e0]
  refine Ok.ite (fun d => ?_) fun d => ?_
  ·have d : (n : Int) < x.Kids.length := of_decide_eq_true d
   obtain ⟨k, hk, hg, ht⟩ := at_take (l := x.Kids) (n := n) (by omega)
   rw [hg]
   refine Ok.chk (inb_iff.2 ⟨by omega, d⟩) (Ok.bind (hrec k hk s h3) fun y hy => Ok.chk (in64_s (by omega) (by omega)) (Ok.ret ⟨⟨n + 1, rfl, by omega, hy.1, fun j => ?_⟩, by dsimp only; omega⟩))
   dsimp only
   rw [hy.2, ht, List.map_append]
   simp only [List.map_cons, List.map_nil, seqR_snoc, h4]
   exact ⟨fun ⟨q, ⟨i, h1, h2⟩, h3⟩ => ⟨i, h1, q, h2, h3⟩, fun ⟨i, h1, q, h2, h3⟩ => ⟨q, ⟨i, h1, h2⟩, h3⟩⟩
  ·have d : ¬ (n : Int) < x.Kids.length := of_decide_eq_false d
   have e : n = x.Kids.length := by omega
   subst e
   rw [List.take_length] at h4
   exact Ok.ret ⟨h3, fun j => by show At s j ↔ _; rw [h4]; exact exists_congr fun i => and_congr_right fun _ => (stp_seq c2).symm⟩
 ·have c3 := of_decide_eq_true c3
  refine Ok.bind (Ok.loop (Q := fun o => o.length = b.length + 1 ∧ ∀ j, At o j ↔ ∃ i, At fr i ∧ x.stp b i j) (fun s : List Bool × Int => ∃ n : Nat, s.2 = (n : Int) ∧ n ≤ x.Kids.length ∧ s.1.length = b.length + 1 ∧ ∀ j, At s.1 j ↔ ∃ i, At fr i ∧ ∃ k ∈ x.Kids.take n, k.stp b i j) (fun s => (x.Kids.length - s.2).toNat) (fun s hs => ?_) _ ⟨0, rfl, by omega, by simp, fun j => ⟨fun h => absurd h (At_repl _ _), fun ⟨i, _, k, h, _⟩ => by simp at h⟩⟩) fun r hr => Ok.ret hr
  obtain ⟨s, i⟩ := s
  obtain ⟨n, e, h2, h3, h4⟩ := hs
  dsimp only at e h3 h4
  subst e
  have e0 : (n : Int).toNat = n := Int.toNat_natCast n
  dsimp only
  rw [e0]
  refine Ok.ite (fun d => ?_) fun d => ?_
  ·have d : (n : Int) < x.Kids.length := of_decide_eq_true d
   obtain ⟨k, hk, hg, ht⟩ := at_take (l := x.Kids) (n := n) (by omega)
   rw [hg]
   refine Ok.chk (inb_iff.2 ⟨by omega, d⟩) (Ok.bind (hrec k hk fr hfr) fun y hy => Ok.bind (union_ok (a := s) (b := y) (by omega) (by omega)) fun z hz => Ok.chk (in64_s (by omega) (by omega)) (Ok.ret ⟨⟨n + 1, rfl, by omega, (show z.length = b.length + 1 by omega), fun j => ?_⟩, by dsimp only; omega⟩))
   dsimp only
   rw [hz.2, h4, hy.2, ht]
   constructor
   ·rintro (⟨i, h1, k', h2, h3⟩ | ⟨i, h1, h2⟩)
    ·exact ⟨i, h1, k', by simp [h2], h3⟩
    ·exact ⟨i, h1, k, by simp, h2⟩
   ·rintro ⟨i, h1, k', h2, h3⟩
    rcases List.mem_append.1 h2 with h2 | h2
    ·exact .inl ⟨i, h1, k', h2, h3⟩
    ·cases List.mem_singleton.1 h2
     exact .inr ⟨i, h1, h3⟩
  ·have d : ¬ (n : Int) < x.Kids.length := of_decide_eq_false d
   have e : n = x.Kids.length := by omega
   subst e
   rw [List.take_length] at h4
   exact Ok.ret ⟨h3, fun j => by show At s j ↔ _; rw [h4]; exact exists_congr fun i => and_congr_right fun _ => (stp_alt c3).symm⟩
 ·have c := of_decide_eq_false c
  have c2 := of_decide_eq_false c2
  have c3 := of_decide_eq_false c3
  have h4 : x.Op = 4 := by rcases hx.kinds with h | h | h | h <;> omega
  obtain ⟨k, hk, h5, h6, h7, h8⟩ : (∃ k, x.Kids = [k] ∧ 0 ≤ x.Min ∧ 1 ≤ x.Max ∧ x.Min ≤ x.Max ∧ x.Max ≤ 64) := by
   rcases hx.kinds with h | h | h | ⟨_, ⟨k, h⟩, h2⟩
   ·omega
   ·omega
   ·omega
   ·exact ⟨k, h, h2⟩
  have hkm : k ∈ x.Kids := by rw [hk]; simp
  have hg : x.Kids.getD 0 default = k := by rw [hk]; rfl
  rw [hg]
  refine Ok.bind (Ok.loop (Q := fun o => o.length = b.length + 1 ∧ ∀ j, At o j ↔ ∃ i, At fr i ∧ x.stp b i j) (fun s : List Bool × List Bool × Int => ∃ n : Nat, s.2.2 = (n : Int) ∧ (n : Int) ≤ x.Max + 1 ∧ s.1.length = b.length + 1 ∧ s.2.1.length = b.length + 1 ∧ (∀ j, At s.1 j ↔ ∃ i, At fr i ∧ powR (k.stp b) n i j) ∧ ∀ j, At s.2.1 j ↔ ∃ i, At fr i ∧ ∃ q : Nat, x.Min ≤ (q : Int) ∧ q < n ∧ powR (k.stp b) q i j) (fun s => (x.Max + 1 - s.2.2).toNat) (fun s hs => ?_) _ ⟨0, rfl, by omega, hfr, by simp, fun j => ⟨fun h => ⟨j, h, rfl⟩, fun ⟨i, h, e⟩ => e ▸ h⟩, fun j => ⟨fun h => absurd h (At_repl _ _), fun ⟨i, _, q, _, h, _⟩ => by omega⟩⟩) fun r hr => Ok.ret hr
  obtain ⟨now, out, i⟩ := s
  obtain ⟨n, e, hn, l1, l2, a1, a2⟩ := hs
  dsimp only at e hn l1 l2 a1 a2
  subst e
  refine Ok.ite (fun d => ?_) fun d => ?_
  ·have d : (n : Int) ≤ x.Max := of_decide_eq_true d
   refine Ok.jn (P := fun z : List Bool => z.length = b.length + 1 ∧ ∀ j', At z j' ↔ ∃ i, At fr i ∧ ∃ q : Nat, x.Min ≤ (q : Int) ∧ q < n + 1 ∧ powR (k.stp b) q i j') (Ok.ite (fun g => ?_) fun g => ?_) fun z hz => ?_
   ·have g : x.Min ≤ (n : Int) := of_decide_eq_true g
    refine Ok.bind (union_ok (a := out) (b := now) (by omega) (by omega)) fun z hz => Ok.ret ⟨(show z.length = b.length + 1 by omega), fun j' => ?_⟩
    show At z j' ↔ _
    rw [hz.2, a1, a2]
    constructor
    ·rintro (⟨i, h1, q, h2, h3, h4⟩ | ⟨i, h1, h2⟩)
     ·exact ⟨i, h1, q, h2, by omega, h4⟩
     ·exact ⟨i, h1, n, g, by omega, h2⟩
    ·rintro ⟨i, h1, q, h2, h3, h4⟩
     by_cases e : q = n
     ·subst e; exact .inr ⟨i, h1, h4⟩
     ·exact .inl ⟨i, h1, q, h2, by omega, h4⟩
   ·have g : ¬ x.Min ≤ (n : Int) := of_decide_eq_false g
    refine Ok.ret ⟨l2, fun j' => ?_⟩
    show At out j' ↔ _
    rw [a2]
    constructor
    ·rintro ⟨i, h1, q, h2, h3, h4⟩
     exact ⟨i, h1, q, h2, by omega, h4⟩
    ·rintro ⟨i, h1, q, h2, h3, h4⟩
     exact ⟨i, h1, q, h2, by omega, h4⟩
   ·refine Ok.chk (inb_iff.2 ⟨by omega, by rw [hk]; simp⟩) (Ok.bind (hrec k hkm now l1) fun y hy => Ok.chk (in64_s (by dsimp only; omega) (by dsimp only; omega)) (Ok.ret ⟨⟨n + 1, rfl, by omega, hy.1, hz.1, fun j' => ?_, hz.2⟩, by dsimp only; omega⟩))
    show At y j' ↔ _
    rw [hy.2]
    simp only [a1, powR]
    exact ⟨fun ⟨q, ⟨i, h1, h2⟩, h3⟩ => ⟨i, h1, q, h2, h3⟩, fun ⟨i, h1, q, h2, h3⟩ => ⟨q, ⟨i, h1, h2⟩, h3⟩⟩
  ·have d : ¬ (n : Int) ≤ x.Max := of_decide_eq_false d
   refine Ok.ret ⟨l2, fun j => ?_⟩
   show At out j ↔ _
   rw [a2]
   refine exists_congr fun i => and_congr_right fun hi => ?_
   rw [stp_rep h4 hk]
   exact ⟨fun ⟨q, h1, h2, h3⟩ => ⟨q, h1, by omega, h3⟩, fun ⟨q, h1, h2, h3⟩ => ⟨q, h1, by omega, h3⟩⟩
theorem bools_ext {y z : List Bool} (hl : y.length = z.length) (h : ∀ j, At y j ↔ At z j) : y = z := by
 refine List.ext_getElem hl fun i hi hi' => ?_
 have := h i
 unfold At at this
 rw [List.getD_eq_getElem?_getD, List.getD_eq_getElem?_getD, List.getElem?_eq_getElem hi, List.getElem?_eq_getElem hi'] at this
 exact Bool.eq_iff_iff.2 this
open Classical in
theorem rbelongs_eq (x : GNode) (b : List UInt8) : F_11 x b = some (decide (b.length ≤ 1024 ∧ PV x ∧ x.stp b 0 b.length)) := by
 refine Ok.eq ?_
 unfold F_11
 rw [rvalid_eq]
 refine Ok.bind (P := fun y => y = x.err) ⟨_, rfl, rfl⟩ fun y hy => Ok.grp (Ok.ite (fun c => Ok.ret ?_) fun c => ?_)
 ·rw [eq_comm, decide_eq_false_iff_not]
  rintro ⟨h1, h2, _⟩
  simp [hy, err_zero.2 h2] at c
  omega
 ·simp only [Bool.or_eq_false_iff, Bool.not_eq_false', decide_eq_true_eq, decide_eq_false_iff_not] at c
  have hv : PV x := err_zero.1 (hy ▸ c.1)
  have hb : b.length ≤ 1024 := by omega
  have e1 : ((b.length : Int) + 1).toNat = b.length + 1 := by omega
  rw [e1]
  refine Ok.chk (in64_s (by omega) (by omega)) (Ok.chk (roomI_iff.2 ⟨by omega, by omega, by omega⟩) (Ok.chk (inb_iff.2 ⟨by omega, by simp⟩) ?_))
  have hcn := hv.cnt
  obtain ⟨y, hy, h1, h2⟩ := step_ok hb x x.hgt ((List.replicate (b.length + 1) false).set 0 true) (Nat.le_refl _) hv.rgt (by omega) (by simp)
  have hF : F_7 x b ((List.replicate (b.length + 1) false).set 0 true) = some y := by
   refine lim_of ⟨x.hgt, fun m hm => ?_⟩
   obtain ⟨y', hy', h1', h2'⟩ := step_ok hb x m ((List.replicate (b.length + 1) false).set 0 true) hm hv.rgt (by omega) (by simp)
   show FR_7 m x b _ = _
   rw [hy', bools_ext (by omega) fun j => (h2' j).trans (h2 j).symm]
  rw [hF]
  simp only [Option.bind_some, Int.toNat_natCast]
  refine Ok.chk (inb_iff.2 ⟨by omega, by omega⟩) (Ok.ret ?_)
  rw [Bool.eq_iff_iff, decide_eq_true_eq]
  have := h2 b.length
  unfold At at this
  refine this.trans ⟨?_, ?_⟩
  ·rintro ⟨i, h3, h4⟩
   have : At ((List.replicate (b.length + 1) false).set 0 true) i := h3
   rw [At_set (by simp)] at this
   by_cases e : i = 0
   ·subst e; exact ⟨hb, hv, h4⟩
   ·rw [if_neg e] at this; exact absurd this (At_repl _ _)
  ·rintro ⟨_, _, h⟩
   refine ⟨0, ?_, h⟩
   show At _ 0
   rw [At_set (by simp), if_pos rfl]
theorem belongs_same (x : GNode) (b : List UInt8) : ∃ v, F_10 x b = some v ∧ F_11 x b = some v := ⟨_, belongs_eq x b, rbelongs_eq x b⟩
theorem made_pattern4 {t : GTape} (h : TO t) : Ok (F_0 t 4) fun y => PV y.1 ∧ TO y.2 := by
 refine Ok.mono (Ok.lim (f := fun n => FR_0 n t 4) (fun n => pattern_mono n t 4) 4 (pattern_ok 3 4 t (by omega) h (by omega))) fun y hy => ⟨?_, hy.2⟩
 obtain ⟨⟨h1, h2, h3, h4⟩, _⟩ := hy
 have e3 : (3 : Int) ^ (3 + 1) = 81 := by decide
 have e4 : (4 : Int) ^ 3 = 64 := by decide
 exact ⟨by omega, by omega, h1, by omega⟩
theorem belongs05 {tape : List Int} {raw : GNode} {b : List UInt8} (ht : (V.sl (tape.map (V.int .i64))).fact) : F_23 tape raw b = some true := by
 have h0 : TO (GTape.mk tape 0) := ⟨Int.le_refl 0, Int.ofNat_le.2 (fact_sl ht)⟩
 refine Ok.eq ?_
 unfold F_23
 refine Ok.bind (made_pattern4 h0) fun x hx => Ok.bind (made_member hx.2 hx.1) fun w hw => ?_
 have hl := hw.1.len hx.1
 have hlon := hx.1.lon
 simp only [List.nil_append, List.length_nil, Nat.zero_add]
 refine Ok.chk (room_s (by omega)) (Ok.jn (P := fun j : List UInt8 × GTape => TO j.2) (Ok.ite (fun c => ?_) fun _ => Ok.ret hw.2) fun j hj => ?_)
 ·have c := of_decide_eq_true c
  refine Ok.bind (nx_ok hw.2 c) fun y hy => Ok.bind (nx_ok hy.2.2 (by omega)) fun z hz => Ok.chk (inb_iff.2 ⟨hz.1, hz.2.1⟩) (Ok.chk (inb_iff.2 ⟨hy.1, hy.2.1⟩) (Ok.ret hz.2.2))
 ·refine Ok.chk (room_s (by omega)) (Ok.chk (room_s (by simp; omega)) (Ok.bind (nx_ok hj (by omega)) fun n hn => Ok.bind (mbytes_ok hn.2.2 hn.1 (by have := hn.2.1; omega)) fun r hr => ?_))
  refine Ok.bind (Ok.loop (Q := fun t => t = .inl ()) (fun i : Int => 0 ≤ i ∧ i ≤ 5) (fun i => (5 - i).toNat) (fun i hi => ?_) _ ⟨by omega, by omega⟩) fun t ht => ?_
  ·unfold F_2l
   refine Ok.ite (fun c => ?_) fun _ => Ok.ret rfl
   have c : i < 5 := of_decide_eq_true c
   have hin : inb i [w.1, j.1, ((([] : List UInt8) ++ w.1) ++ [97]), r.1, b].length = true := inb_iff.2 ⟨hi.1, c⟩
   generalize [w.1, j.1, ((([] : List UInt8) ++ w.1) ++ [97]), r.1, b] = L at hin
   generalize L.getD i.toNat default = s
   refine Ok.jn (P := fun o => o = .nx ()) (Ok.chk hin (Ok.ite (fun _ => Ok.ret rfl) fun _ => Ok.chk hin ?_)) fun o ho => ?_
   ·obtain ⟨v, e1, e2⟩ := belongs_same x.1 s
    rw [e1]
    refine Ok.bind (P := fun y => y = v) ⟨_, rfl, rfl⟩ fun y hy => Ok.chk hin ?_
    rw [e2]
    refine Ok.bind (P := fun y => y = v) ⟨_, rfl, rfl⟩ fun y' hy' => ?_
    subst hy hy'
    refine Ok.ite (fun f => by simp at f) fun _ => Ok.bind (few_ok raw) fun q _ => Ok.ite (fun _ => Ok.chk hin ?_) fun _ => Ok.ret rfl
    obtain ⟨v, e1, e2⟩ := belongs_same raw s
    rw [e1]
    refine Ok.bind (P := fun y => y = v) ⟨_, rfl, rfl⟩ fun y hy => Ok.chk hin ?_
    rw [e2]
    refine Ok.bind (P := fun y => y = v) ⟨_, rfl, rfl⟩ fun y' hy' => ?_
    subst hy hy'
    exact Ok.ite (fun f => by simp at f) fun _ => Ok.ret rfl
   ·subst ho
    rw [Fl_nx]
    exact Ok.chk (in64_s (by omega) (by omega)) (Ok.ret ⟨⟨by omega, by omega⟩, by omega⟩)
  ·subst ht
   rw [Sum_inl, awake05]
   exact Ok.ret rfl
theorem call05b {tape : List Int} {raw : GNode} {b : List UInt8} : ACall Tryz.prog 7 [.sl (tape.map (V.int .i64)), GNode.v raw, .sl (b.map byteV)] [] (fun r H => r = .bool true ∧ H = []) :=
 acall_fact (by kernel_rfl) fun h => Wq_23.w (belongs05 (h _ (by simp)))
end Go.Ab
