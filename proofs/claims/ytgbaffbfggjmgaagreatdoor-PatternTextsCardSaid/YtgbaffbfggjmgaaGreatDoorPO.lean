/- Patterns: heights, numbers of nodes, and which are right. -/
import Derived.Test.YtgbaffbfggjmgaaGreatDoorLA
import Derived.Test.YtgbaffbfggjmgaaGreatDoorAbHo
import Derived.Test.YtgbaffbfggjmgaaGreatDoorLD
import Derived.Test.YtgbaffbfggjmgaaGreatDoorAbMir
import Derived.Test.YtgbaffbfggjmgaaGreatDoorAbTop
import Derived.Test.YtgbaffbfggjmgaaGreatDoorMI
import Derived.Test.YtgbaffbfggjmgaaGreatDoorAbStr
set_option linter.all false
set_option linter.all false
namespace Go.Ab
open Go.Proofs
theorem in64_s {n : Int} (h1 : -1000000000000000 ≤ n) (h2 : n ≤ 1000000000000000) : in64 n = true := in64_iff.2 ⟨by omega, by omega⟩
theorem room_s {n b : Nat} (h : n * b ≤ 100000000) : room n b = true := room_iff.2 (by omega)
theorem getD_at {α : Type} [Inhabited α] {l pre r : List α} {x : α} (hw : l = pre ++ x :: r) : l.getD pre.length default = x := by rw [hw]; simp
theorem len_at {α : Type} {l pre r : List α} {x : α} (hw : l = pre ++ x :: r) : pre.length < l.length := by rw [hw]; simp
theorem mem_at {α : Type} {l pre r : List α} {x : α} (hw : l = pre ++ x :: r) : x ∈ l := by rw [hw]; simp
mutual
def GNode.hgt : GNode → Nat
 | ⟨_, _, k, _, _⟩ => GNode.hgts k + 1
def GNode.hgts : List GNode → Nat
 | [] => 0
 | a :: r => max (GNode.hgt a) (GNode.hgts r)
end
theorem hgt_eq (x : GNode) : x.hgt = GNode.hgts x.Kids + 1 := by cases x; simp only [GNode.hgt]
theorem hgts_mem : ∀ {l : List GNode} {k : GNode}, k ∈ l → k.hgt ≤ GNode.hgts l
 | a :: r, k, h => by
  simp only [GNode.hgts]
  rcases List.mem_cons.1 h with rfl | h
  ·omega
  ·have := hgts_mem h; omega
theorem kid_hgt {x k : GNode} (h : k ∈ x.Kids) : k.hgt < x.hgt := by rw [hgt_eq x]; have := hgts_mem h; omega
theorem hgt_pos (x : GNode) : 1 ≤ x.hgt := by rw [hgt_eq]; omega
theorem GNode.ind {P : GNode → Prop} (h : ∀ x, (∀ k ∈ x.Kids, P k) → P x) : ∀ x, P x := by
 have : ∀ n (x : GNode), x.hgt ≤ n → P x := by
  intro n
  induction n with
  | zero => intro x hx; have := hgt_pos x; omega
  | succ n ih => intro x hx; exact h x fun k hk => ih k (by have := kid_hgt hk; omega)
 exact fun x => this x.hgt x (Nat.le_refl _)
mutual
def GNode.cnt : GNode → Int
 | ⟨_, _, k, _, _⟩ => GNode.cnts k + 1
def GNode.cnts : List GNode → Int
 | [] => 0
 | a :: r => GNode.cnt a + GNode.cnts r
end
theorem cnt_eq (x : GNode) : x.cnt = GNode.cnts x.Kids + 1 := by cases x; simp only [GNode.cnt]
theorem cnts_nn' : ∀ {l : List GNode}, (∀ k ∈ l, 1 ≤ k.cnt) → (l.length : Int) ≤ GNode.cnts l
 | [], _ => by simp [GNode.cnts]
 | a :: r, h => by
  have h1 := h a (by simp)
  have h2 := cnts_nn' (l := r) fun k hk => h k (by simp [hk])
  simp only [GNode.cnts, List.length_cons]; omega
theorem cnt_pos : ∀ x : GNode, 1 ≤ x.cnt := GNode.ind fun x ih => by rw [cnt_eq]; have := cnts_nn' ih; omega
theorem cnts_len (l : List GNode) : (l.length : Int) ≤ GNode.cnts l := cnts_nn' fun k _ => cnt_pos k
theorem cnts_append : ∀ a b : List GNode, GNode.cnts (a ++ b) = GNode.cnts a + GNode.cnts b
 | [], b => by simp [GNode.cnts]
 | x :: r, b => by simp only [List.cons_append, GNode.cnts, cnts_append r b]; omega
theorem cnts_mem {l : List GNode} {k : GNode} (h : k ∈ l) : k.cnt ≤ GNode.cnts l := by
 obtain ⟨a, b, rfl⟩ := List.append_of_mem h
 have h1 := cnts_len a
 have h2 := cnts_len b
 rw [cnts_append]; simp only [GNode.cnts]; omega
theorem kid_cnt {x k : GNode} (h : k ∈ x.Kids) : k.cnt < x.cnt := by rw [cnt_eq x]; have := cnts_mem h; omega
theorem kids_cnt (x : GNode) : (x.Kids.length : Int) < x.cnt := by rw [cnt_eq x]; have := cnts_len x.Kids; omega
theorem hgt_cnt : ∀ x : GNode, (x.hgt : Int) ≤ x.cnt := GNode.ind fun x ih => by
 have : ∀ l : List GNode, (∀ k ∈ l, (k.hgt : Int) ≤ k.cnt) → (GNode.hgts l : Int) ≤ GNode.cnts l := by
  intro l
  induction l with
  | nil => intro _; simp [GNode.hgts, GNode.cnts]
  | cons a r ih =>
   intro h
   have h1 := h a (by simp)
   have h2 := ih fun k hk => h k (by simp [hk])
   have h3 := cnts_len r
   have h4 := cnt_pos a
   simp only [GNode.hgts, GNode.cnts]; omega
 have := this x.Kids ih
 rw [hgt_eq, cnt_eq]; omega
theorem nodes_ok : ∀ (x : GNode) (m : Nat), x.hgt ≤ m → Ok (FR_7 m x) (· = min x.cnt 201) := by
 refine GNode.ind fun x ih m hm => ?_
 cases m with
 | zero => have := hgt_pos x; omega
 | succ m =>
  simp only [FR_7]
  refine Ok.bind (Ok.forI (all := x.Kids) (Q := fun o => o = if 1 + GNode.cnts x.Kids ≤ 200 then .nx (1 + GNode.cnts x.Kids) else .ex 201) (fun pre s => s = 1 + GNode.cnts pre ∧ s ≤ 200) x.Kids [] 0 1 rfl rfl ⟨by simp [GNode.cnts], by omega⟩ (fun pre k r s hw hs => ?_) fun s hs => ?_) fun o ho => ?_
  ·obtain ⟨hs, hs2⟩ := hs
   have hk := mem_at hw
   have h1 := cnts_len pre
   have h2 := cnts_len r
   have h3 := cnt_pos k
   have hc : GNode.cnts x.Kids = GNode.cnts pre + (k.cnt + GNode.cnts r) := by rw [hw, cnts_append]; simp only [GNode.cnts]
   refine Ok.bind (ih k hk m (by have := kid_hgt hk; omega)) fun y hy => ?_
   subst hy
   refine Ok.chk (in64_s (by omega) (by omega)) (Ok.ite (fun c => ?_) fun c => ?_)
   ·have c := of_decide_eq_true c
    refine Ok.ret ?_
    show Fl.ex 201 = _
    rw [if_neg (by omega)]
   ·have c := of_decide_eq_false c
    exact Ok.ret ⟨by rw [cnts_append]; simp only [GNode.cnts]; omega, by omega⟩
  ·rw [if_pos (by omega), ← hs.1]
  ·subst ho
   rw [cnt_eq]
   by_cases c : 1 + GNode.cnts x.Kids ≤ 200
   ·rw [if_pos c]; exact Ok.ret (by show _ = min _ _; omega)
   ·rw [if_neg c]; exact Ok.ret (by show _ = min _ _; omega)
theorem nodes_eq (x : GNode) : F_7 x = some (min x.cnt 201) := lim_of ⟨x.hgt, fun m hm => (nodes_ok x m hm).eq⟩
theorem hgts_append : ∀ a b : List GNode, GNode.hgts (a ++ b) = max (GNode.hgts a) (GNode.hgts b)
 | [], b => by simp [GNode.hgts]
 | x :: r, b => by simp only [List.cons_append, GNode.hgts, hgts_append r b]; omega
theorem depth_ok : ∀ (x : GNode) (m : Nat) (left : Int), x.hgt ≤ m → 0 ≤ left → left ≤ 1000 → Ok (FR_8 m x left) (· = min (x.hgt : Int) (left + 1)) := by
 refine GNode.ind fun x ih m left hm h0 h1 => ?_
 cases m with
 | zero => have := hgt_pos x; omega
 | succ m =>
  have hp := hgt_pos x
  simp only [FR_8]
  refine Ok.ite (fun c => ?_) fun c => ?_
  ·have c := of_decide_eq_true c
   exact Ok.ret (by show _ = min _ _; omega)
  ·have c := of_decide_eq_false c
   refine Ok.bind (Ok.foldI (all := x.Kids) (Q := fun o => o = min (GNode.hgts x.Kids : Int) left) (fun pre s => s = min (GNode.hgts pre : Int) left) x.Kids [] 0 0 rfl rfl (by simp only [GNode.hgts]; omega) (fun pre k r s hw hs => ?_) fun s hs => hs) fun o ho => ?_
   ·have hk := mem_at hw
    refine Ok.chk (in64_s (by omega) (by omega)) (Ok.bind (ih k hk m (left - 1) (by have := kid_hgt hk; omega) (by omega) (by omega)) fun y hy => Ok.ret ?_)
    subst hy hs
    rw [hgts_append]; simp only [GNode.hgts]; omega
   ·subst ho
    refine Ok.chk (in64_s (by omega) (by omega)) (Ok.ret ?_)
    rw [hgt_eq]; omega
theorem depth_eq (x : GNode) : F_8 x 20 = some (min (x.hgt : Int) 21) := lim_of ⟨x.hgt, fun m hm => (depth_ok x m 20 hm (by omega) (by omega)).eq⟩
def rng1 (l : List GRange) (i : Nat) : Prop := (l.getD i default).Low.toNat ≤ (l.getD i default).High.toNat ∧ (0 < i → (l.getD (i - 1) default).High.toNat + 1 < (l.getD i default).Low.toNat)
def rngP (l : List GRange) : Prop := ∀ i, i < l.length → rng1 l i
def okN (x : GNode) : Prop :=
 (x.Op = 1 ∧ rngP x.Ranges ∧ x.Ranges ≠ [] ∧ x.Kids = [] ∧ x.Min = 0 ∧ x.Max = 0) ∨
 ((x.Op = 2 ∨ x.Op = 3) ∧ 2 ≤ x.Kids.length ∧ x.Ranges = [] ∧ x.Min = 0 ∧ x.Max = 0 ∧ ∀ k ∈ x.Kids, k.Op ≠ x.Op) ∨
 (x.Op = 4 ∧ x.Kids.length = 1 ∧ x.Ranges = [] ∧ 0 ≤ x.Min ∧ 1 ≤ x.Max ∧ x.Min ≤ x.Max ∧ x.Max ≤ 64 ∧ ¬ (x.Min = 1 ∧ x.Max = 1))
inductive Rgt : GNode → Prop
 | mk (x : GNode) (h : okN x) (hk : ∀ k ∈ x.Kids, Rgt k) : Rgt x
theorem Rgt.ok {x : GNode} (h : Rgt x) : okN x := by cases h; assumption
theorem Rgt.kid {x k : GNode} (h : Rgt x) (hk : k ∈ x.Kids) : Rgt k := by cases h with | mk _ _ h => exact h k hk
theorem rng_lo {l : List GRange} : ∀ i, (∀ j, j ≤ i → rng1 l j) → 2 * i ≤ (l.getD i default).Low.toNat
 | 0, h => by omega
 | i + 1, h => by
  have ih := rng_lo i fun j hj => h j (by omega)
  have h1 := (h i (by omega)).1
  have h2 := (h (i + 1) (Nat.le_refl _)).2 (by omega)
  simp only [Nat.add_sub_cancel] at h2
  omega
theorem rng_len {l : List GRange} (h : rngP l) : l.length ≤ 128 := by
 by_cases c : l.length ≤ 128
 ·exact c
 ·have := rng_lo (l := l) 128 fun j hj => h j (by omega)
  have := (l.getD 128 default).Low.toNat_lt
  omega
theorem toNat_inj' {a b : UInt8} (h : (a.toNat : Int) = b.toNat) : a = b := UInt8.toNat_inj.1 (by omega)
open Classical in
theorem set_ok (x : GNode) : F_13 x = some (decide (rngP x.Ranges ∧ x.Ranges ≠ [] ∧ x.Kids = [] ∧ x.Min = 0 ∧ x.Max = 0)) := by
 refine Ok.eq ?_
 unfold F_13
 refine Ok.bind (Ok.forI (all := x.Ranges) (Q := fun o => (o = .nx () ∧ rngP x.Ranges) ∨ (o = .ex false ∧ ¬ rngP x.Ranges)) (fun pre _ => ∀ i, i < pre.length → rng1 x.Ranges i) x.Ranges [] 0 () rfl rfl (by simp) (fun pre r q s hw hs => ?_) fun s hs => .inl ⟨rfl, hs⟩) fun o ho => ?_
 ·have hl := len_at hw
  have hr := getD_at hw
  have hb : pre.length ≤ 128 := by
   by_cases c : pre.length ≤ 128
   ·exact c
   ·have := rng_lo (l := x.Ranges) 128 fun j hj => hs j (by omega)
    have := (x.Ranges.getD 128 default).Low.toNat_lt
    omega
  unfold F_1v
  refine Ok.ite (fun c => ?_) fun c => Ok.ite (fun c2 => ?_) fun c2 => ?_
  ·have c := of_decide_eq_true c
   refine Ok.ret (.inr ⟨rfl, fun h => ?_⟩)
   have := (h _ hl).1
   rw [hr] at this; omega
  ·have c := of_decide_eq_false c
   have c2 := of_decide_eq_true c2
   have e1 : ((pre.length : Int) - 1).toNat = pre.length - 1 := by omega
   have hlt := (x.Ranges.getD (pre.length - 1) default).High.toNat_lt
   refine Ok.chk (in64_s (by omega) (by omega)) (Ok.chk (inb_iff.2 ⟨by omega, by omega⟩) ?_)
   rw [e1]
   refine Ok.chk (in64_s (by omega) (by omega)) (Ok.ite (fun c3 => ?_) fun c3 => ?_)
   ·have c3 := of_decide_eq_true c3
    refine Ok.ret (.inr ⟨rfl, fun h => ?_⟩)
    have := (h _ hl).2 (by omega)
    rw [hr] at this; omega
   ·have c3 := of_decide_eq_false c3
    refine Ok.ret fun i hi => ?_
    simp only [List.length_append, List.length_singleton] at hi
    by_cases e : i = pre.length
    ·subst e
     exact ⟨by rw [hr]; omega, fun _ => by rw [hr]; omega⟩
    ·exact hs i (by omega)
  ·have c := of_decide_eq_false c
   have c2 := of_decide_eq_false c2
   refine Ok.ret fun i hi => ?_
   simp only [List.length_append, List.length_singleton] at hi
   have e : i = pre.length := by omega
   subst e
   exact ⟨by rw [hr]; omega, fun h => by omega⟩
 ·rcases ho with ⟨rfl, h⟩ | ⟨rfl, h⟩
  ·refine Ok.grp (Ok.grp (Ok.grp (Ok.ret ?_)))
   rw [Bool.eq_iff_iff]
   simp only [Bool.and_eq_true, decide_eq_true_eq]
   constructor
   ·rintro ⟨⟨⟨h1, h2⟩, h3⟩, h4⟩
    exact ⟨h, fun e => by simp [e] at h1, List.length_eq_zero_iff.1 (by omega), h3, h4⟩
   ·rintro ⟨_, h1, h2, h3, h4⟩
    have := List.length_pos_iff.2 h1
    exact ⟨⟨⟨by omega, by simp [h2]⟩, h3⟩, h4⟩
  ·refine Ok.ret ?_
   show false = _
   rw [eq_comm, decide_eq_false_iff_not]
   exact fun h' => h h'.1
theorem contains_go {α : Type} {body : Int → α → Unit → Option (Fl Unit Int)} (p : α → Prop) [DecidablePred p] : ∀ (xs : List α) (k : Int),0 ≤ k → (∀ k x, x ∈ xs → body k x () = some (if p x then .ex k else .nx ())) →
  ∃ o, forL body xs k () = some o ∧ ((∃ x ∈ xs, p x) → ∃ r, o = .ex r ∧ 0 ≤ r) ∧ ((∀ x ∈ xs, ¬ p x) → o = .nx ())
 | [], k, hk, h => ⟨.nx (), rfl, fun ⟨x, hx, _⟩ => by simp at hx, fun _ => rfl⟩
 | x :: r, k, hk, h => by
  simp only [forL, h k x (by simp)]
  by_cases c : p x
  ·simp only [if_pos c, Option.bind_some, Fl_ex]
   exact ⟨_, rfl, fun _ => ⟨k, rfl, hk⟩, fun hn => absurd c (hn x (by simp))⟩
  ·simp only [if_neg c, Option.bind_some, Fl_nx]
   obtain ⟨o, h1, h2, h3⟩ := contains_go p r (k + 1) (by omega) fun k y hy => h k y (by simp [hy])
   refine ⟨o, h1, fun ⟨y, hy, hp⟩ => ?_, fun hn => h3 fun y hy => hn y (by simp [hy])⟩
   rcases List.mem_cons.1 hy with rfl | hy
   ·exact absurd hp c
   ·exact h2 ⟨y, hy, hp⟩
open Classical in
theorem contains_b {α : Type} {body : Int → α → Unit → Option (Fl Unit Int)} (p : α → Prop) (xs : List α) [Decidable (∃ x ∈ xs, p x)] (h : ∀ k x, x ∈ xs → body k x () = some (if p x then .ex k else .nx ())) :
  (((forL body xs 0 ()).bind fun o => o.elim (fun _ => some (-1)) fun r => some r).bind fun y => some (decide (0 ≤ y))) = some (decide (∃ x ∈ xs, p x)) := by
 obtain ⟨o, h1, h2, h3⟩ := contains_go p xs 0 (Int.le_refl 0) h
 rw [h1]
 by_cases c : ∃ x ∈ xs, p x
 ·obtain ⟨r, rfl, hr⟩ := h2 c
  simp only [Option.bind_some, Fl_ex, decide_eq_true hr, decide_eq_true c]
 ·have := h3 fun x hx hp => c ⟨x, hx, hp⟩
  subst this
  simp only [Option.bind_some, Fl_nx, decide_eq_false c]
  rfl
open Classical in
theorem several_ok (x : GNode) : F_14 x = some (decide (2 ≤ x.Kids.length ∧ x.Ranges = [] ∧ x.Min = 0 ∧ x.Max = 0 ∧ ∀ k ∈ x.Kids, k.Op ≠ x.Op)) := by
 have hc : F_1p x.Kids x = some (decide (∃ k ∈ x.Kids, k.Op = x.Op)) :=
  contains_b (body := F_1o x) (fun k : GNode => k.Op = x.Op) x.Kids fun k y _ => by
   by_cases c : y.Op = x.Op <;> simp [F_1o, F_y, c]
 refine Ok.eq ?_
 unfold F_14
 refine Ok.grp (Ok.grp (Ok.grp (Ok.jn (P := fun b => b = decide (2 ≤ x.Kids.length ∧ x.Ranges = [] ∧ x.Min = 0 ∧ x.Max = 0 ∧ ∀ k ∈ x.Kids, k.Op ≠ x.Op)) ?_ fun y hy => Ok.ret hy)))
 refine Ok.ite (fun c => ?_) fun c => Ok.ret ?_
 ·rw [hc]
  refine Ok.ret ?_
  simp only [Bool.and_eq_true, decide_eq_true_eq] at c
  rw [Bool.eq_iff_iff]
  simp only [Bool.not_eq_true', decide_eq_false_iff_not, decide_eq_true_eq]
  constructor
  ·intro h
   exact ⟨by omega, List.length_eq_zero_iff.1 (by omega), c.1.2, c.2, fun k hk e => h ⟨k, hk, e⟩⟩
  ·rintro ⟨_, _, _, _, h⟩ ⟨k, hk, e⟩
   exact h k hk e
 ·rw [eq_comm, decide_eq_false_iff_not]
  rintro ⟨h1, h2, h3, h4, _⟩
  simp [h2, h3, h4] at c
  omega
open Classical in
theorem repeat_ok (x : GNode) : F_15 x = some (decide (x.Kids.length = 1 ∧ x.Ranges = [] ∧ 0 ≤ x.Min ∧ 1 ≤ x.Max ∧ x.Min ≤ x.Max ∧ x.Max ≤ 64 ∧ ¬ (x.Min = 1 ∧ x.Max = 1))) := by
 refine Ok.eq ?_
 unfold F_15
 refine Ok.grp (Ok.grp (Ok.jn (P := fun b => b = decide (((x.Kids.length : Int) = 1 ∧ (x.Ranges.length : Int) = 0) ∧ 0 ≤ x.Min ∧ max x.Min 1 ≤ x.Max)) ?_ fun y hy => Ok.grp (Ok.grp (Ok.ret ?_))))
 ·refine Ok.ite (fun c => Ok.ret ?_) fun c => Ok.ret ?_
  ·simp only [Bool.and_eq_true, decide_eq_true_eq] at c
   rw [decide_eq_decide]
   exact ⟨fun h => ⟨c.1, c.2, h⟩, fun h => h.2.2⟩
  ·rw [eq_comm, decide_eq_false_iff_not]
   intro h
   simp [h.1.1, h.1.2, h.2.1] at c
 ·subst hy
  rw [Bool.eq_iff_iff]
  simp only [Bool.and_eq_true, decide_eq_true_eq, Bool.or_eq_true, Bool.not_eq_true', decide_eq_false_iff_not]
  constructor
  ·rintro ⟨⟨⟨⟨h1, h2⟩, h3, h4⟩, h5⟩, h6⟩
   exact ⟨by omega, List.length_eq_zero_iff.1 (by omega), h3, by omega, by omega, h5, by omega⟩
  ·rintro ⟨h1, h2, h3, h4, h5, h6, h7⟩
   exact ⟨⟨⟨⟨by omega, by simp [h2]⟩, h3, by omega⟩, h6⟩, by omega⟩
open Classical in
theorem right_ok : ∀ (x : GNode) (m : Nat),4 * x.hgt ≤ m → Ok (FR_9 m x) (· = decide (Rgt x)) := by
 refine GNode.ind fun x ih m hm => ?_
 have hp := hgt_pos x
 obtain ⟨m, rfl⟩ : ∃ n, m = n + 4 := ⟨m - 4, by omega⟩
 have hc : FR_j (m + 3) x.Kids = some (decide (∃ k ∈ x.Kids, ¬ Rgt k)) := by
  simp only [FR_j, FR_m]
  refine contains_b (fun k => ¬ Rgt k) x.Kids fun k y hy => ?_
  have := (ih y hy m (by have := kid_hgt hy; omega)).eq
  simp only [FR_h, this, Option.bind_some]
  by_cases c : Rgt y <;> simp [c]
 simp only [FR_9]
 refine Ok.jn (P := fun b => b = decide (okN x)) ?_ fun y hy => ?_
 ·refine Ok.ite (fun c => ?_) fun c => ?_
  ·have c := of_decide_eq_true c
   rw [set_ok]
   refine Ok.ret (decide_eq_decide.2 ?_)
   unfold okN
   constructor
   ·exact fun h => .inl ⟨c, h⟩
   ·rintro (h | ⟨h, _⟩ | ⟨h, _⟩)
    ·exact h.2
    ·omega
    ·omega
  ·have c := of_decide_eq_false c
   refine Ok.jn (P := fun b => b = decide (x.Op = 2 ∨ x.Op = 3)) ?_ fun y hy => ?_
   ·refine Ok.ite (fun c2 => Ok.ret ?_) fun c2 => Ok.ret ?_
    ·have c2 := of_decide_eq_true c2
     simp [c2]
    ·have c2 := of_decide_eq_false c2
     simp [c2]
   ·subst hy
    refine Ok.ite (fun c2 => ?_) fun c2 => Ok.ite (fun c3 => ?_) fun c3 => Ok.ret ?_
    ·have c2 := of_decide_eq_true c2
     rw [several_ok]
     refine Ok.ret (decide_eq_decide.2 ?_)
     unfold okN
     constructor
     ·exact fun h => .inr (.inl ⟨c2, h⟩)
     ·rintro (h | h | ⟨h, _⟩)
      ·exact absurd h.1 c
      ·exact h.2
      ·omega
    ·have c2 := of_decide_eq_false c2
     have c3 := of_decide_eq_true c3
     rw [repeat_ok]
     refine Ok.ret (decide_eq_decide.2 ?_)
     unfold okN
     constructor
     ·exact fun h => .inr (.inr ⟨c3, h⟩)
     ·rintro (h | h | h)
      ·exact absurd h.1 c
      ·exact absurd h.1 c2
      ·exact h.2
    ·have c2 := of_decide_eq_false c2
     have c3 := of_decide_eq_false c3
     rw [eq_comm, decide_eq_false_iff_not]
     rintro (h | h | h)
     ·exact c h.1
     ·exact c2 h.1
     ·exact c3 h.1
 ·subst hy
  refine Ok.jn (P := fun b => b = decide (Rgt x)) ?_ fun y hy => Ok.ret hy
  refine Ok.ite (fun c => ?_) fun c => Ok.ret ?_
  ·have c := of_decide_eq_true c
   rw [hc]
   refine Ok.ret ?_
   rw [Bool.eq_iff_iff]
   simp only [Bool.not_eq_true', decide_eq_false_iff_not, decide_eq_true_eq]
   constructor
   ·exact fun h => .mk x c fun k hk => Classical.byContradiction fun hn => h ⟨k, hk, hn⟩
   ·rintro h ⟨k, hk, hn⟩
    exact hn (h.kid hk)
  ·have c := of_decide_eq_false c
   rw [eq_comm, decide_eq_false_iff_not]
   exact fun h => c h.ok
open Classical in
theorem right_eq (x : GNode) : F_9 x = some (decide (Rgt x)) := lim_of ⟨4 * x.hgt, fun m hm => (right_ok x m hm).eq⟩
end Go.Ab
namespace Go.Ab
open Go.Proofs
def sumI : List Int → Int
 | [] => 0
 | a :: r => a + sumI r
def maxI : List Int → Int
 | [] => 0
 | a :: r => max a (maxI r)
def minI : Int → List Int → Int
 | m, [] => m
 | m, a :: r => minI (min m a) r
mutual
def GNode.lon : GNode → Int
 | ⟨o, _, k, _, ma⟩ => min (if o = 1 then 1 else if o = 2 then sumI (GNode.lons k) else if o = 3 then maxI (GNode.lons k) else ma * (GNode.lons k).headD 0) 1025
def GNode.lons : List GNode → List Int
 | [] => []
 | a :: r => GNode.lon a :: GNode.lons r
end
theorem lons_map : ∀ l : List GNode, GNode.lons l = l.map GNode.lon
 | [] => by simp [GNode.lons]
 | a :: r => by simp only [GNode.lons, List.map_cons, lons_map r]
theorem lon_eq (x : GNode) : x.lon = min (if x.Op = 1 then 1 else if x.Op = 2 then sumI (x.Kids.map GNode.lon) else if x.Op = 3 then maxI (x.Kids.map GNode.lon) else x.Max * (x.Kids.map GNode.lon).headD 0) 1025 := by
 cases x; simp only [GNode.lon, lons_map]
theorem sumI_append : ∀ a b : List Int, sumI (a ++ b) = sumI a + sumI b
 | [], b => by simp [sumI]
 | x :: r, b => by simp only [List.cons_append, sumI, sumI_append r b]; omega
theorem maxI_append : ∀ a b : List Int, (∀ y ∈ a, 0 ≤ y) → (∀ y ∈ b, 0 ≤ y) → maxI (a ++ b) = max (maxI a) (maxI b)
 | [], b, _, hb => by
  have : ∀ l : List Int, (∀ y ∈ l, 0 ≤ y) → 0 ≤ maxI l := by
   intro l; induction l with
   | nil => intro _; simp [maxI]
   | cons a r ih => intro h; have := ih fun y hy => h y (by simp [hy]); simp only [maxI]; omega
  have := this b hb
  simp only [List.nil_append, maxI]; omega
 | x :: r, b, ha, hb => by
  have := maxI_append r b (fun y hy => ha y (by simp [hy])) hb
  simp only [List.cons_append, maxI, this]; omega
theorem sum_rng {f : GNode → Int} {c : Int} : ∀ {l : List GNode}, (∀ k ∈ l, 0 ≤ f k ∧ f k ≤ c) → 0 ≤ sumI (l.map f) ∧ sumI (l.map f) ≤ c * l.length ∧ ∀ k ∈ l, f k ≤ sumI (l.map f)
 | [], _ => by simp [sumI]
 | a :: r, h => by
  have h1 := h a (by simp)
  obtain ⟨h2, h3, h4⟩ := sum_rng (l := r) fun k hk => h k (by simp [hk])
  simp only [List.map_cons, sumI, List.length_cons, Int.natCast_add, Int.natCast_one, Int.mul_add, Int.mul_one]
  refine ⟨by omega, by omega, fun k hk => ?_⟩
  rcases List.mem_cons.1 hk with rfl | hk
  ·omega
  ·have := h4 k hk; omega
theorem max_rng {f : GNode → Int} {c : Int} (hc : 0 ≤ c) : ∀ {l : List GNode}, (∀ k ∈ l, 0 ≤ f k ∧ f k ≤ c) → 0 ≤ maxI (l.map f) ∧ maxI (l.map f) ≤ c ∧ ∀ k ∈ l, f k ≤ maxI (l.map f)
 | [], _ => by simp [maxI]; exact hc
 | a :: r, h => by
  have h1 := h a (by simp)
  obtain ⟨h2, h3, h4⟩ := max_rng hc (l := r) fun k hk => h k (by simp [hk])
  simp only [List.map_cons, maxI]
  refine ⟨by omega, by omega, fun k hk => ?_⟩
  rcases List.mem_cons.1 hk with rfl | hk
  ·omega
  ·have := h4 k hk; omega
theorem one_kid {x : GNode} (h : x.Kids.length = 1) : ∃ k, x.Kids = [k] := by
 match hk : x.Kids, h with
 | [k], _ => exact ⟨k, rfl⟩
theorem Rgt.kinds {x : GNode} (h : Rgt x) : (x.Op = 1 ∧ rngP x.Ranges ∧ x.Ranges ≠ []) ∨ (x.Op = 2 ∧ 2 ≤ x.Kids.length) ∨ (x.Op = 3 ∧ 2 ≤ x.Kids.length) ∨ (x.Op = 4 ∧ (∃ k, x.Kids = [k]) ∧ 0 ≤ x.Min ∧ 1 ≤ x.Max ∧ x.Min ≤ x.Max ∧ x.Max ≤ 64) := by
 rcases h.ok with h | ⟨h1 | h1, h2⟩ | h
 ·exact .inl ⟨h.1, h.2.1, h.2.2.1⟩
 ·exact .inr (.inl ⟨h1, h2.1⟩)
 ·exact .inr (.inr (.inl ⟨h1, h2.1⟩))
 ·exact .inr (.inr (.inr ⟨h.1, one_kid h.2.1, h.2.2.2.1, h.2.2.2.2.1, h.2.2.2.2.2.1, h.2.2.2.2.2.2.1⟩))
theorem lon_rng : ∀ x : GNode, Rgt x → 1 ≤ x.lon ∧ x.lon ≤ 1025 ∧ (x.lon ≤ 1024 → ∀ k ∈ x.Kids, k.lon ≤ x.lon) := by
 refine GNode.ind fun x ih hx => ?_
 have hk : ∀ k ∈ x.Kids, 0 ≤ k.lon ∧ k.lon ≤ 1025 := fun k hk => by have := ih k hk (hx.kid hk); omega
 have hlo : ∀ k ∈ x.Kids, 1 ≤ k.lon := fun k hk => (ih k hk (hx.kid hk)).1
 rw [lon_eq]
 rcases hx.kinds with ⟨h, _⟩ | ⟨h, h2⟩ | ⟨h, h2⟩ | ⟨h, ⟨k, h2⟩, h3, h4, h5, h6⟩
 ·rw [if_pos h]
  refine ⟨by omega, by omega, fun _ k hk => ?_⟩
  rcases hx.ok with h' | ⟨h1 | h1, h2⟩ | h'
  ·rw [h'.2.2.2.1] at hk; cases hk
  ·omega
  ·omega
  ·omega
 ·rw [if_neg (by omega), if_pos h]
  obtain ⟨s1, s2, s3⟩ := sum_rng hk
  obtain ⟨k, hkm⟩ := List.exists_mem_of_length_pos (l := x.Kids) (by omega)
  have := s3 k hkm; have := hlo k hkm
  exact ⟨by omega, by omega, fun _ k hk => by have := s3 k hk; omega⟩
 ·rw [if_neg (by omega), if_neg (by omega), if_pos h]
  obtain ⟨s1, s2, s3⟩ := max_rng (by omega) hk
  obtain ⟨k, hkm⟩ := List.exists_mem_of_length_pos (l := x.Kids) (by omega)
  have := s3 k hkm; have := hlo k hkm
  exact ⟨by omega, by omega, fun _ k hk => by have := s3 k hk; omega⟩
 ·rw [if_neg (by omega), if_neg (by omega), if_neg (by omega), h2]
  have h7 := hlo k (by rw [h2]; simp)
  have : 1 * k.lon ≤ x.Max * k.lon := Int.mul_le_mul_of_nonneg_right h4 (by omega)
  simp only [List.map_cons, List.map_nil, List.headD_cons]
  exact ⟨by omega, by omega, fun _ k' hk' => by simp at hk'; subst hk'; omega⟩
theorem longest_ok : ∀ (x : GNode) (m : Nat), x.hgt ≤ m → Rgt x → x.cnt ≤ 1000 → Ok (FR_1 m x) (· = x.lon) := by
 refine GNode.ind fun x ih m hm hx hc => ?_
 cases m with
 | zero => have := hgt_pos x; omega
 | succ m =>
  have hrec : ∀ k ∈ x.Kids, Ok (FR_1 m k) (· = k.lon) := fun k hk => ih k hk m (by have := kid_hgt hk; omega) (hx.kid hk) (by have := kid_cnt hk; omega)
  have hkr : ∀ k ∈ x.Kids, 0 ≤ k.lon ∧ k.lon ≤ 1025 := fun k hk => by have := lon_rng k (hx.kid hk); omega
  have hlen := kids_cnt x
  simp only [FR_1]
  refine Ok.jn (P := fun o => min o 1025 = x.lon) ?_ fun o ho => Ok.ret ho
  rw [lon_eq]
  refine Ok.ite (fun c => Ok.ret (by rw [if_pos (of_decide_eq_true c)])) fun c => ?_
  have c := of_decide_eq_false c
  rw [if_neg c]
  refine Ok.ite (fun c2 => ?_) fun c2 => ?_
  ·rw [if_pos (of_decide_eq_true c2)]
   refine Ok.bind (Ok.foldI (all := x.Kids) (Q := fun o => o = sumI (x.Kids.map GNode.lon)) (fun pre s => s = sumI (pre.map GNode.lon)) x.Kids [] 0 0 rfl rfl rfl (fun pre k r s hw hs => ?_) fun s hs => hs) fun o ho => Ok.ret (by rw [ho])
   have hk := mem_at hw
   have hl := len_at hw
   have hpr := sum_rng (f := GNode.lon) (c := 1025) (l := pre) fun k hk => hkr k (by rw [hw]; simp [hk])
   have := hkr k hk
   refine Ok.bind (hrec k hk) fun y hy => ?_
   subst hy
   refine Ok.chk (in64_s (by omega) (by omega)) (Ok.ret ?_)
   rw [hs, List.map_append, sumI_append]; simp [sumI]
  ·have c2 := of_decide_eq_false c2
   rw [if_neg c2]
   refine Ok.ite (fun c3 => ?_) fun c3 => ?_
   ·rw [if_pos (of_decide_eq_true c3)]
    refine Ok.bind (Ok.foldI (all := x.Kids) (Q := fun o => o = maxI (x.Kids.map GNode.lon)) (fun pre s => s = maxI (pre.map GNode.lon)) x.Kids [] 0 0 rfl rfl rfl (fun pre k r s hw hs => ?_) fun s hs => hs) fun o ho => Ok.ret (by rw [ho])
    have hk := mem_at hw
    refine Ok.bind (hrec k hk) fun y hy => ?_
    subst hy
    refine Ok.ret ?_
    have := hkr k hk
    rw [hs, List.map_append, maxI_append _ _ (fun y hy => by obtain ⟨z, hz, rfl⟩ := List.mem_map.1 hy; exact (hkr z (by rw [hw]; simp [hz])).1) (fun y hy => by simp at hy; subst hy; omega)]
    simp only [List.map_cons, List.map_nil, maxI]; omega
   ·have c3 := of_decide_eq_false c3
    rw [if_neg c3]
    rcases hx.kinds with ⟨h, _⟩ | ⟨h, h2⟩ | ⟨h, h2⟩ | ⟨h, ⟨k, h2⟩, h3, h4, h5, h6⟩
    ·exact absurd h c
    ·exact absurd h c2
    ·exact absurd h c3
    ·have hk : k ∈ x.Kids := by rw [h2]; simp
     have := hkr k hk
     have e : x.Kids.getD 0 default = k := by rw [h2]; rfl
     have hm1 : 0 ≤ x.Max * k.lon := Int.mul_nonneg (by omega) (by omega)
     have hm2 : x.Max * k.lon ≤ 64 * 1025 := Int.mul_le_mul h6 (by omega) (by omega) (by omega)
     rw [e]
     refine Ok.chk (inb_iff.2 ⟨by omega, by rw [h2]; simp⟩) (Ok.bind (hrec k hk) fun y hy => ?_)
     subst hy
     refine Ok.chk (in64_s (by omega) (by omega)) (Ok.ret ?_)
     rw [h2]; rfl
theorem longest_eq {x : GNode} (hx : Rgt x) (hc : x.cnt ≤ 1000) : F_1 x = some x.lon := lim_of ⟨x.hgt, fun m hm => (longest_ok x m hm hx hc).eq⟩
structure PV (x : GNode) : Prop where
 cnt : x.cnt ≤ 200
 hgt : x.hgt ≤ 20
 rgt : Rgt x
 lon : x.lon ≤ 1024
open Classical in
noncomputable def GNode.err (x : GNode) : Int := if 200 < x.cnt then 3 else if 20 < x.hgt then 9 else if ¬ Rgt x then 1 else if 1024 < x.lon then 3 else 0
open Classical in
theorem valid_eq (x : GNode) : F_q x = some x.err := by
 refine Ok.eq ?_
 unfold F_q GNode.err
 rw [nodes_eq]
 refine Ok.bind (P := fun y => y = min x.cnt 201) ⟨_, rfl, rfl⟩ fun y hy => ?_
 subst hy
 refine Ok.ite (fun c => Ok.ret (by rw [if_pos (by have := of_decide_eq_true c; omega)])) fun c => ?_
 have c := of_decide_eq_false c
 rw [if_neg (by omega), depth_eq]
 refine Ok.bind (P := fun y => y = min (x.hgt : Int) 21) ⟨_, rfl, rfl⟩ fun y hy => ?_
 subst hy
 refine Ok.ite (fun c => Ok.ret (by rw [if_pos (by have := of_decide_eq_true c; omega)])) fun c => ?_
 have c := of_decide_eq_false c
 rw [if_neg (by omega), right_eq]
 refine Ok.bind (P := fun y => y = decide (Rgt x)) ⟨_, rfl, rfl⟩ fun y hy => ?_
 subst hy
 refine Ok.ite (fun c => Ok.ret (by rw [if_pos (by simpa using c)])) fun c => ?_
 have c : Rgt x := by simpa using c
 rw [if_neg (fun h => h c), longest_eq c (by omega)]
 refine Ok.bind (P := fun y => y = x.lon) ⟨_, rfl, rfl⟩ fun y hy => ?_
 subst hy
 refine Ok.ite (fun c => Ok.ret (by rw [if_pos (of_decide_eq_true c)])) fun c => Ok.ret (by rw [if_neg (of_decide_eq_false c)])
theorem err_zero {x : GNode} : x.err = 0 ↔ PV x := by
 classical
 unfold GNode.err
 constructor
 ·intro h
  split at h
  ·omega
  ·split at h
   ·omega
   ·split at h
    ·omega
    ·split at h
     ·omega
     ·rename_i h1 h2 h3 h4
      exact ⟨by omega, by omega, Classical.byContradiction h3, by omega⟩
 ·rintro ⟨h1, h2, h3, h4⟩
  rw [if_neg (by omega), if_neg (by omega), if_neg (fun h => h h3), if_neg (by omega)]
theorem PV.kid {x k : GNode} (h : PV x) (hk : k ∈ x.Kids) : PV k :=
 ⟨by have := kid_cnt hk; have := h.cnt; omega, by have := kid_hgt hk; have := h.hgt; omega, h.rgt.kid hk, by have := (lon_rng x h.rgt).2.2 h.lon k hk; have := h.lon; omega⟩
mutual
def GNode.sho : GNode → Int
 | ⟨o, _, k, mi, _⟩ => if o = 1 then 1 else if o = 2 then sumI (GNode.shos k) else if o = 3 then minI ((GNode.shos k).headD 0) (GNode.shos k) else mi * (GNode.shos k).headD 0
def GNode.shos : List GNode → List Int
 | [] => []
 | a :: r => GNode.sho a :: GNode.shos r
end
theorem shos_map : ∀ l : List GNode, GNode.shos l = l.map GNode.sho
 | [] => by simp [GNode.shos]
 | a :: r => by simp only [GNode.shos, List.map_cons, shos_map r]
theorem sho_eq (x : GNode) : x.sho = if x.Op = 1 then 1 else if x.Op = 2 then sumI (x.Kids.map GNode.sho) else if x.Op = 3 then minI ((x.Kids.map GNode.sho).headD 0) (x.Kids.map GNode.sho) else x.Min * (x.Kids.map GNode.sho).headD 0 := by
 cases x; simp only [GNode.sho, shos_map]
theorem minI_le : ∀ (l : List Int) (m : Int), minI m l ≤ m ∧ (∀ y ∈ l, minI m l ≤ y) ∧ ∀ c, c ≤ m → (∀ y ∈ l, c ≤ y) → c ≤ minI m l
 | [], m => ⟨Int.le_refl m, by simp, fun c h _ => h⟩
 | a :: r, m => by
  obtain ⟨h1, h2, h3⟩ := minI_le r (min m a)
  simp only [minI]
  refine ⟨by omega, fun y hy => ?_, fun c hc hy => h3 c (by have := hy a (by simp); omega) fun y h => hy y (by simp [h])⟩
  rcases List.mem_cons.1 hy with rfl | hy
  ·omega
  ·exact h2 y hy
theorem minI_append : ∀ (a b : List Int) (m : Int), minI m (a ++ b) = minI (minI m a) b
 | [], b, m => rfl
 | x :: r, b, m => by simp only [List.cons_append, minI, minI_append r b]
theorem sum_le {f g : GNode → Int} : ∀ {l : List GNode}, (∀ k ∈ l, f k ≤ g k) → sumI (l.map f) ≤ sumI (l.map g)
 | [], _ => by simp [sumI]
 | a :: r, h => by
  have h1 := h a (by simp)
  have h2 := sum_le (l := r) fun k hk => h k (by simp [hk])
  simp only [List.map_cons, sumI]; omega
theorem sho_rng : ∀ x : GNode, PV x → 0 ≤ x.sho ∧ x.sho ≤ x.lon := by
 refine GNode.ind fun x ih hx => ?_
 have hk := fun k hk => ih k hk (hx.kid hk)
 have hl := hx.lon
 have hle := lon_eq x
 rw [sho_eq]
 rcases hx.rgt.kinds with ⟨h, _⟩ | ⟨h, h2⟩ | ⟨h, h2⟩ | ⟨h, ⟨k, h2⟩, h3, h4, h5, h6⟩
 ·rw [if_pos h]; rw [if_pos h] at hle; omega
 ·rw [if_neg (by omega), if_pos h]
  rw [if_neg (by omega), if_pos h] at hle
  have := sum_le (f := GNode.sho) (g := GNode.lon) (l := x.Kids) fun k hk' => (hk k hk').2
  have : 0 ≤ sumI (x.Kids.map GNode.sho) := by
   have : ∀ l : List GNode, (∀ k ∈ l, 0 ≤ k.sho) → 0 ≤ sumI (l.map GNode.sho) := by
    intro l; induction l with
    | nil => intro _; simp [sumI]
    | cons a r ih => intro h; have := ih fun y hy => h y (by simp [hy]); have := h a (by simp); simp only [List.map_cons, sumI]; omega
   exact this _ fun k hk' => (hk k hk').1
  omega
 ·rw [if_neg (by omega), if_neg (by omega), if_pos h]
  rw [if_neg (by omega), if_neg (by omega), if_pos h] at hle
  obtain ⟨q, hq⟩ : ∃ q, x.Kids = q :: x.Kids.tail := by
   cases hkk : x.Kids with
   | nil => rw [hkk] at h2; simp at h2
   | cons q r => exact ⟨q, rfl⟩
  have hqm : q ∈ x.Kids := by rw [hq]; simp
  have e : (x.Kids.map GNode.sho).headD 0 = q.sho := by rw [hq]; rfl
  rw [e]
  obtain ⟨m1, m2, m3⟩ := minI_le (x.Kids.map GNode.sho) q.sho
  have h8 := hk q hqm
  have h9 := (lon_rng x hx.rgt).2.2 hl q hqm
  refine ⟨m3 0 h8.1 fun y hy => ?_, by omega⟩
  obtain ⟨z, hz, rfl⟩ := List.mem_map.1 hy
  exact (hk z hz).1
 ·rw [if_neg (by omega), if_neg (by omega), if_neg (by omega), h2]
  rw [if_neg (by omega), if_neg (by omega), if_neg (by omega), h2] at hle
  have h7 := hk k (by rw [h2]; simp)
  have h8 := lon_rng k (hx.rgt.kid (k := k) (by rw [h2]; simp))
  simp only [List.map_cons, List.map_nil, List.headD_cons] at hle ⊢
  have m1 : 0 ≤ x.Min * k.sho := Int.mul_nonneg h3 h7.1
  have m2 : x.Min * k.sho ≤ x.Max * k.lon := Int.mul_le_mul h5 h7.2 h7.1 (by omega)
  omega
end Go.Ab
namespace Go.Ab
open Go.Proofs
theorem Le.loopL {σ ρ : Type} {f g : σ → Option (Fl σ ρ)} {s : σ} (h : ∀ s, Le (f s) (g s)) : Le (Go.Ab.loop f s) (Go.Ab.loop g s) := fun r hr => by
 obtain ⟨n, hn⟩ := loop_iter.1 hr
 exact loop_iter.2 ⟨n, Le.iter h n s r hn⟩
theorem Le.up {α : Type} {f : Nat → Option α} (h : ∀ n, Le (f n) (f (n + 1))) {n m : Nat} (hm : n ≤ m) : Le (f n) (f m) := by
 induction hm with
 | refl => exact Le.refl
 | step _ ih => exact fun r hr => h _ r (ih r hr)
theorem Ok.lim {α : Type} {f : Nat → Option α} {Q : α → Prop} (h : ∀ n, Le (f n) (f (n + 1))) (n : Nat) (hn : Ok (f n) Q) : Ok (Go.Ab.lim f) Q := by
 obtain ⟨y, e, hy⟩ := hn
 exact ⟨y, lim_of ⟨n, fun m hm => Le.up h hm y e⟩, hy⟩
theorem pattern_mono : ∀ n (t : GTape) (d : Int), Le (FR_0 n t d) (FR_0 (n + 1) t d)
 | 0, t, d => by simp only [FR_0]; exact Le.non
 | n + 1, t, d => by
  have ih := pattern_mono n
  rw [FR_0, FR_0]
  (repeat' (with_reducible first | exact Le.refl | assumption | (refine Le.bind ?_ fun _ => ?_) | (refine Le.jn ?_ fun _ => ?_) | (refine Le.grp fun _ => ?_) | (refine Le.chk ?_) | (refine Le.cond ?_ ?_) | (refine Le.fl (fun _ => ?_) fun _ => ?_) | (refine Le.sum (fun _ => ?_) fun _ => ?_) | (refine Le.forL (fun _ _ _ => ?_) _ _ _) | (refine Le.foldL (fun _ _ _ => ?_) _ _ _) | (refine Le.loopL fun _ => ?_)))
  all_goals exact ih _ _
def TO (t : GTape) : Prop := 0 ≤ t.at_ ∧ (t.L.length : Int) ≤ 9223372036854775807
theorem nx_ok {t : GTape} {n : Int} (h : TO t) (hn : 0 < n) : Ok (F_i t n) fun y => 0 ≤ y.1 ∧ y.1 < n ∧ TO y.2 := by
 unfold F_i
 refine Ok.ite (fun c => Ok.ret ⟨Int.le_refl 0, hn, h⟩) fun c => ?_
 have c' : t.at_ < t.L.length := by simpa using c
 have h1 := h.1; have h2 := h.2
 refine Ok.chk (inb_iff.2 ⟨h.1, c'⟩) (Ok.chk (in64_iff.2 ⟨by omega, by omega⟩) (Ok.chk (divs_iff.2 ⟨Int.emod_nonneg _ (by decide), hn⟩) (Ok.ret ⟨Int.emod_nonneg _ (by omega), Int.emod_lt_of_pos _ hn, ?_, h2⟩)))
 show 0 ≤ t.at_ + 1
 omega
theorem btw_ok {t : GTape} {a b : Int} (h : TO t) (h1 : -100000 ≤ a) (h2 : a ≤ b) (h3 : b ≤ 100000) : Ok (F_x t a b) fun y => a ≤ y.1 ∧ y.1 ≤ b ∧ TO y.2 := by
 unfold F_x
 refine Ok.chk (in64_s (by omega) (by omega)) (Ok.chk (in64_s (by omega) (by omega)) (Ok.bind (nx_ok h (by omega)) fun y hy => Ok.chk (in64_s (by omega) (by omega)) (Ok.ret ⟨?_, ?_, hy.2.2⟩)))
 ·show a ≤ a + y.1; omega
 ·show a + y.1 ≤ b; omega
structure gd (d : Nat) (x : GNode) : Prop where
 rgt : Rgt x
 hgt : x.hgt ≤ d + 1
 cnt : 2 * x.cnt + 1 ≤ 3 ^ (d + 1)
 lon : x.lon ≤ 4 ^ d
theorem pow3_pos (d : Nat) : (1 : Int) ≤ 3 ^ d := by
 induction d with
 | zero => decide
 | succ d ih => rw [Int.pow_succ]; omega
theorem pow4_pos (d : Nat) : (1 : Int) ≤ 4 ^ d := by
 induction d with
 | zero => decide
 | succ d ih => rw [Int.pow_succ]; omega
theorem gd.up {d : Nat} {x : GNode} (h : gd d x) : gd (d + 1) x := by
 obtain ⟨h1, h2, h3, h4⟩ := h
 have := pow3_pos (d + 1); have := pow4_pos d
 refine ⟨h1, by omega, ?_, ?_⟩
 ·rw [Int.pow_succ 3 (d + 1)]; omega
 ·rw [Int.pow_succ]; omega
theorem gd.lift {x : GNode} : ∀ {d : Nat}, gd 0 x → gd d x
 | 0, h => h
 | d + 1, h => (gd.lift h).up
theorem gd_set {l : List GRange} (h1 : rngP l) (h2 : l ≠ []) : gd 0 (GNode.mk 1 l [] 0 0) := by
 refine ⟨.mk _ (.inl ⟨rfl, h1, h2, rfl, rfl, rfl⟩) (by simp), ?_, ?_, ?_⟩
 ·rw [hgt_eq]; simp [GNode.hgts]
 ·rw [cnt_eq]; simp [GNode.cnts]
 ·rw [lon_eq]; simp; omega
def sets8 : List (List GRange) := [[(GRange.mk 97 98)],[(GRange.mk 48 57)],[(GRange.mk 97 97)],[(GRange.mk 98 98)],[(GRange.mk 48 57), (GRange.mk 97 102)],[(GRange.mk 107 107)],[(GRange.mk 45 45)],[(GRange.mk 0 9), (GRange.mk 250 255)]]
instance (l : List GRange) (i : Nat) : Decidable (rng1 l i) := inferInstanceAs (Decidable (_ ∧ _))
instance (l : List GRange) : Decidable (rngP l) := inferInstanceAs (Decidable (∀ i, i < l.length → rng1 l i))
theorem sets8_ok : ∀ i, i < 8 → rngP (sets8.getD i default) ∧ sets8.getD i default ≠ [] := by
 intro i hi
 have : i = 0 ∨ i = 1 ∨ i = 2 ∨ i = 3 ∨ i = 4 ∨ i = 5 ∨ i = 6 ∨ i = 7 := by omega
 rcases this with rfl | rfl | rfl | rfl | rfl | rfl | rfl | rfl <;> exact ⟨by decide, by simp [sets8]⟩
theorem mset_ok {t : GTape} (h : TO t) : Ok (F_11 t) fun y => gd 0 y.1 ∧ y.1.Op = 1 ∧ TO y.2 := by
 unfold F_11
 refine Ok.bind (nx_ok h (by simp)) fun y hy => Ok.chk (inb_iff.2 ⟨hy.1, hy.2.1⟩) (Ok.ret ?_)
 have := sets8_ok y.1.toNat (by have := hy.2.1; simp at this; omega)
 exact ⟨gd_set this.1 this.2, rfl, hy.2.2⟩
theorem hgts_le {c : Nat} : ∀ {l : List GNode}, (∀ k ∈ l, k.hgt ≤ c) → GNode.hgts l ≤ c
 | [], _ => by simp [GNode.hgts]
 | a :: r, h => by
  have h1 := h a (by simp)
  have h2 := hgts_le (l := r) fun k hk => h k (by simp [hk])
  simp only [GNode.hgts]; omega
theorem gd_node {e : Nat} {op : Int} {kids : List GNode} {mi ma : Int} (ho : okN (GNode.mk op [] kids mi ma)) (hk : ∀ k ∈ kids, gd e k) (hl : kids.length ≤ 3) (hma : ma ≤ 4) : gd (e + 1) (GNode.mk op [] kids mi ma) := by
 have hr : Rgt (GNode.mk op [] kids mi ma) := .mk _ ho fun k h => (hk k h).rgt
 have p3 := pow3_pos (e + 1); have p4 := pow4_pos e
 refine ⟨hr, ?_, ?_, ?_⟩
 ·rw [hgt_eq]
  have := hgts_le (c := e + 1) (l := kids) fun k h => (hk k h).hgt
  show GNode.hgts kids + 1 ≤ _; omega
 ·rw [cnt_eq]
  show 2 * (GNode.cnts kids + 1) + 1 ≤ _
  have h3 : ∀ l : List GNode, (∀ k ∈ l, gd e k) → l.length ≤ 3 → 2 * GNode.cnts l ≤ 3 * (3 ^ (e + 1) - 1) := by
   intro l h hl
   match l, h, hl with
   | [], _, _ => simp only [GNode.cnts]; omega
   | [a], h, _ => have h1 := (h a (by simp)).cnt; simp only [GNode.cnts]; omega
   | [a, b], h, _ => have h1 := (h a (by simp)).cnt; have h2 := (h b (by simp)).cnt; simp only [GNode.cnts]; omega
   | [a, b, c], h, _ => have h1 := (h a (by simp)).cnt; have h2 := (h b (by simp)).cnt; have h3 := (h c (by simp)).cnt; simp only [GNode.cnts]; omega
   | _ :: _ :: _ :: _ :: _, _, hl => simp only [List.length_cons] at hl; omega
  have := h3 kids hk hl
  rw [Int.pow_succ 3 (e + 1)]; omega
 ·rw [lon_eq, Int.pow_succ]
  have hkl : ∀ k ∈ kids, 0 ≤ k.lon ∧ k.lon ≤ 4 ^ e := fun k h => ⟨by have := lon_rng k (hk k h).rgt; omega, (hk k h).lon⟩
  have s1 := (sum_rng hkl).2.1
  have s2 : (4 : Int) ^ e * (kids.length : Int) ≤ 4 ^ e * 3 := Int.mul_le_mul_of_nonneg_left (by omega) (by omega)
  have m1 := max_rng (by omega) hkl
  rcases hr.kinds with ⟨h, _⟩ | ⟨h, h2⟩ | ⟨h, h2⟩ | ⟨h, ⟨k, h2⟩, h3, h4, h5, h6⟩ <;> dsimp only at h <;> subst h
  ·simp only [if_true]; omega
  ·rw [if_neg (show ¬ (2 : Int) = 1 by decide), if_pos rfl]
   show min (sumI (kids.map GNode.lon)) 1025 ≤ _; omega
  ·rw [if_neg (show ¬ (3 : Int) = 1 by decide), if_neg (show ¬ (3 : Int) = 2 by decide), if_pos rfl]
   show min (maxI (kids.map GNode.lon)) 1025 ≤ _; omega
  ·rw [if_neg (show ¬ (4 : Int) = 1 by decide), if_neg (show ¬ (4 : Int) = 2 by decide), if_neg (show ¬ (4 : Int) = 3 by decide)]
   dsimp only at h2 h3 h4 h5
   subst h2
   have h7 := hkl k (by simp)
   show min (ma * k.lon) 1025 ≤ _
   have : ma * k.lon ≤ 4 * 4 ^ e := Int.mul_le_mul hma h7.2 h7.1 (by omega)
   omega
theorem pattern_ok : ∀ (d m : Nat) (t : GTape), d < m → TO t → d ≤ 100 → Ok (FR_0 m t ((d : Int) + 1)) fun y => gd d y.1 ∧ TO y.2 := by
 intro d
 induction d with
 | zero =>
  intro m t hm ht _
  obtain ⟨m, rfl⟩ : ∃ n, m = n + 1 := ⟨m - 1, by omega⟩
  rw [FR_0]
  exact Ok.ite (fun _ => Ok.bind (mset_ok ht) fun y hy => Ok.ret ⟨hy.1, hy.2.2⟩) fun c => by have := of_decide_eq_false c; simp at this
 | succ e ih =>
  intro m t hm ht he
  obtain ⟨m, rfl⟩ : ∃ n, m = n + 1 := ⟨m - 1, by omega⟩
  have e1 : ((e + 1 : Nat) : Int) + 1 - 1 = (e : Int) + 1 := by omega
  have hrec : ∀ t, TO t → Ok (FR_0 m t ((e : Int) + 1)) fun y => gd e y.1 ∧ TO y.2 := fun t h => ih m t (by omega) h (by omega)
  rw [FR_0]
  simp only [e1]
  refine Ok.ite (fun c => Ok.bind (mset_ok ht) fun y hy => Ok.ret ⟨hy.1.lift, hy.2.2⟩) fun _ => ?_
  refine Ok.jn (P := fun o => Fl.elim (fun j : Int × GTape => (j.1 = 2 ∨ j.1 = 3) ∧ TO j.2) (fun r : GNode × GTape => gd (e + 1) r.1 ∧ TO r.2) o) ?_ fun o ho => ?_
  ·refine Ok.bind (nx_ok ht (by omega)) fun y hy => Ok.jn (P := fun _ => True) (Ok.ite (fun _ => Ok.ret trivial) fun _ => Ok.ret trivial) fun j _ => ?_
   refine Ok.ite (fun _ => Ok.ret ⟨.inl rfl, hy.2.2⟩) fun _ => Ok.ite (fun _ => Ok.ret ⟨.inr rfl, hy.2.2⟩) fun _ => Ok.ite (fun _ => ?_) fun _ => Ok.bind (mset_ok hy.2.2) fun z hz => Ok.ret ⟨hz.1.lift, hz.2.2⟩
   refine Ok.bind (btw_ok hy.2.2 (by omega) (by omega) (by omega)) fun z hz => Ok.chk (in64_s (by omega) (by omega)) (Ok.bind (nx_ok hz.2.2 (by omega)) fun w hw => ?_)
   refine Ok.jn (P := fun j : Int × Int => 0 ≤ j.1 ∧ 1 ≤ j.2 ∧ j.1 ≤ j.2 ∧ j.2 ≤ 4 ∧ ¬ (j.1 = 1 ∧ j.2 = 1)) (Ok.grp (Ok.ite (fun c => Ok.ret ?_) fun c => Ok.ret ?_)) fun j hj => ?_
   ·simp only [Bool.and_eq_true, decide_eq_true_eq] at c
    exact ⟨hw.1, by omega, by show w.1 ≤ 2; omega, by omega, by show ¬ (w.1 = 1 ∧ (2 : Int) = 1); omega⟩
   ·refine ⟨hw.1, hz.1, by have := hw.2.1; show w.1 ≤ z.1; omega, hz.2.1, fun ⟨h1, h2⟩ => ?_⟩
    dsimp only at h1 h2
    simp [h1, h2] at c
   ·refine Ok.chk (in64_s (by omega) (by omega)) (Ok.bind (hrec _ hw.2.2) fun v hv => Ok.ret ⟨?_, hv.2⟩)
    exact gd_node (.inr (.inr ⟨rfl, rfl, rfl, hj.1, hj.2.1, hj.2.2.1, by show j.2 ≤ 64; omega, hj.2.2.2.2⟩)) (by simp; exact hv.1) (by simp) hj.2.2.2.1
  ·cases o with
   | ex r => exact Ok.ret ho
   | nx j =>
    obtain ⟨hj, ht2⟩ := ho
    dsimp only [Fl.elim]
    refine Ok.bind (btw_ok ht2 (by omega) (by omega) (by omega)) fun n hn => ?_
    refine Ok.bind (Ok.loop (Q := fun r : Int × List GNode × GTape => r.1 = j.1 ∧ (r.2.1.length : Int) = n.1 ∧ (∀ k ∈ r.2.1, gd e k ∧ k.Op ≠ j.1) ∧ TO r.2.2) (fun x : Int × Int × List GNode × GTape => x.2.1 = j.1 ∧ 0 ≤ x.1 ∧ x.1 + x.2.2.1.length = n.1 ∧ (∀ k ∈ x.2.2.1, gd e k ∧ k.Op ≠ j.1) ∧ TO x.2.2.2) (fun x => x.1.toNat) (fun x hx => ?_) _ ⟨rfl, by omega, by simp, by simp, hn.2.2⟩) fun r hr => Ok.ret ⟨?_, hr.2.2.2⟩
    ·obtain ⟨a, op, kids, t3⟩ := x
     obtain ⟨h1, h2, h3, h4, h5⟩ := hx
     dsimp only at h1 h2 h3 h4 h5
     subst h1
     refine Ok.ite (fun c => ?_) fun c => ?_
     ·have c : 0 < a := of_decide_eq_true c
      refine Ok.chk (in64_s (by omega) (by omega)) (Ok.bind (hrec _ h5) fun y hy => ?_)
      refine Ok.jn (P := fun q : GNode × GTape => (gd e q.1 ∧ q.1.Op ≠ j.1) ∧ TO q.2) (Ok.ite (fun f => ?_) fun f => ?_) fun q hq => ?_
      ·refine Ok.bind (mset_ok hy.2) fun z hz => Ok.ret ⟨⟨hz.1.lift, ?_⟩, hz.2.2⟩
       rw [hz.2.1]; omega
      ·exact Ok.ret ⟨⟨hy.1, of_decide_eq_false f⟩, hy.2⟩
      ·refine Ok.chk (room_s (by simp; omega)) (Ok.chk (in64_s (by omega) (by omega)) (Ok.ret ⟨⟨rfl, by dsimp only; omega, by dsimp only; simp; omega, fun k hk => ?_, hq.2⟩, by dsimp only; omega⟩))
       rcases List.mem_append.1 hk with hk | hk
       ·exact h4 k hk
       ·cases List.mem_singleton.1 hk; exact hq.1
     ·have c : ¬ 0 < a := of_decide_eq_false c
      exact Ok.ret ⟨rfl, by dsimp only; omega, h4, h5⟩
    ·obtain ⟨r1, r2, r3, r4⟩ := hr
     rw [r1]
     exact gd_node (.inr (.inl ⟨hj, by show 2 ≤ r.2.1.length; omega, rfl, rfl, rfl, fun k hk => (r3 k hk).2⟩)) (fun k hk => (r3 k hk).1) (by omega) (by omega)
end Go.Ab
namespace Go.Ab
open Go.Proofs Go.RowKit
inductive Fit : GNode → Prop
 | mk (x : GNode) (h1 : rng .i64 x.Op) (h2 : x.Ranges.length ≤ maxLen) (h3 : x.Kids.length ≤ maxLen) (h4 : rng .i64 x.Min) (h5 : rng .i64 x.Max) (hk : ∀ k ∈ x.Kids, Fit k) : Fit x
def RRng (x : V) : Prop := ∃ l : List GRange, x = .sl (l.map GRange.v) ∧ l.length ≤ maxLen
def RKid (x : V) : Prop := ∃ l : List GNode, x = .sl (GNode.vs l) ∧ l.length ≤ maxLen ∧ ∀ k ∈ l, Fit k
def rho05 (t : TypeId) : Option (V → Prop) := bif Nat.beq t 23 then some RRng else bif Nat.beq t 24 then some RKid else none
theorem byteOK {y : V} (h : Sh.has (.int .u8) y) : ∃ a : UInt8, y = byteV a := by
 obtain ⟨n, e, h1, h2⟩ := h
 refine ⟨UInt8.ofNat n.toNat, ?_⟩
 rw [e, byteV]
 congr 1
 have : (UInt8.ofNat n.toNat).toNat = n.toNat % 256 := by simp
 rw [this]; omega
theorem has_c {s : Sh} {r : List Sh} : ∀ {xs : List V}, Sh.hasL (s :: r) xs → ∃ x q, xs = x :: q ∧ s.has x ∧ Sh.hasL r q
 | [], h => h.elim
 | x :: q, h => ⟨x, q, rfl, h.1, h.2⟩
theorem has_n : ∀ {xs : List V}, Sh.hasL [] xs → xs = []
 | [], _ => rfl
 | _ :: _, h => h.elim
theorem nodeOK {zs : List V} (h : Sh.hasL [.int .i64, .rk RRng, .rk RKid, .int .i64, .int .i64] zs) : ∃ a : GNode, (.agg zs : V) = GNode.v a ∧ Fit a := by
 obtain ⟨_, q1, rfl, ⟨n0, rfl, g0⟩, k1⟩ := has_c h
 obtain ⟨_, q2, rfl, ⟨l1, rfl, g1⟩, k2⟩ := has_c k1
 obtain ⟨_, q3, rfl, ⟨l2, rfl, g2, g2'⟩, k3⟩ := has_c k2
 obtain ⟨_, q4, rfl, ⟨n3, rfl, g3⟩, k4⟩ := has_c k3
 obtain ⟨_, q5, rfl, ⟨n4, rfl, g4⟩, k5⟩ := has_c k4
 obtain rfl := has_n k5
 exact ⟨⟨n0, l1, l2, n3, n4⟩, rfl, .mk _ g0 g1 g2 g3 g4 g2'⟩
theorem map_of2 {α : Type} {f : α → V} {p : α → Prop} : ∀ {ys : List V}, (∀ y ∈ ys, ∃ a, y = f a ∧ p a) → ∃ l : List α, ys = l.map f ∧ ∀ a ∈ l, p a
 | [], _ => ⟨[], rfl, by simp⟩
 | y :: r, h => by
  obtain ⟨a, rfl, ha⟩ := h y (by simp)
  obtain ⟨l, rfl, hl⟩ := map_of2 (ys := r) fun z hz => h z (by simp [hz])
  exact ⟨a :: l, rfl, by simp; exact ⟨ha, hl⟩⟩
theorem rho_at05 : ∀ t R, rho05 t = some R → RhoAt Tryz.prog rho05 30 t R := by
 intro t R h
 unfold rho05 at h
 by_cases c : Nat.beq t 23 = true
 ·rw [c] at h; cases h
  obtain rfl := Nat.eq_of_beq_eq_true c
  refine ⟨57, true, [.int .u8, .int .u8], by kernel_rfl, by kernel_rfl, by kernel_rfl, fun ys hl h => ?_⟩
  obtain ⟨l, rfl⟩ := map_of (f := GRange.v) (ys := ys) fun y hy => by
   obtain ⟨zs, rfl, hz⟩ := h y hy
   obtain ⟨_, q1, rfl, g0, k1⟩ := has_c hz
   obtain ⟨_, q2, rfl, g1, k2⟩ := has_c k1
   obtain rfl := has_n k2
   obtain ⟨a, rfl⟩ := byteOK g0
   obtain ⟨b, rfl⟩ := byteOK g1
   exact ⟨⟨a, b⟩, rfl⟩
  exact ⟨l, rfl, by simpa using hl⟩
 ·rw [Bool.not_eq_true] at c
  rw [c] at h
  by_cases c2 : Nat.beq t 24 = true
  ·rw [c2] at h; cases h
   obtain rfl := Nat.eq_of_beq_eq_true c2
   refine ⟨26, true, [.int .i64, .rk RRng, .rk RKid, .int .i64, .int .i64], by kernel_rfl, by kernel_rfl, by kernel_rfl, fun ys hl h => ?_⟩
   obtain ⟨l, rfl, hf⟩ := map_of2 (f := GNode.v) (p := Fit) (ys := ys) fun y hy => by
    obtain ⟨zs, rfl, hz⟩ := h y hy
    exact nodeOK hz
   exact ⟨l, by rw [GNode.vs_eq], by simpa using hl, hf⟩
  ·rw [Bool.not_eq_true] at c2
   rw [c2] at h; cases h
end Go.Ab
namespace Go.Ab
open Go.Proofs
theorem at_take {α : Type} [Inhabited α] {l : List α} {n : Nat} (h : n < l.length) : ∃ k, k ∈ l ∧ l.getD n default = k ∧ l.take (n + 1) = l.take n ++ [k] :=
 ⟨l[n], List.getElem_mem h, by rw [List.getD_eq_getElem?_getD, List.getElem?_eq_getElem h]; rfl, List.take_succ_eq_append_getElem h⟩
theorem rcount_ok : ∀ (x : GNode) (m : Nat) (h : Int), x.hgt ≤ m → 0 ≤ h → h ≤ 200 → Ok (FR_e m x h) (· = min (h + x.cnt) 201) := by
 refine GNode.ind fun x ih m h hm h0 h1 => ?_
 obtain ⟨m, rfl⟩ : ∃ n, m = n + 1 := ⟨m - 1, by have := hgt_pos x; omega⟩
 rw [FR_e]
 refine Ok.chk (in64_s (by omega) (by omega)) (Ok.bind (Ok.loop (Q := fun r => r = min (h + x.cnt) 201) (fun s : Int × Int => ∃ n : Nat, s.2 = (n : Int) ∧ n ≤ x.Kids.length ∧ (n : Int) ≤ 201 ∧ (n : Int) ≤ s.1 ∧ s.1 = min (h + 1 + GNode.cnts (x.Kids.take n)) 201) (fun s => (x.Kids.length - s.2).toNat) (fun s hs => ?_) _ ⟨0, rfl, by omega, by omega, by dsimp only; omega, by simp [GNode.cnts]; omega⟩) fun r hr => Ok.ret hr)
 obtain ⟨s, i⟩ := s
 obtain ⟨n, e, h2, h3, h5, h4⟩ := hs
 dsimp only at e h4 h5
 subst e
 refine Ok.grp (Ok.ite (fun c => ?_) fun c => ?_)
 ·simp only [Bool.and_eq_true, decide_eq_true_eq] at c
  obtain ⟨k, hk, hg, ht⟩ := at_take (l := x.Kids) (n := n) (by omega)
  have hp := cnt_pos k
  have hc : GNode.cnts (x.Kids.take (n + 1)) = GNode.cnts (x.Kids.take n) + k.cnt := by rw [ht, cnts_append]; simp [GNode.cnts]
  have hl := cnts_len (x.Kids.take n)
  refine Ok.chk (inb_iff.2 ⟨by dsimp only; omega, by dsimp only; omega⟩) ?_
  dsimp only
  rw [Int.toNat_natCast, hg]
  refine Ok.bind (ih k hk m s (by have := kid_hgt hk; omega) (by omega) (by omega)) fun y hy => Ok.chk (in64_s (by omega) (by omega)) (Ok.ret ⟨⟨n + 1, rfl, by omega, by omega, by dsimp only; omega, ?_⟩, by dsimp only; omega⟩)
  dsimp only
  rw [hc, hy]; omega
 ·have c' : ¬ ((n : Int) < x.Kids.length ∧ s ≤ 200) := by simpa only [Bool.and_eq_true, decide_eq_true_eq, ← Bool.not_eq_true] using c
  refine Ok.ret ?_
  show s = _
  rw [cnt_eq]
  by_cases e : n = x.Kids.length
  ·subst e; rw [List.take_length] at h4; omega
  ·have hs : GNode.cnts x.Kids = GNode.cnts (x.Kids.take n) + GNode.cnts (x.Kids.drop n) := by rw [← cnts_append, List.take_append_drop]
   have := cnts_len (x.Kids.drop n)
   omega
theorem rnodes_eq (x : GNode) : F_12 x = some (min x.cnt 201) := by
 have : F_e x 0 = some (min x.cnt 201) := lim_of ⟨x.hgt, fun m hm => by
  have := (rcount_ok x m 0 hm (by omega) (by omega)).eq
  rwa [Int.zero_add] at this⟩
 unfold F_12
 rw [this]
 show some _ = some _
 congr 1; omega
theorem rdepth_ok : ∀ (x : GNode) (m : Nat), x.hgt ≤ m → x.cnt ≤ 1000 → Ok (FR_f m x) (· = (x.hgt : Int)) := by
 refine GNode.ind fun x ih m hm hc => ?_
 obtain ⟨m, rfl⟩ : ∃ n, m = n + 1 := ⟨m - 1, by have := hgt_pos x; omega⟩
 have hkl := kids_cnt x
 have hh := hgt_cnt x
 rw [FR_f]
 refine Ok.bind (Ok.loop (Q := fun r => r = (GNode.hgts x.Kids : Int)) (fun s : Int × Int => ∃ n : Nat, s.2 = (n : Int) ∧ n ≤ x.Kids.length ∧ s.1 = (GNode.hgts (x.Kids.take n) : Int)) (fun s => (x.Kids.length - s.2).toNat) (fun s hs => ?_) _ ⟨0, rfl, by omega, by simp [GNode.hgts]⟩) fun r hr => ?_
 ·obtain ⟨s, i⟩ := s
  obtain ⟨n, e, h2, h4⟩ := hs
  dsimp only at e h4
  subst e
  refine Ok.ite (fun c => ?_) fun c => ?_
  ·have c : (n : Int) < x.Kids.length := of_decide_eq_true c
   obtain ⟨k, hk, hg, ht⟩ := at_take (l := x.Kids) (n := n) (by omega)
   refine Ok.chk (inb_iff.2 ⟨by dsimp only; omega, c⟩) ?_
   dsimp only
   rw [Int.toNat_natCast, hg]
   refine Ok.bind (ih k hk m (by have := kid_hgt hk; omega) (by have := kid_cnt hk; omega)) fun y hy => Ok.chk (in64_s (by omega) (by omega)) (Ok.ret ⟨⟨n + 1, rfl, by omega, ?_⟩, by dsimp only; omega⟩)
   dsimp only
   rw [ht, hgts_append, hy, h4]; simp only [GNode.hgts]; omega
  ·have c : ¬ (n : Int) < x.Kids.length := of_decide_eq_false c
   have e : n = x.Kids.length := by omega
   subst e
   rw [List.take_length] at h4
   exact Ok.ret h4
 ·have := hgt_eq x
  exact Ok.chk (in64_s (by omega) (by omega)) (Ok.ret (by omega))
theorem rdepth_eq {x : GNode} (hc : x.cnt ≤ 1000) : F_f x = some (x.hgt : Int) := lim_of ⟨x.hgt, fun m hm => (rdepth_ok x m hm hc).eq⟩
open Classical in
theorem rranges_ok (l : List GRange) : F_1i l = some (decide (rngP l ∧ l ≠ [])) := by
 refine Ok.eq ?_
 unfold F_1i
 refine Ok.bind (Ok.loop (Q := fun r => (r = .inl () ∧ rngP l) ∨ (r = .inr false ∧ ¬ rngP l)) (fun i : Int => ∃ n : Nat, i = (n : Int) ∧ n ≤ l.length ∧ n ≤ 129 ∧ ∀ j, j < n → rng1 l j) (fun i => (l.length - i).toNat) (fun i hi => ?_) _ ⟨0, rfl, by omega, by omega, fun j h => by omega⟩) fun r hr => ?_
 ·obtain ⟨n, rfl, h2, h3, h4⟩ := hi
  unfold F_23
  refine Ok.ite (fun c => ?_) fun c => ?_
  ·have c : (n : Int) < l.length := of_decide_eq_true c
   have hb : n ≤ 128 := by
    by_cases c : n ≤ 128
    ·exact c
    ·have := rng_lo (l := l) 128 fun j hj => h4 j (by omega)
     have := (l.getD 128 default).Low.toNat_lt
     omega
   refine Ok.jn (P := fun o => Fl.elim (fun _ => rng1 l n) (fun r => r = false ∧ ¬ rngP l) o) (Ok.chk (inb_iff.2 ⟨by omega, c⟩) (Ok.chk (inb_iff.2 ⟨by omega, c⟩) ?_)) fun o ho => ?_
   ·have e0 : (n : Int).toNat = n := Int.toNat_natCast n
    rw [e0]
    refine Ok.ite (fun d => Ok.ret ⟨rfl, fun h => ?_⟩) fun d => Ok.ite (fun d2 => ?_) fun d2 => Ok.ret ⟨?_, fun h => ?_⟩
    ·have d := of_decide_eq_true d
     have := (h n (by omega)).1; omega
    ·have d := of_decide_eq_false d
     have d2 := of_decide_eq_true d2
     have e1 : ((n : Int) - 1).toNat = n - 1 := by omega
     rw [e1]
     have hlt := (l.getD (n - 1) default).High.toNat_lt
     refine Ok.chk (inb_iff.2 ⟨by omega, c⟩) (Ok.chk (in64_s (by omega) (by omega)) (Ok.chk (inb_iff.2 ⟨by omega, by omega⟩) (Ok.chk (in64_s (by omega) (by omega)) (Ok.ite (fun d3 => Ok.ret ⟨rfl, fun h => ?_⟩) fun d3 => Ok.ret ⟨?_, fun h => ?_⟩))))
     ·have d3 := of_decide_eq_true d3
      have := (h n (by omega)).2 (by omega); omega
     ·omega
     ·have d3 := of_decide_eq_false d3; omega
    ·have d := of_decide_eq_false d; omega
    ·have d2 := of_decide_eq_false d2; omega
   ·cases o with
    | ex r => rw [Fl_ex]; exact Ok.ret (.inr ⟨by rw [ho.1], ho.2⟩)
    | nx j =>
     rw [Fl_nx]
     refine Ok.chk (in64_s (by omega) (by omega)) (Ok.ret ⟨⟨n + 1, rfl, by omega, by omega, fun j hj => ?_⟩, by omega⟩)
     by_cases e : j = n
     ·subst e; exact ho
     ·exact h4 j (by omega)
  ·have c : ¬ (n : Int) < l.length := of_decide_eq_false c
   exact Ok.ret (.inl ⟨rfl, fun j hj => h4 j (by omega)⟩)
 ·rcases hr with ⟨rfl, h⟩ | ⟨rfl, h⟩
  ·refine Ok.ret ?_
   rw [Bool.eq_iff_iff, decide_eq_true_eq, decide_eq_true_eq]
   exact ⟨fun h' => ⟨h, fun e => by simp [e] at h'⟩, fun h' => by have := List.length_pos_iff.2 h'.2; omega⟩
  ·refine Ok.ret ?_
   show false = _
   rw [eq_comm, decide_eq_false_iff_not]
   exact fun h' => h h'.1
open Classical in
theorem rkids_ok {x : GNode} (hc : x.cnt ≤ 1000) : F_1j x = some (decide (2 ≤ x.Kids.length ∧ x.Ranges = [] ∧ x.Min = 0 ∧ x.Max = 0 ∧ ∀ k ∈ x.Kids, k.Op ≠ x.Op)) := by
 have hkl := kids_cnt x
 refine Ok.eq ?_
 unfold F_1j
 refine Ok.bind (Ok.loop (Q := fun r => (r = .inl () ∧ ∀ k ∈ x.Kids, k.Op ≠ x.Op) ∨ (r = .inr false ∧ ∃ k ∈ x.Kids, k.Op = x.Op)) (fun i : Int => ∃ n : Nat, i = (n : Int) ∧ n ≤ x.Kids.length ∧ ∀ k ∈ x.Kids.take n, k.Op ≠ x.Op) (fun i => (x.Kids.length - i).toNat) (fun i hi => ?_) _ ⟨0, rfl, by omega, by simp⟩) fun r hr => ?_
 ·obtain ⟨n, rfl, h2, h4⟩ := hi
  unfold F_24
  refine Ok.ite (fun c => ?_) fun c => ?_
  ·have c : (n : Int) < x.Kids.length := of_decide_eq_true c
   obtain ⟨k, hk, hg, ht⟩ := at_take (l := x.Kids) (n := n) (by omega)
   refine Ok.chk (inb_iff.2 ⟨by omega, c⟩) ?_
   rw [Int.toNat_natCast, hg]
   refine Ok.ite (fun d => Ok.ret (.inr ⟨rfl, k, hk, of_decide_eq_true d⟩)) fun d => Ok.chk (in64_s (by omega) (by omega)) (Ok.ret ⟨⟨n + 1, rfl, by omega, fun q hq => ?_⟩, by omega⟩)
   rw [ht] at hq
   rcases List.mem_append.1 hq with hq | hq
   ·exact h4 q hq
   ·cases List.mem_singleton.1 hq; exact of_decide_eq_false d
  ·have c : ¬ (n : Int) < x.Kids.length := of_decide_eq_false c
   have e : n = x.Kids.length := by omega
   subst e
   rw [List.take_length] at h4
   exact Ok.ret (.inl ⟨rfl, h4⟩)
 ·rcases hr with ⟨rfl, h⟩ | ⟨rfl, k, hk, h⟩
  ·refine Ok.grp (Ok.grp (Ok.grp (Ok.ret ?_)))
   rw [Bool.eq_iff_iff]
   simp only [Bool.and_eq_true, decide_eq_true_eq]
   constructor
   ·rintro ⟨⟨⟨h1, h2⟩, h3⟩, h4⟩
    exact ⟨by omega, List.length_eq_zero_iff.1 (by omega), h3, h4, h⟩
   ·rintro ⟨h1, h2, h3, h4, _⟩
    exact ⟨⟨⟨by omega, by simp [h2]⟩, h3⟩, h4⟩
  ·refine Ok.ret ?_
   show false = _
   rw [eq_comm, decide_eq_false_iff_not]
   rintro ⟨_, _, _, _, h'⟩
   exact h' k hk h
open Classical in
theorem rright_ok : ∀ (x : GNode) (m : Nat), x.hgt ≤ m → x.cnt ≤ 1000 → Ok (FR_g m x) (· = decide (Rgt x)) := by
 refine GNode.ind fun x ih m hm hc => ?_
 obtain ⟨m, rfl⟩ : ∃ n, m = n + 1 := ⟨m - 1, by have := hgt_pos x; omega⟩
 have hkl := kids_cnt x
 rw [FR_g]
 refine Ok.jn (P := fun b => b = decide (okN x)) ?_ fun b hb => ?_
 ·refine Ok.ite (fun c => ?_) fun c => ?_
  ·have c := of_decide_eq_true c
   rw [rranges_ok]
   refine Ok.grp (Ok.grp (Ok.grp (Ok.ret ?_)))
   rw [Bool.eq_iff_iff]
   simp only [Bool.and_eq_true, decide_eq_true_eq]
   unfold okN
   constructor
   ·rintro ⟨⟨⟨h1, h2⟩, h3⟩, h4⟩
    exact .inl ⟨c, h1.1, h1.2, List.length_eq_zero_iff.1 (by omega), h3, h4⟩
   ·rintro (h | ⟨h, _⟩ | ⟨h, _⟩)
    ·exact ⟨⟨⟨⟨h.2.1, h.2.2.1⟩, by simp [h.2.2.2.1]⟩, h.2.2.2.2.1⟩, h.2.2.2.2.2⟩
    ·omega
    ·omega
  ·have c := of_decide_eq_false c
   refine Ok.jn (P := fun y => y = decide (x.Op = 2 ∨ x.Op = 3)) ?_ fun y hy => ?_
   ·refine Ok.ite (fun c2 => Ok.ret ?_) fun c2 => Ok.ret ?_
    ·have c2 := of_decide_eq_true c2
     simp [c2]
    ·have c2 := of_decide_eq_false c2
     simp [c2]
   ·subst hy
    refine Ok.ite (fun c2 => ?_) fun c2 => Ok.ite (fun c3 => ?_) fun c3 => Ok.ret ?_
    ·have c2 := of_decide_eq_true c2
     rw [rkids_ok hc]
     refine Ok.ret (decide_eq_decide.2 ?_)
     unfold okN
     constructor
     ·exact fun h => .inr (.inl ⟨c2, h⟩)
     ·rintro (h | h | ⟨h, _⟩)
      ·exact absurd h.1 c
      ·exact h.2
      ·omega
    ·have c2 := of_decide_eq_false c2
     have c3 := of_decide_eq_true c3
     refine Ok.grp (Ok.grp (Ok.grp (Ok.grp (Ok.grp (Ok.grp (Ok.ret ?_))))))
     rw [Bool.eq_iff_iff]
     simp only [Bool.and_eq_true, decide_eq_true_eq, Bool.or_eq_true, Bool.not_eq_true', decide_eq_false_iff_not]
     unfold okN
     constructor
     ·rintro ⟨⟨⟨⟨⟨⟨h1, h2⟩, h3⟩, h4⟩, h5⟩, h6⟩, h7⟩
      exact .inr (.inr ⟨c3, by omega, List.length_eq_zero_iff.1 (by omega), h3, h4, h5, h6, by omega⟩)
     ·rintro (h | h | ⟨_, h1, h2, h3, h4, h5, h6, h7⟩)
      ·exact absurd h.1 c
      ·exact absurd h.1 c2
      ·exact ⟨⟨⟨⟨⟨⟨by omega, by simp [h2]⟩, h3⟩, h4⟩, h5⟩, h6⟩, by omega⟩
    ·have c2 := of_decide_eq_false c2
     have c3 := of_decide_eq_false c3
     rw [eq_comm, decide_eq_false_iff_not]
     rintro (h | h | h)
     ·exact c h.1
     ·exact c2 h.1
     ·exact c3 h.1
 ·subst hb
  refine Ok.bind (Ok.loop (Q := fun r => r = decide (Rgt x)) (fun s : Bool × Int => ∃ n : Nat, s.2 = (n : Int) ∧ n ≤ x.Kids.length ∧ s.1 = decide (okN x ∧ ∀ k ∈ x.Kids.take n, Rgt k)) (fun s => (x.Kids.length - s.2).toNat) (fun s hs => ?_) _ ⟨0, rfl, by omega, by simp⟩) fun r hr => Ok.ret hr
  obtain ⟨s, i⟩ := s
  obtain ⟨n, e, h2, h4⟩ := hs
  dsimp only at e h4
  subst e
  refine Ok.grp (Ok.ite (fun c => ?_) fun c => ?_)
  ·simp only [Bool.and_eq_true, decide_eq_true_eq] at c
   have hs : okN x ∧ ∀ k ∈ x.Kids.take n, Rgt k := by rw [c.2] at h4; exact of_decide_eq_true h4.symm
   obtain ⟨k, hk, hg, ht⟩ := at_take (l := x.Kids) (n := n) (by omega)
   refine Ok.chk (inb_iff.2 ⟨by dsimp only; omega, by dsimp only; omega⟩) ?_
   dsimp only
   rw [Int.toNat_natCast, hg]
   refine Ok.bind (ih k hk m (by have := kid_hgt hk; omega) (by have := kid_cnt hk; omega)) fun y hy => Ok.chk (in64_s (by omega) (by omega)) (Ok.ret ⟨⟨n + 1, rfl, by omega, ?_⟩, by dsimp only; omega⟩)
   dsimp only
   rw [hy, ht, decide_eq_decide]
   constructor
   ·intro h
    refine ⟨hs.1, fun q hq => ?_⟩
    rcases List.mem_append.1 hq with hq | hq
    ·exact hs.2 q hq
    ·cases List.mem_singleton.1 hq; exact h
   ·exact fun h => h.2 k (by simp)
  ·refine Ok.ret ?_
   show s = _
   by_cases e : s = true
   ·have : ¬ (n : Int) < x.Kids.length := fun h => by simp [h, e] at c
    have en : n = x.Kids.length := by omega
    subst en
    rw [List.take_length] at h4
    rw [h4, decide_eq_decide]
    exact ⟨fun h => .mk x h.1 h.2, fun h => ⟨h.ok, fun k hk => h.kid hk⟩⟩
   ·have e : s = false := by simpa using e
    rw [e] at h4 ⊢
    have h4 := of_decide_eq_false h4.symm
    rw [eq_comm, decide_eq_false_iff_not]
    exact fun h => h4 ⟨h.ok, fun k hk => h.kid (List.mem_of_mem_take hk)⟩
open Classical in
theorem rright_eq {x : GNode} (hc : x.cnt ≤ 1000) : F_g x = some (decide (Rgt x)) := lim_of ⟨x.hgt, fun m hm => (rright_ok x m hm hc).eq⟩
end Go.Ab
namespace Go.Ab
open Go.Proofs
def szF (x : GNode) (most : Bool) : Int := bif most then x.lon else x.sho
theorem rsize_ok (most : Bool) : ∀ (x : GNode) (m : Nat), x.hgt ≤ m → Rgt x → x.cnt ≤ 1000 → (most = false → PV x) → Ok (FR_5 m x most) (· = szF x most) := by
 refine GNode.ind fun x ih m hm hx hc hv => ?_
 obtain ⟨m, rfl⟩ : ∃ n, m = n + 1 := ⟨m - 1, by have := hgt_pos x; omega⟩
 have hkl := kids_cnt x
 have hrec : ∀ k ∈ x.Kids, Ok (FR_5 m k most) (· = szF k most) := fun k hk => ih k hk m (by have := kid_hgt hk; omega) (hx.kid hk) (by have := kid_cnt hk; omega) fun h => (hv h).kid hk
 have hkr : ∀ k ∈ x.Kids, 0 ≤ szF k most ∧ szF k most ≤ 1025 := fun k hk => by
  have := lon_rng k (hx.kid hk)
  cases most with
  | true => show 0 ≤ k.lon ∧ k.lon ≤ 1025; omega
  | false => have := sho_rng k ((hv rfl).kid hk); show 0 ≤ k.sho ∧ k.sho ≤ 1025; omega
 have hval : szF x most = min (if x.Op = 1 then 1 else if x.Op = 2 then sumI (x.Kids.map (szF · most)) else if x.Op = 3 then (bif most then maxI (x.Kids.map (szF · most)) else minI ((x.Kids.map (szF · most)).headD 0) (x.Kids.map (szF · most))) else (bif most then x.Max else x.Min) * (x.Kids.map (szF · most)).headD 0) 1025 := by
  cases most with
  | true => exact lon_eq x
  | false =>
   have h1 := sho_eq x
   have h2 := sho_rng x (hv rfl)
   have h3 := (hv rfl).lon
   show x.sho = min (if x.Op = 1 then 1 else if x.Op = 2 then sumI (x.Kids.map GNode.sho) else if x.Op = 3 then minI ((x.Kids.map GNode.sho).headD 0) (x.Kids.map GNode.sho) else x.Min * (x.Kids.map GNode.sho).headD 0) 1025
   rw [← h1]; omega
 rw [FR_5]
 refine Ok.jn (P := fun o => Fl.elim (fun j : Int => szF x most = min j 1025) (fun r => szF x most = r) o) ?_ fun o ho => ?_
 ·refine Ok.ite (fun c => Ok.ret ?_) fun c => ?_
  ·rw [if_pos (of_decide_eq_true c)] at hval
   show szF x most = 1
   rw [hval]; omega
  ·have c := of_decide_eq_false c
   rw [if_neg c] at hval
   refine Ok.ite (fun c2 => ?_) fun c2 => ?_
   ·rw [if_pos (of_decide_eq_true c2)] at hval
    refine Ok.bind (Ok.loop (Q := fun r => r = sumI (x.Kids.map (szF · most))) (fun s : Int × Int => ∃ n : Nat, s.2 = (n : Int) ∧ n ≤ x.Kids.length ∧ s.1 = sumI ((x.Kids.take n).map (szF · most))) (fun s => (x.Kids.length - s.2).toNat) (fun s hs => ?_) _ ⟨0, rfl, by omega, by simp [sumI]⟩) fun r hr => Ok.ret (by show szF x most = min r 1025; rw [hr]; exact hval)
    obtain ⟨s, i⟩ := s
    obtain ⟨n, e, h2, h4⟩ := hs
    dsimp only at e h4
    subst e
    refine Ok.ite (fun d => ?_) fun d => ?_
    ·have d : (n : Int) < x.Kids.length := of_decide_eq_true d
     obtain ⟨k, hk, hg, ht⟩ := at_take (l := x.Kids) (n := n) (by omega)
     have hs := (sum_rng (f := (szF · most)) (c := 1025) (l := x.Kids.take n) fun q hq => hkr q (List.mem_of_mem_take hq))
     have hl : (x.Kids.take n).length ≤ 1000 := by rw [List.length_take]; omega
     have := hkr k hk
     refine Ok.chk (inb_iff.2 ⟨by dsimp only; omega, d⟩) ?_
     dsimp only
     rw [Int.toNat_natCast, hg]
     refine Ok.bind (hrec k hk) fun y hy => Ok.chk (in64_s (by omega) (by omega)) (Ok.chk (in64_s (by omega) (by omega)) (Ok.ret ⟨⟨n + 1, rfl, by omega, ?_⟩, by dsimp only; omega⟩))
     dsimp only
     rw [ht, List.map_append, sumI_append, hy, h4]; simp [sumI]
    ·have d : ¬ (n : Int) < x.Kids.length := of_decide_eq_false d
     have e : n = x.Kids.length := by omega
     subst e
     rw [List.take_length] at h4
     exact Ok.ret h4
   ·have c2 := of_decide_eq_false c2
    rw [if_neg c2] at hval
    refine Ok.ite (fun c3 => ?_) fun c3 => ?_
    ·have c3 := of_decide_eq_true c3
     rw [if_pos c3] at hval
     have h2 : 2 ≤ x.Kids.length := by rcases hx.kinds with h | h | h | h <;> first | exact h.2 | omega
     obtain ⟨q, r, hq⟩ : ∃ q r, x.Kids = q :: r := by
      cases hkk : x.Kids with
      | nil => rw [hkk] at h2; simp at h2
      | cons q r => exact ⟨q, r, rfl⟩
     have hqm : q ∈ x.Kids := by rw [hq]; simp
     have e2 : x.Kids.getD 0 default = q := by rw [hq]; rfl
     rw [e2]
     have hq0 := hkr q hqm
     refine Ok.chk (inb_iff.2 ⟨by omega, by omega⟩) (Ok.bind (hrec q hqm) fun y hy => ?_)
     refine Ok.bind (Ok.loop (Q := fun t => t = (bif most then maxI (x.Kids.map (szF · most)) else minI (szF q most) (x.Kids.map (szF · most)))) (fun s : Int × Int => ∃ n : Nat, 1 ≤ n ∧ s.2 = (n : Int) ∧ n ≤ x.Kids.length ∧ s.1 = (bif most then maxI ((x.Kids.take n).map (szF · most)) else minI (szF q most) ((x.Kids.take n).map (szF · most)))) (fun s => (x.Kids.length - s.2).toNat) (fun s hs => ?_) _ ⟨1, by omega, rfl, by omega, ?_⟩) fun r' hr => Ok.ret ?_
     ·obtain ⟨s, i⟩ := s
      obtain ⟨n, h1, e, h2, h4⟩ := hs
      dsimp only at e h4
      subst e
      refine Ok.ite (fun d => ?_) fun d => ?_
      ·have d : (n : Int) < x.Kids.length := of_decide_eq_true d
       obtain ⟨k, hk, hg, ht⟩ := at_take (l := x.Kids) (n := n) (by omega)
       have hk0 := hkr k hk
       refine Ok.jn (P := fun z => z = (bif most then max s (szF k most) else min s (szF k most))) ?_ fun z hz => ?_
       ·refine Ok.chk (inb_iff.2 ⟨by dsimp only; omega, d⟩) ?_
        dsimp only
        rw [Int.toNat_natCast, hg]
        refine Ok.bind (hrec k hk) fun v hv' => Ok.grp (Ok.grp (Ok.ite (fun f => Ok.ret ?_) fun f => Ok.ret ?_))
        ·cases most with
         | true => simp at f; simp; omega
         | false => simp at f; simp; omega
        ·cases most with
         | true => simp at f; simp; omega
         | false => simp at f; simp; omega
       ·refine Ok.chk (in64_s (by dsimp only; omega) (by dsimp only; omega)) (Ok.ret ⟨⟨n + 1, by omega, rfl, by omega, ?_⟩, by dsimp only; omega⟩)
        dsimp only
        rw [hz, ht, h4, List.map_append]
        cases most with
        | true =>
         simp only [cond_true]
         rw [maxI_append _ _ (fun y hy => by obtain ⟨z, hz, rfl⟩ := List.mem_map.1 hy; exact (hkr z (List.mem_of_mem_take hz)).1) (fun y hy => by simp at hy; subst hy; exact hk0.1)]
         simp only [List.map_cons, List.map_nil, maxI]; omega
        | false =>
         simp only [cond_false]
         rw [minI_append]; rfl
      ·have d : ¬ (n : Int) < x.Kids.length := of_decide_eq_false d
       have e : n = x.Kids.length := by omega
       subst e
       rw [List.take_length] at h4
       exact Ok.ret h4
     ·dsimp only
      rw [hy, hq]
      cases most with
      | true => simp [maxI]; omega
      | false => simp [minI]
     ·show szF x most = min r' 1025
      rw [hr, hval]
      have : (x.Kids.map (szF · most)).headD 0 = szF q most := by rw [hq]; rfl
      rw [this]
    ·have c3 := of_decide_eq_false c3
     rw [if_neg c3] at hval
     obtain ⟨k, h2, h3, h4, h5, h6⟩ : ∃ k, x.Kids = [k] ∧ 0 ≤ x.Min ∧ 1 ≤ x.Max ∧ x.Min ≤ x.Max ∧ x.Max ≤ 64 := by
      rcases hx.kinds with h | h | h | ⟨_, ⟨k, h⟩, h2⟩
      ·omega
      ·omega
      ·omega
      ·exact ⟨k, h, h2⟩
     have hk : k ∈ x.Kids := by rw [h2]; simp
     have hg : x.Kids.getD 0 default = k := by rw [h2]; rfl
     have hk0 := hkr k hk
     refine Ok.jn (P := fun j => j = (bif most then x.Max else x.Min)) (by cases most <;> exact Ok.ret rfl) fun j hj => ?_
     have hj2 : 0 ≤ j ∧ j ≤ 64 := by rw [hj]; cases most <;> simp <;> omega
     have m1 : 0 ≤ j * szF k most := Int.mul_nonneg hj2.1 hk0.1
     have m2 : j * szF k most ≤ 64 * 1025 := Int.mul_le_mul hj2.2 hk0.2 hk0.1 (by omega)
     rw [hg]
     refine Ok.chk (inb_iff.2 ⟨by omega, by rw [h2]; simp⟩) (Ok.bind (hrec k hk) fun y hy => ?_)
     subst hy
     refine Ok.chk (in64_s (by omega) (by omega)) (Ok.ret ?_)
     show szF x most = min (j * szF k most) 1025
     rw [hval, h2, hj]; rfl
 ·cases o with
  | nx j => rw [Fl_nx]; exact Ok.ret ho.symm
  | ex r => rw [Fl_ex]; exact Ok.ret ho.symm
theorem rsize_lon {x : GNode} (hx : Rgt x) (hc : x.cnt ≤ 1000) : F_5 x true = some x.lon := lim_of ⟨x.hgt, fun m hm => (rsize_ok true x m hm hx hc fun h => by cases h).eq⟩
open Classical in
theorem rvalid_eq (x : GNode) : F_1k x = some x.err := by
 refine Ok.eq ?_
 unfold F_1k GNode.err
 rw [rnodes_eq]
 refine Ok.bind (P := fun y => y = min x.cnt 201) ⟨_, rfl, rfl⟩ fun y hy => ?_
 subst hy
 refine Ok.ite (fun c => Ok.ret (by rw [if_pos (by have := of_decide_eq_true c; omega)])) fun c => ?_
 have c := of_decide_eq_false c
 rw [if_neg (by omega), rdepth_eq (by omega)]
 refine Ok.bind (P := fun y => y = (x.hgt : Int)) ⟨_, rfl, rfl⟩ fun y hy => ?_
 subst hy
 refine Ok.ite (fun c => Ok.ret (by rw [if_pos (by have := of_decide_eq_true c; omega)])) fun c2 => ?_
 have c2 := of_decide_eq_false c2
 rw [if_neg (by omega), rright_eq (by omega)]
 refine Ok.bind (P := fun y => y = decide (Rgt x)) ⟨_, rfl, rfl⟩ fun y hy => ?_
 subst hy
 refine Ok.ite (fun c => Ok.ret (by rw [if_pos (by simpa using c)])) fun c3 => ?_
 have c3 : Rgt x := by simpa using c3
 rw [if_neg (fun h => h c3), rsize_lon c3 (by omega)]
 refine Ok.bind (P := fun y => y = x.lon) ⟨_, rfl, rfl⟩ fun y hy => ?_
 subst hy
 refine Ok.ite (fun c => Ok.ret (by rw [if_pos (of_decide_eq_true c)])) fun c => Ok.ret (by rw [if_neg (of_decide_eq_false c)])
theorem size_mono : ∀ n (x : GNode), Le (FR_3 n x) (FR_3 (n + 1) x)
 | 0, x => by simp only [FR_3]; exact Le.non
 | n + 1, x => by
  have ih := size_mono n
  rw [FR_3, FR_3]
  (repeat' (with_reducible first | exact Le.refl | assumption | (refine Le.bind ?_ fun _ => ?_) | (refine Le.jn ?_ fun _ => ?_) | (refine Le.grp fun _ => ?_) | (refine Le.chk ?_) | (refine Le.cond ?_ ?_) | (refine Le.fl (fun _ => ?_) fun _ => ?_) | (refine Le.sum (fun _ => ?_) fun _ => ?_) | (refine Le.loopL fun _ => ?_)))
  all_goals exact ih _
theorem size_ok : ∀ (x : GNode) (m : Nat), x.hgt ≤ m → Ok (FR_3 m x) fun r => 1 ≤ r ∧ r ≤ 1000 := by
 refine GNode.ind fun x ih m hm => ?_
 obtain ⟨m, rfl⟩ : ∃ n, m = n + 1 := ⟨m - 1, by have := hgt_pos x; omega⟩
 rw [FR_3]
 refine Ok.bind (Ok.loop (Q := fun r => 1 ≤ r ∧ r ≤ 1000) (fun s : Int × Int => 1 ≤ s.1 ∧ s.1 ≤ 1000 ∧ 0 ≤ s.2 ∧ (s.2 < s.1 ∨ s.1 = 1000)) (fun s => (x.Kids.length - s.2).toNat) (fun s hs => ?_) _ ⟨by omega, by omega, by omega, by dsimp only; omega⟩) fun r hr => Ok.ite (fun c => ?_) fun c => Ok.ret hr
 ·obtain ⟨s, i⟩ := s
  obtain ⟨h1, h2, h3, h4⟩ := hs
  dsimp only at h1 h2 h3 h4
  refine Ok.grp (Ok.ite (fun c => ?_) fun c => Ok.ret ⟨h1, h2⟩)
  simp only [Bool.and_eq_true, decide_eq_true_eq] at c
  have hlt : i.toNat < x.Kids.length := by omega
  have hmem : x.Kids.getD i.toNat default ∈ x.Kids := by rw [List.getD_eq_getElem?_getD, List.getElem?_eq_getElem hlt]; exact List.getElem_mem hlt
  refine Ok.chk (inb_iff.2 ⟨h3, c.1⟩) (Ok.bind (ih _ hmem m (by have := kid_hgt hmem; omega)) fun y hy => Ok.chk (in64_s (by dsimp only; omega) (by dsimp only; omega)) (Ok.chk (in64_s (by dsimp only; omega) (by dsimp only; omega)) (Ok.ret ⟨⟨by dsimp only; omega, by dsimp only; omega, by dsimp only; omega, by dsimp only; omega⟩, by dsimp only; omega⟩)))
 ·have c := of_decide_eq_true c
  have h1 : 1 * 1 ≤ r * min x.Max 1000 := Int.mul_le_mul hr.1 (by omega) (by omega) (by omega)
  have h2 : r * min x.Max 1000 ≤ 1000 * 1000 := Int.mul_le_mul hr.2 (by omega) (by omega) (by omega)
  exact Ok.chk (in64_s (by omega) (by omega)) (Ok.ret ⟨by omega, by omega⟩)
theorem few_ok (x : GNode) : Ok (F_1m x) fun _ => True := by
 unfold F_1m
 refine Ok.bind (Ok.lim (f := fun n => FR_3 n x) (fun n => size_mono n x) x.hgt (size_ok x x.hgt (Nat.le_refl _))) fun y _ => Ok.jn (P := fun _ => True) (Ok.ite (fun _ => ?_) fun _ => Ok.ret trivial) fun _ _ => Ok.ret trivial
 rw [rnodes_eq]
 exact Ok.ret trivial
end Go.Ab
namespace Go.Ab
open Go.Proofs
inductive Lens : GNode → Prop
 | mk (x : GNode) (h2 : x.Ranges.length ≤ maxLen) (h3 : x.Kids.length ≤ maxLen) (hk : ∀ k ∈ x.Kids, Lens k) : Lens x
theorem Lens.kid {x k : GNode} (h : Lens x) (hk : k ∈ x.Kids) : Lens k := by cases h with | mk _ _ _ h => exact h k hk
theorem small_max {n : Nat} (h : n ≤ 1000000) : n ≤ maxLen := by unfold maxLen; omega
theorem Fit.lens {x : GNode} (h : Fit x) : Lens x := by
 induction h with
 | mk x h1 h2 h3 h4 h5 hk ih => exact .mk x h2 h3 ih
theorem Rgt.lens {x : GNode} (h : Rgt x) (hc : x.cnt ≤ 1000) : Lens x := by
 induction h with
 | mk x ho hk ih =>
  have hkl := kids_cnt x
  refine .mk x (small_max ?_) (small_max (by omega)) fun k hm => ih k hm (by have := kid_cnt hm; omega)
  rcases ho with h | ⟨_, h⟩ | h
  ·have := rng_len h.2.1; omega
  ·rw [h.2.1]; simp
  ·rw [h.2.2.1]; simp
theorem node_ext {a b : GNode} : a = b ↔ a.Op = b.Op ∧ a.Min = b.Min ∧ a.Max = b.Max ∧ a.Ranges = b.Ranges ∧ a.Kids = b.Kids := by
 cases a; cases b; simp only [GNode.mk.injEq]
 exact ⟨fun ⟨h1, h2, h3, h4, h5⟩ => ⟨h1, h4, h5, h2, h3⟩, fun ⟨h1, h4, h5, h2, h3⟩ => ⟨h1, h2, h3, h4, h5⟩⟩
theorem rng_ext {a b : GRange} : a = b ↔ (a.Low.toNat : Int) = b.Low.toNat ∧ (a.High.toNat : Int) = b.High.toNat := by
 cases a; cases b; simp only [GRange.mk.injEq]
 exact ⟨fun ⟨h1, h2⟩ => ⟨by rw [h1], by rw [h2]⟩, fun ⟨h1, h2⟩ => ⟨toNat_inj' h1, toNat_inj' h2⟩⟩
theorem take_eq {α : Type} [Inhabited α] {l r : List α} {n : Nat} (h1 : n < l.length) (h2 : n < r.length) (h : l.take n = r.take n) (e : l.getD n default = r.getD n default) : l.take (n + 1) = r.take (n + 1) := by
 obtain ⟨k, _, g1, t1⟩ := at_take h1
 obtain ⟨k', _, g2, t2⟩ := at_take h2
 rw [t1, t2, h, ← g1, ← g2, e]
open Classical in
theorem eqrow_go {α : Type} [Inhabited α] {body : Int → α → Unit → Option (Fl Unit Bool)} {r : List α} {l : List α} (hl : l.length = r.length)
  (h : ∀ (n : Nat), n < l.length → body (n : Int) (l.getD n default) () = some (if l.getD n default = r.getD n default then .nx () else .ex false)) :
  ((forL body l 0 ()).bind fun o => o.elim (fun _ => some true) fun x => some x) = some (decide (l = r)) := by
 refine Ok.eq ?_
 refine Ok.bind (Ok.forI (all := l) (Q := fun o => (o = .nx () ∧ l = r) ∨ (o = .ex false ∧ l ≠ r)) (fun pre _ => l.take pre.length = r.take pre.length) l [] 0 () rfl rfl (by simp) (fun pre a q s hw hs => ?_) fun s hs => .inl ⟨rfl, ?_⟩) fun o ho => ?_
 ·have hlt := len_at hw
  have hg := getD_at hw
  have := h pre.length hlt
  rw [hg] at this
  rw [this]
  by_cases c : a = r.getD pre.length default
  ·rw [if_pos c]
   refine Ok.ret ?_
   show l.take (pre ++ [a]).length = _
   rw [List.length_append, List.length_singleton]
   exact take_eq hlt (by omega) hs (by rw [hg, c])
  ·rw [if_neg c]
   refine Ok.ret (.inr ⟨rfl, fun e => c ?_⟩)
   rw [← e, hg]
 ·rw [List.take_length, hl, List.take_length] at hs; exact hs
 ·rcases ho with ⟨rfl, h⟩ | ⟨rfl, h⟩
  ·exact Ok.ret (by show true = _; rw [eq_comm, decide_eq_true_eq]; exact h)
  ·exact Ok.ret (by show false = _; rw [eq_comm, decide_eq_false_iff_not]; exact h)
open Classical in
theorem eqrng_eq (l r : List GRange) : F_17 l r = some (decide (l = r)) := by
 unfold F_17
 by_cases c : (l.length : Int) = r.length
 ·rw [decide_eq_true c]
  show ((forL (F_1q r) l 0 ()).bind fun o => o.elim (fun _ => some true) fun x => some x) = _
  refine eqrow_go (by omega) fun n hn => ?_
  unfold F_1q
  have hi : inb (n : Int) r.length = true := inb_iff.2 ⟨by omega, by omega⟩
  have e0 : (n : Int).toNat = n := Int.toNat_natCast n
  rw [e0]
  refine Ok.eq ?_
  repeat (refine Ok.chk hi ?_)
  refine Ok.ite (fun f => Ok.ret ?_) fun f => Ok.ret ?_
  ·rw [if_neg]
   intro e
   rw [e] at f; simp at f
  ·rw [if_pos]
   simp only [Bool.not_eq_false', Bool.and_eq_true, decide_eq_true_eq] at f
   exact rng_ext.2 f
 ·rw [decide_eq_false c]
  show some false = _
  congr 1
  rw [eq_comm, decide_eq_false_iff_not]
  exact fun e => c (by rw [e])
open Classical in
theorem psame_ok : ∀ (a : GNode) (m : Nat) (b : GNode),2 * a.hgt ≤ m → Ok (FR_4 m a b) (· = decide (a = b)) := by
 refine GNode.ind fun a ih m b hm => ?_
 have hp := hgt_pos a
 obtain ⟨m, rfl⟩ : ∃ n, m = n + 2 := ⟨m - 2, by omega⟩
 have hk : FR_r (m + 1) a.Kids b.Kids = some (decide (a.Kids = b.Kids)) := by
  rw [FR_r]
  by_cases c : (a.Kids.length : Int) = b.Kids.length
  ·rw [decide_eq_true c]
   refine eqrow_go (by omega) fun n hn => ?_
   obtain ⟨k, hk, hg, _⟩ := at_take hn
   have hi : inb (n : Int) b.Kids.length = true := inb_iff.2 ⟨by omega, by omega⟩
   have e0 : (n : Int).toNat = n := Int.toNat_natCast n
   rw [e0, hg]
   refine Ok.eq (Ok.chk hi (Ok.bind (ih k hk m _ (by have := kid_hgt hk; omega)) fun y hy => ?_))
   subst hy
   refine Ok.ite (fun f => Ok.ret ?_) fun f => Ok.ret ?_
   ·rw [if_neg (by simpa using f)]
   ·rw [if_pos (by simpa using f)]
  ·rw [decide_eq_false c]
   show some false = _
   congr 1
   rw [eq_comm, decide_eq_false_iff_not]
   exact fun e => c (by rw [e])
 rw [FR_4]
 refine Ok.grp (Ok.grp (Ok.jn (P := fun v => v = decide (a.Op = b.Op ∧ a.Min = b.Min ∧ a.Max = b.Max ∧ a.Ranges = b.Ranges)) (Ok.ite (fun c => ?_) fun c => Ok.ret ?_) fun v hv => ?_))
 ·simp only [Bool.and_eq_true, decide_eq_true_eq] at c
  rw [eqrng_eq]
  exact Ok.ret (decide_eq_decide.2 ⟨fun h => ⟨c.1.1, c.1.2, c.2, h⟩, fun h => h.2.2.2⟩)
 ·rw [eq_comm, decide_eq_false_iff_not]
  rintro ⟨h1, h2, h3, _⟩
  simp [h1, h2, h3] at c
 ·subst hv
  refine Ok.jn (P := fun v => v = decide (a = b)) (Ok.ite (fun c => ?_) fun c => Ok.ret ?_) fun v hv => Ok.ret hv
  ·have c := of_decide_eq_true c
   rw [hk]
   exact Ok.ret (decide_eq_decide.2 (node_ext.trans ⟨fun h => h.2.2.2.2, fun h => ⟨c.1, c.2.1, c.2.2.1, c.2.2.2, h⟩⟩).symm)
  ·have c := of_decide_eq_false c
   rw [eq_comm, decide_eq_false_iff_not]
   exact fun e => c (by rw [e]; exact ⟨rfl, rfl, rfl, rfl⟩)
open Classical in
theorem psame_eq (a b : GNode) : F_4 a b = some (decide (a = b)) := lim_of ⟨2 * a.hgt, fun m hm => (psame_ok a m b hm).eq⟩
end Go.Ab
namespace Go.Ab
open Go.Proofs
theorem made_pattern' {t : GTape} (d : Nat) (hd : d ≤ 4) (h : TO t) : Ok (F_0 t ((d : Int) + 1)) fun y => Lens y.1 ∧ y.1.Ranges.length ≤ 1000 ∧ y.1.Kids.length ≤ 1000 ∧ TO y.2 := by
 refine Ok.mono (Ok.lim (f := fun n => FR_0 n t ((d : Int) + 1)) (fun n => pattern_mono n t _) (d + 1) (pattern_ok d (d + 1) t (by omega) h (by omega))) fun y hy => ?_
 obtain ⟨⟨h1, h2, h3, h4⟩, h5⟩ := hy
 have hc : y.1.cnt ≤ 1000 := by
  have : (3 : Int) ^ (d + 1) ≤ 243 := by
   have : d = 0 ∨ d = 1 ∨ d = 2 ∨ d = 3 ∨ d = 4 := by omega
   rcases this with rfl | rfl | rfl | rfl | rfl <;> decide
  omega
 have := kids_cnt y.1
 refine ⟨h1.lens hc, ?_, by omega, h5⟩
 rcases h1.ok with h | ⟨_, h⟩ | h
 ·have := rng_len h.2.1; omega
 ·rw [h.2.1]; simp
 ·rw [h.2.2.1]; simp
theorem own_ok {t : GTape} (h : TO t) : Ok (F_1n t) fun y => Lens y.1 ∧ TO y.2 := by
 unfold F_1n
 refine Ok.bind (made_pattern' 3 (by omega) h) fun x hx => Ok.bind (nx_ok hx.2.2.2 (by omega)) fun n hn => ?_
 obtain ⟨h1, h2, h3, h4⟩ := hx
 have hk : ∀ k ∈ x.1.Kids, Lens k := fun k hk => h1.kid hk
 refine Ok.ite (fun _ => Ok.bind (btw_ok hn.2.2 (by omega) (by omega) (by omega)) fun y hy => Ok.ret ⟨.mk _ (small_max (by show x.1.Ranges.length ≤ _; omega)) (small_max (by show x.1.Kids.length ≤ _; omega)) hk, hy.2.2⟩) fun _ => ?_
 refine Ok.ite (fun _ => Ok.bind (btw_ok hn.2.2 (by omega) (by omega) (by omega)) fun y hy => Ok.ret ⟨.mk _ (small_max (by show x.1.Ranges.length ≤ _; omega)) (small_max (by show x.1.Kids.length ≤ _; omega)) hk, hy.2.2⟩) fun _ => ?_
 refine Ok.ite (fun _ => Ok.chk (room_s (by simp; omega)) (Ok.bind (nx_ok hn.2.2 (by omega)) fun y hy => Ok.bind (nx_ok hy.2.2 (by omega)) fun z hz => Ok.chk (room_s (by simp; omega)) (Ok.ret ⟨.mk _ (small_max (by simp; omega)) (small_max (by show x.1.Kids.length ≤ _; omega)) hk, hz.2.2⟩))) fun _ => ?_
 refine Ok.ite (fun _ => Ok.bind (nx_ok hn.2.2 (by omega)) fun y hy => Ok.bind (made_pattern' 1 (by omega) hy.2.2) fun z hz => Ok.ret ⟨.mk _ (small_max (by simp)) (small_max (by simp)) fun k hk => ?_, hz.2.2.2⟩) fun _ => Ok.ret ⟨h1, hn.2.2⟩
 simp at hk
 rcases hk with rfl | rfl
 ·exact h1
 ·exact hz.1
theorem acall_fact' {P : Program} {f : FuncId} {ys : List V} {H : Heap} {Q : V → Heap → Prop} (hc : callable P f = true) (h : (∀ y ∈ ys, y.fact) → ACall P f ys H Q) : ACall P f ys H Q :=
 ⟨hc, fun g w vals hH hs hr => (h fun y hy => by
  obtain ⟨i, hi⟩ := List.getElem?_of_mem hy
  exact (hr i y hi).fact).2 g w vals hH hs hr⟩
end Go.Ab
namespace Go.Ab
open Go.Proofs
noncomputable def sglC (c_ : UInt8) : Option Str :=
 grp ((decide (33 ≤ (c_.toNat : Int)) && decide ((c_.toNat : Int) ≤ 126))) fun b2 => (iter (F_25 c_) 12 (b2,0)).bind fun r24 => bif r24 then some [c_] else chk (inb ((c_.toNat : Int) / 2 ^ 4) [48,49,50,51,52,53,54,55,56,57,97,98,99,100,101,102].length) (some [92,120, (([48,49,50,51,52,53,54,55,56,57,97,98,99,100,101,102] : Str).getD (((c_.toNat : Int) / 2 ^ 4)).toNat 0), (([48,49,50,51,52,53,54,55,56,57,97,98,99,100,101,102] : Str).getD (((c_.toNat : Int) % 2 ^ 4)).toNat 0)])
theorem sglC_le (c : UInt8) : Le (sglC c) (F_s c) := by
 unfold sglC F_s
 exact Le.grp fun _ => Le.bind (Le.loop fun _ => Le.refl) fun _ => Le.refl
noncomputable def chkC (c : UInt8) : Bool := match sglC c with
 | some s => decide (F_t c = some s) && decide (s.length ≤ 4)
 | none => false
theorem chk_all : (List.range 256).all (fun i => chkC (UInt8.ofNat i)) = true := by kernel_rfl
theorem sgn_ex (c : UInt8) : ∃ s, F_t c = some s ∧ F_s c = some s ∧ s.length ≤ 4 := by
 have h := List.all_eq_true.1 chk_all c.toNat (List.mem_range.2 c.toNat_lt)
 rw [show UInt8.ofNat c.toNat = c from by simp] at h
 unfold chkC at h
 cases hs : sglC c with
 | none => rw [hs] at h; cases h
 | some s =>
  rw [hs] at h
  simp only [Bool.and_eq_true, decide_eq_true_eq] at h
  exact ⟨s, h.1, sglC_le c s hs, h.2⟩
def sgn (c : UInt8) : Str := (F_t c).getD []
theorem sgn_ok (c : UInt8) : F_t c = some (sgn c) ∧ F_s c = some (sgn c) ∧ (sgn c).length ≤ 4 := by
 obtain ⟨s, h1, h2, h3⟩ := sgn_ex c
 have : sgn c = s := by unfold sgn; rw [h1]; rfl
 rw [this]; exact ⟨h1, h2, h3⟩
theorem number_mono : ∀ n (k : Int), Le (FR_2 n k) (FR_2 (n + 1) k)
 | 0, k => by simp only [FR_2]; exact Le.non
 | n + 1, k => by
  have ih := number_mono n
  rw [FR_2, FR_2]
  (repeat' (with_reducible first | exact Le.refl | assumption | (refine Le.bind ?_ fun _ => ?_) | (refine Le.chk ?_) | (refine Le.cond ?_ ?_)))
  all_goals exact ih _
theorem num_all : (List.range 65).all (fun i => decide (FR_2 3 (i : Nat) = some (Lib.itoa (i : Nat))) && decide ((Lib.itoa (i : Nat)).length ≤ 2)) = true := by kernel_rfl
theorem num_ok {n : Int} (h0 : 0 ≤ n) (h1 : n ≤ 64) : F_2 n = some (Lib.itoa n) ∧ itoaI n = some (Lib.itoa n) ∧ (Lib.itoa n).length ≤ 2 := by
 obtain ⟨k, rfl⟩ := Int.eq_ofNat_of_zero_le h0
 have h := List.all_eq_true.1 num_all k (List.mem_range.2 (by omega))
 simp only [Bool.and_eq_true, decide_eq_true_eq] at h
 refine ⟨lim_of ⟨3, fun m hm => Le.up (f := fun n => FR_2 n k) (fun n => number_mono n _) hm _ h.1⟩, ?_, h.2⟩
 exact Ok.eq (Ok.chk (in64_s (by omega) (by omega)) (Ok.ret rfl))
end Go.Ab
namespace Go.Ab
open Go.Proofs
theorem bws_s {b s : Str} (h : b.length + s.length ≤ 100000000) : bws b s = some (b ++ s) := Ok.eq (Ok.chk (room_iff.2 (by omega)) (Ok.ret rfl))
theorem bwb_s {b : Str} {c : UInt8} (h : b.length + 1 ≤ 100000000) : bwb b c = some (b ++ [c]) := Ok.eq (Ok.chk (room_iff.2 (by omega)) (Ok.ret rfl))
theorem strl_s {n : Nat} (h : n ≤ 100000000) : strl n = true := strl_iff.2 (by omega)
def rT (r : GRange) : Str := sgn r.Low ++ (if (r.High.toNat : Int) = r.Low.toNat then [] else [45] ++ sgn r.High)
def setB : List GRange → Str
 | [] => []
 | r :: q => rT r ++ setB q
theorem setB_append : ∀ a b : List GRange, setB (a ++ b) = setB a ++ setB b
 | [], b => rfl
 | x :: r, b => by simp only [List.cons_append, setB, setB_append r b, List.append_assoc]
def setT (l : List GRange) : Str := if l.length = 1 ∧ ((l.getD 0 default).Low.toNat : Int) = (l.getD 0 default).High.toNat then sgn (l.getD 0 default).Low else [91] ++ setB l ++ [93]
theorem rT_len (r : GRange) : (rT r).length ≤ 9 := by
 have h1 := (sgn_ok r.Low).2.2
 have h2 := (sgn_ok r.High).2.2
 unfold rT
 split <;> simp <;> omega
theorem setB_len : ∀ l : List GRange, (setB l).length ≤ 9 * l.length
 | [] => by simp [setB]
 | r :: q => by have := rT_len r; have := setB_len q; simp only [setB, List.length_append, List.length_cons]; omega
theorem setT_len {l : List GRange} (h : l.length ≤ 128) : (setT l).length ≤ 1300 := by
 have h1 := setB_len l
 have h2 := (sgn_ok (l.getD 0 default).Low).2.2
 unfold setT
 split
 ·omega
 ·simp; omega
theorem writeSet_ok {out : Str} {l : List GRange} (hl : l.length ≤ 128) (ho : out.length ≤ 90000000) : Ok (F_16 out l) (· = out ++ setT l) := by
 unfold F_16
 refine Ok.jn (P := fun o => Fl.elim (fun _ => ¬ (l.length = 1 ∧ ((l.getD 0 default).Low.toNat : Int) = (l.getD 0 default).High.toNat)) (fun r => r = out ++ setT l) o) (Ok.ite (fun c => ?_) fun c => Ok.ret ?_) fun o ho2 => ?_
 ·have c := of_decide_eq_true c
  have hi : inb 0 l.length = true := inb_iff.2 ⟨by omega, by omega⟩
  refine Ok.chk hi (Ok.chk hi (Ok.ite (fun d => Ok.chk hi ?_) fun d => Ok.ret fun h => (of_decide_eq_false d) h.2))
  have d := of_decide_eq_true d
  rw [(sgn_ok _).1]
  have h2 := (sgn_ok (l.getD 0 default).Low).2.2
  simp only [Option.bind_some]
  rw [bws_s (by omega)]
  refine Ok.ret ?_
  show _ = out ++ setT l
  unfold setT
  rw [if_pos ⟨by omega, d⟩]
 ·exact fun h => (of_decide_eq_false c) (by omega)
 ·cases o with
  | ex r => rw [Fl_ex]; exact Ok.ret ho2
  | nx j =>
   rw [Fl_nx, bwb_s (by omega)]
   simp only [Option.bind_some]
   refine Ok.bind (Ok.foldI (all := l) (Q := fun o => o = out ++ [91] ++ setB l) (fun pre s => s = out ++ [91] ++ setB pre) l [] 0 _ rfl rfl (by simp [setB]) (fun pre r q s hw hs => ?_) fun s hs => hs) fun o ho3 => ?_
   ·have hlt := len_at hw
    have hb := setB_len pre
    have h1 := (sgn_ok r.Low).2.2
    have h2 := (sgn_ok r.High).2.2
    have hsl : s.length ≤ 90010000 := by rw [hs]; simp; omega
    unfold F_1x
    rw [(sgn_ok r.Low).1]
    simp only [Option.bind_some]
    rw [bws_s (by omega)]
    simp only [Option.bind_some]
    have hB : setB (pre ++ [r]) = setB pre ++ rT r := by rw [setB_append]; simp [setB]
    rw [hB, hs]
    refine Ok.ite (fun d => ?_) fun d => Ok.ret ?_
    ·rw [(sgn_ok r.High).1]
     simp only [Option.bind_some]
     refine Ok.chk (strl_s (by simp; omega)) ?_
     rw [← hs, bws_s (by simp; omega)]
     refine Ok.ret ?_
     have d : ¬ (r.High.toNat : Int) = r.Low.toNat := by simpa using d
     rw [hs]; unfold rT; rw [if_neg d]; simp
    ·have d : (r.High.toNat : Int) = r.Low.toNat := by simpa using d
     unfold rT; rw [if_pos d]; simp
   ·subst ho3
    have := setB_len l
    rw [bwb_s (by simp; omega)]
    refine Ok.ret ?_
    show _ = out ++ setT l
    unfold setT
    rw [if_neg ho2]; simp
def par (s : Str) : Str := [40] ++ s ++ [41]
def seqT : List (Int × Str) → Str
 | [] => []
 | (o, s) :: r => (if o = 3 then par s else s) ++ seqT r
def barT : List (Int × Str) → Str
 | [] => []
 | (_, s) :: r => [124] ++ s ++ barT r
def altT : List (Int × Str) → Str
 | [] => []
 | (_, s) :: r => s ++ barT r
theorem seqT_append : ∀ a b, seqT (a ++ b) = seqT a ++ seqT b
 | [], b => rfl
 | (o, s) :: r, b => by simp only [List.cons_append, seqT, seqT_append r b, List.append_assoc]
theorem barT_append : ∀ a b, barT (a ++ b) = barT a ++ barT b
 | [], b => rfl
 | (o, s) :: r, b => by simp only [List.cons_append, barT, barT_append r b, List.append_assoc]
theorem altT_snoc : ∀ (a : List (Int × Str)) (o : Int) (s : Str), altT (a ++ [(o, s)]) = altT a ++ (if a.length = 0 then [] else [124]) ++ s
 | [], o, s => by simp [altT, barT]
 | (o', s') :: r, o, s => by simp only [List.cons_append, altT, barT_append]; simp [barT]
def repT (p : Int × Str) (mi ma : Int) : Str := (if p.1 = 1 then p.2 else par p.2) ++ ([123] ++ Lib.itoa mi) ++ (if ma = mi then [] else [44] ++ Lib.itoa ma) ++ [125]
mutual
def GNode.txt : GNode → Str
 | ⟨o, rs, k, mi, ma⟩ => if o = 1 then setT rs else if o = 2 then seqT (GNode.txts k) else if o = 3 then altT (GNode.txts k) else repT ((GNode.txts k).headD (0,[])) mi ma
def GNode.txts : List GNode → List (Int × Str)
 | [] => []
 | a :: r => (a.Op, GNode.txt a) :: GNode.txts r
end
theorem txts_map : ∀ l : List GNode, GNode.txts l = l.map fun k => (k.Op, k.txt)
 | [] => by simp [GNode.txts]
 | a :: r => by simp only [GNode.txts, List.map_cons, txts_map r]
theorem txt_eq (x : GNode) : x.txt = if x.Op = 1 then setT x.Ranges else if x.Op = 2 then seqT (x.Kids.map fun k => (k.Op, k.txt)) else if x.Op = 3 then altT (x.Kids.map fun k => (k.Op, k.txt)) else repT ((x.Kids.map fun k => (k.Op, k.txt)).headD (0,[])) x.Min x.Max := by
 cases x; simp only [GNode.txt, txts_map]
theorem lens_len {f : List (Int × Str) → Str} (hf0 : f [] = []) (hf : ∀ a o s, (f (a ++ [(o, s)])).length ≤ (f a).length + s.length + 2) : ∀ {l : List GNode}, (∀ k ∈ l, (k.txt.length : Int) ≤ 1400 * k.cnt - 2) → ((f (l.map fun k => (k.Op, k.txt))).length : Int) ≤ 1400 * GNode.cnts l := by
 intro l
 have : ∀ (n : Nat) (l : List GNode), l.length = n → (∀ k ∈ l, (k.txt.length : Int) ≤ 1400 * k.cnt - 2) → ((f (l.map fun k => (k.Op, k.txt))).length : Int) ≤ 1400 * GNode.cnts l := by
  intro n
  induction n with
  | zero => intro l hl _; obtain rfl := List.length_eq_zero_iff.1 hl; simp [hf0, GNode.cnts]
  | succ n ih =>
   intro l hl h
   obtain ⟨a, x, rfl⟩ : ∃ a x, l = a ++ [x] := ⟨l.dropLast, l.getLast (fun e => by simp [e] at hl), (List.dropLast_concat_getLast _).symm⟩
   have h1 := ih a (by simpa using hl) fun k hk => h k (by simp [hk])
   have h2 := h x (by simp)
   have h3 := hf (a.map fun k => (k.Op, k.txt)) x.Op x.txt
   rw [List.map_append, cnts_append]
   simp only [List.map_cons, List.map_nil, GNode.cnts]
   omega
 exact this l.length l rfl
theorem seqT_st (a : List (Int × Str)) (o : Int) (s : Str) : (seqT (a ++ [(o, s)])).length ≤ (seqT a).length + s.length + 2 := by
 rw [seqT_append]; simp only [seqT, par]; split <;> simp <;> omega
theorem altT_st (a : List (Int × Str)) (o : Int) (s : Str) : (altT (a ++ [(o, s)])).length ≤ (altT a).length + s.length + 2 := by
 rw [altT_snoc]; split <;> simp <;> omega
theorem txt_len : ∀ x : GNode, Rgt x → (x.txt.length : Int) ≤ 1400 * x.cnt - 2 := by
 refine GNode.ind fun x ih hx => ?_
 have hk : ∀ k ∈ x.Kids, (k.txt.length : Int) ≤ 1400 * k.cnt - 2 := fun k hk => ih k hk (hx.kid hk)
 rw [txt_eq, cnt_eq]
 rcases hx.kinds with ⟨h, h1, _⟩ | ⟨h, h2⟩ | ⟨h, h2⟩ | ⟨h, ⟨k, h2⟩, h3, h4, h5, h6⟩
 ·rw [if_pos h]
  have := setT_len (rng_len h1)
  have := cnts_len x.Kids
  omega
 ·rw [if_neg (by omega), if_pos h]
  have := lens_len (f := seqT) rfl seqT_st hk
  omega
 ·rw [if_neg (by omega), if_neg (by omega), if_pos h]
  have := lens_len (f := altT) rfl altT_st hk
  omega
 ·rw [if_neg (by omega), if_neg (by omega), if_neg (by omega), h2]
  have h7 := hk k (by rw [h2]; simp)
  have n1 := (num_ok (n := x.Min) h3 (by omega)).2.2
  have n2 := (num_ok (n := x.Max) (by omega) h6).2.2
  simp only [List.map_cons, List.map_nil, List.headD_cons, repT, par, GNode.cnts]
  split <;> split <;> simp <;> omega
end Go.Ab
namespace Go.Ab
open Go.Proofs
theorem kidsT_le {x : GNode} {pre r : List GNode} {k : GNode} {f : List (Int × Str) → Str} (hf0 : f [] = []) (hf : ∀ a o s, (f (a ++ [(o, s)])).length ≤ (f a).length + s.length + 2) (hx : Rgt x) (hw : x.Kids = pre ++ k :: r) :
  ((f (pre.map fun k => (k.Op, k.txt))).length : Int) + 1400 * k.cnt ≤ 1400 * GNode.cnts x.Kids := by
 have h1 := lens_len (f := f) hf0 hf (l := pre) fun q hq => txt_len q (hx.kid (by rw [hw]; simp [hq]))
 have h2 : GNode.cnts x.Kids = GNode.cnts pre + (k.cnt + GNode.cnts r) := by rw [hw, cnts_append]; simp only [GNode.cnts]
 have h3 := cnts_len r
 omega
theorem pwrite_ok : ∀ (x : GNode) (m : Nat) (out : Str),2 * x.hgt ≤ m → Rgt x → (out.length : Int) + 1400 * x.cnt ≤ 80000000 → Ok (FR_c m out x) (· = out ++ x.txt) := by
 refine GNode.ind fun x ih m out hm hx hl => ?_
 have hp := hgt_pos x
 obtain ⟨m, rfl⟩ : ∃ n, m = n + 2 := ⟨m - 2, by omega⟩
 have hcq := cnt_eq x
 have hcp := cnt_pos x
 have hkid : ∀ k ∈ x.Kids, ∀ (out : Str) (p : Bool), (out.length : Int) + 1400 * k.cnt + 1 ≤ 80000000 → Ok (FR_n (m + 1) out k p) (· = out ++ (if p = true then par k.txt else k.txt)) := by
  intro k hk out p hlen
  have hkt := txt_len k (hx.kid hk)
  have hkc := cnt_pos k
  rw [FR_n]
  refine Ok.jn (P := fun j => j = out ++ (if p = true then [40] else [])) ?_ fun j hj => ?_
  ·cases p with
   | true => show Ok ((bwb out 40).bind fun y3 => some y3) _; rw [bwb_s (by omega)]; exact Ok.ret rfl
   | false => exact Ok.ret (by simp)
  ·subst hj
   have hq1 : (if p = true then [40] else ([] : Str)).length ≤ 1 := by split <;> simp
   refine Ok.bind (ih k hk m _ (by have := kid_hgt hk; omega) (hx.kid hk) (by simp only [List.length_append]; omega)) fun y hy => ?_
   subst hy
   cases p with
   | true => show Ok ((bwb _ 41).bind fun y6 => some y6) _; rw [bwb_s (by simp; omega)]; exact Ok.ret (by simp [par])
   | false => exact Ok.ret (by simp)
 have htx := txt_eq x
 rw [FR_c]
 refine Ok.ite (fun c => ?_) fun c => Ok.ite (fun c2 => ?_) fun c2 => Ok.ite (fun c3 => ?_) fun c3 => ?_
 ·have c := of_decide_eq_true c
  rw [if_pos c] at htx
  have hr : rngP x.Ranges := by rcases hx.kinds with h | h | h | h <;> first | exact h.2.1 | omega
  rw [htx]
  exact Ok.bind (writeSet_ok (rng_len hr) (by omega)) fun y hy => Ok.ret hy
 ·have c := of_decide_eq_false c
  have c2 := of_decide_eq_true c2
  rw [if_neg c, if_pos c2] at htx
  rw [htx]
  refine Ok.bind (Ok.foldI (all := x.Kids) (Q := fun o => o = out ++ seqT (x.Kids.map fun k => (k.Op, k.txt))) (fun pre s => s = out ++ seqT (pre.map fun k => (k.Op, k.txt))) x.Kids [] 0 _ rfl rfl (by simp [seqT]) (fun pre k r s hw hs => ?_) fun s hs => hs) fun o ho => Ok.ret ho
  have hb := kidsT_le (f := seqT) rfl seqT_st hx hw
  refine Ok.bind (hkid k (mem_at hw) s _ (by rw [hs, List.length_append]; omega)) fun y hy => Ok.ret ?_
  rw [hy, hs, List.map_append, seqT_append]
  by_cases e : k.Op = 3 <;> simp [seqT, e]
 ·have c := of_decide_eq_false c
  have c2 := of_decide_eq_false c2
  have c3 := of_decide_eq_true c3
  rw [if_neg c, if_neg c2, if_pos c3] at htx
  rw [htx]
  refine Ok.bind (Ok.foldI (all := x.Kids) (Q := fun o => o = out ++ altT (x.Kids.map fun k => (k.Op, k.txt))) (fun pre s => s = out ++ altT (pre.map fun k => (k.Op, k.txt))) x.Kids [] 0 _ rfl rfl (by simp [altT]) (fun pre k r s hw hs => ?_) fun s hs => hs) fun o ho => Ok.ret ho
  have hk := mem_at hw
  have hb := kidsT_le (f := altT) rfl altT_st hx hw
  have hkc := cnt_pos k
  have hsl : (s.length : Int) = out.length + (altT (pre.map fun k => (k.Op, k.txt))).length := by rw [hs, List.length_append]; omega
  refine Ok.jn (P := fun j => j = s ++ (if pre.length = 0 then [] else [124])) (Ok.ite (fun d => ?_) fun d => Ok.ret ?_) fun j hj => ?_
  ·have d := of_decide_eq_true d
   rw [bwb_s (by omega)]
   refine Ok.ret ?_
   rw [if_neg (by omega)]
  ·have d := of_decide_eq_false d
   rw [if_pos (by omega), List.append_nil]
  ·have hj1 : (if pre.length = 0 then ([] : Str) else [124]).length ≤ 1 := by split <;> simp
   refine Ok.bind (ih k hk (m + 1) j (by have := kid_hgt hk; omega) (hx.kid hk) (by rw [hj, List.length_append]; omega)) fun y hy => Ok.ret ?_
   rw [hy, hj, hs, List.map_append]
   simp only [List.map_cons, List.map_nil]
   rw [altT_snoc]
   simp
 ·have c := of_decide_eq_false c
  have c2 := of_decide_eq_false c2
  have c3 := of_decide_eq_false c3
  rw [if_neg c, if_neg c2, if_neg c3] at htx
  obtain ⟨k, h2, h3, h4, h5, h6⟩ : ∃ k, x.Kids = [k] ∧ 0 ≤ x.Min ∧ 1 ≤ x.Max ∧ x.Min ≤ x.Max ∧ x.Max ≤ 64 := by
   rcases hx.kinds with h | h | h | ⟨_, ⟨k, h⟩, h2⟩
   ·omega
   ·omega
   ·omega
   ·exact ⟨k, h, h2⟩
  have hk : k ∈ x.Kids := by rw [h2]; simp
  have hg : x.Kids.getD 0 default = k := by rw [h2]; rfl
  have hkc := kid_cnt hk
  have hkt := txt_len k (hx.kid hk)
  have n1 := num_ok (n := x.Min) h3 (by omega)
  have n2 := num_ok (n := x.Max) (by omega) h6
  have hi : inb 0 x.Kids.length = true := inb_iff.2 ⟨by omega, by rw [h2]; simp⟩
  rw [hg]
  refine Ok.chk hi (Ok.chk hi (Ok.bind (hkid k hk out _ (by omega)) fun y hy => ?_))
  have hyl : y.length ≤ 80001000 := by
   rw [hy, List.length_append]
   have : (if (!decide (k.Op = 1)) = true then par k.txt else k.txt).length ≤ k.txt.length + 2 := by split <;> simp [par]
   omega
  rw [n1.2.1]
  simp only [Option.bind_some]
  refine Ok.chk (strl_s (by simp; omega)) ?_
  rw [bws_s (by simp; omega)]
  simp only [Option.bind_some]
  refine Ok.jn (P := fun j => j = y ++ ([123] ++ Lib.itoa x.Min) ++ (if x.Max = x.Min then [] else [44] ++ Lib.itoa x.Max)) (Ok.ite (fun d => ?_) fun d => Ok.ret ?_) fun j hj => ?_
  ·have d : ¬ x.Max = x.Min := by simpa using d
   rw [n2.2.1]
   simp only [Option.bind_some]
   refine Ok.chk (strl_s (by simp; omega)) ?_
   rw [bws_s (by simp; omega)]
   refine Ok.ret ?_
   rw [if_neg d]
  ·have d : x.Max = x.Min := by simpa using d
   rw [if_pos d, List.append_nil]
  ·have : (if x.Max = x.Min then ([] : Str) else [44] ++ Lib.itoa x.Max).length ≤ 3 := by split <;> simp <;> omega
   rw [bwb_s (by rw [hj]; rw [List.length_append, List.length_append, List.length_append]; simp only [List.length_cons, List.length_nil]; omega)]
   refine Ok.ret ?_
   rw [hj, hy, htx, h2]
   simp only [List.map_cons, List.map_nil, List.headD_cons, repT]
   by_cases e : k.Op = 1 <;> simp [e]
theorem pwrite_eq {x : GNode} (hx : Rgt x) (hc : x.cnt ≤ 1000) : F_c [] x = some x.txt :=
 lim_of ⟨2 * x.hgt, fun m hm => by
  have := (pwrite_ok x m [] hm hx (by simp; omega)).eq
  simpa using this⟩
end Go.Ab
namespace Go.Ab
open Go.Proofs
theorem takeS_map {α β : Type} {f : α → β} {l : List α} {n : Nat} {k : α} (h : l.take (n + 1) = l.take n ++ [k]) : (l.take (n + 1)).map f = (l.take n).map f ++ [f k] := by rw [h, List.map_append]; rfl
theorem takeT_le {x : GNode} {n : Nat} {k : GNode} {f : List (Int × Str) → Str} (hf0 : f [] = []) (hf : ∀ a o s, (f (a ++ [(o, s)])).length ≤ (f a).length + s.length + 2) (hx : Rgt x) (h : x.Kids.take (n + 1) = x.Kids.take n ++ [k]) :
  ((f ((x.Kids.take n).map fun k => (k.Op, k.txt))).length : Int) + 1400 * k.cnt ≤ 1400 * GNode.cnts x.Kids := by
 refine kidsT_le (r := x.Kids.drop (n + 1)) hf0 hf hx ?_
 rw [← List.singleton_append, ← List.append_assoc, ← h, List.take_append_drop]
theorem rset_ok (l : List GRange) (hl : l.length ≤ 128) : Ok (loop (fun (x126 : Str × Int) => (bif decide (x126.2 < (l.length : Int)) then jn (α := Str) (chk (inb x126.2 l.length) ((F_s ((l.getD (x126.2).toNat default).Low)).bind fun y136 => chk (strl (x126.1.length + y136.length)) (chk (inb x126.2 l.length) (chk (inb x126.2 l.length) (bif (!decide ((((l.getD (x126.2).toNat default).High).toNat : Int) = (((l.getD (x126.2).toNat default).Low).toNat : Int))) then chk (inb x126.2 l.length) ((F_s ((l.getD (x126.2).toNat default).High)).bind fun y137 => chk (strl ([45].length + y137.length)) (chk (strl ((x126.1 ++ y136).length + (([45] : Str) ++ y137).length)) (some ((x126.1 ++ y136) ++ (([45] : Str) ++ y137))))) else some (x126.1 ++ y136)))))) fun j134 => chk (in64 (x126.2 + 1)) (some (.nx (j134, (x126.2 + 1)))) else some (.ex x126.1) : Option (Fl (Str × Int) Str))) ([91],0)) (· = [91] ++ setB l) := by
 refine Ok.loop (fun s : Str × Int => ∃ n : Nat, s.2 = (n : Int) ∧ n ≤ l.length ∧ s.1 = [91] ++ setB (l.take n)) (fun s => (l.length - s.2).toNat) (fun s hs => ?_) _ ⟨0, rfl, by omega, by simp [setB]⟩
 obtain ⟨s, i⟩ := s
 obtain ⟨n, e, h2, h4⟩ := hs
 dsimp only at e h4
 subst e
 dsimp only
 have e0 : (n : Int).toNat = n := Int.toNat_natCast n
 rw [e0]
 refine Ok.ite (fun d => ?_) fun d => ?_
 ·have d : (n : Int) < l.length := of_decide_eq_true d
  obtain ⟨r, hr, hg, ht⟩ := at_take (l := l) (n := n) (by omega)
  have hi : inb (n : Int) l.length = true := inb_iff.2 ⟨by omega, d⟩
  have h1 := sgn_ok r.Low
  have h3 := sgn_ok r.High
  have hb := setB_len (l.take n)
  have hb2 : (l.take n).length ≤ 128 := by rw [List.length_take]; omega
  have hsl : s.length ≤ 1200 := by rw [h4]; simp only [List.length_append, List.length_cons, List.length_nil]; omega
  rw [hg]
  refine Ok.jn (P := fun j => j = s ++ rT r) (Ok.chk hi ?_) fun j hj => ?_
  ·rw [h1.2.1]
   simp only [Option.bind_some]
   refine Ok.chk (strl_s (by omega)) (Ok.chk hi (Ok.chk hi (Ok.ite (fun f => Ok.chk hi ?_) fun f => Ok.ret ?_)))
   ·rw [h3.2.1]
    simp only [Option.bind_some]
    refine Ok.chk (strl_s (by simp; omega)) (Ok.chk (strl_s (by simp; omega)) (Ok.ret ?_))
    have f : ¬ (r.High.toNat : Int) = r.Low.toNat := by simpa using f
    unfold rT; rw [if_neg f]; simp
   ·have f : (r.High.toNat : Int) = r.Low.toNat := by simpa using f
    unfold rT; rw [if_pos f]; simp
  ·refine Ok.chk (in64_s (by omega) (by omega)) (Ok.ret ⟨⟨n + 1, rfl, by omega, ?_⟩, by dsimp only; omega⟩)
   dsimp only
   rw [hj, h4, ht, setB_append]; simp [setB]
 ·have d : ¬ (n : Int) < l.length := of_decide_eq_false d
  have e : n = l.length := by omega
  subst e
  rw [List.take_length] at h4
  exact Ok.ret h4
theorem rwrite_ok : ∀ (x : GNode) (m : Nat), x.hgt ≤ m → Rgt x → x.cnt ≤ 1000 → Ok (FR_6 m x) (· = x.txt) := by
 refine GNode.ind fun x ih m hm hx hc => ?_
 obtain ⟨m, rfl⟩ : ∃ n, m = n + 1 := ⟨m - 1, by have := hgt_pos x; omega⟩
 have hcq := cnt_eq x
 have hkl := kids_cnt x
 have htx := txt_eq x
 have hrec : ∀ k ∈ x.Kids, Ok (FR_6 m k) (· = k.txt) := fun k hk => ih k hk m (by have := kid_hgt hk; omega) (hx.kid hk) (by have := kid_cnt hk; omega)
 rw [FR_6]
 refine Ok.ite (fun c => ?_) fun c => Ok.ite (fun c2 => ?_) fun c2 => Ok.ite (fun c3 => ?_) fun c3 => ?_
 ·have c := of_decide_eq_true c
  rw [if_pos c] at htx
  have hr : rngP x.Ranges := by rcases hx.kinds with h | h | h | h <;> first | exact h.2.1 | omega
  have hl := rng_len hr
  rw [htx]
  refine Ok.jn (P := fun o => Fl.elim (fun _ => ¬ (x.Ranges.length = 1 ∧ ((x.Ranges.getD 0 default).Low.toNat : Int) = (x.Ranges.getD 0 default).High.toNat)) (fun r => r = setT x.Ranges) o) (Ok.ite (fun c => ?_) fun c => Ok.ret ?_) fun o ho2 => ?_
  ·have c := of_decide_eq_true c
   have hi : inb 0 x.Ranges.length = true := inb_iff.2 ⟨by omega, by omega⟩
   refine Ok.chk hi (Ok.chk hi (Ok.ite (fun d => Ok.chk hi ?_) fun d => Ok.ret fun h => (of_decide_eq_false d) h.2))
   have d := of_decide_eq_true d
   rw [(sgn_ok _).2.1]
   refine Ok.ret ?_
   show _ = setT x.Ranges
   unfold setT
   rw [if_pos ⟨by omega, d⟩]
  ·exact fun h => (of_decide_eq_false c) (by omega)
  ·cases o with
   | ex r => rw [Fl_ex]; exact Ok.ret ho2
   | nx j =>
    rw [Fl_nx]
    refine Ok.bind (rset_ok x.Ranges hl) fun y hy => ?_
    have := setB_len x.Ranges
    refine Ok.chk (strl_s (by rw [hy]; simp; omega)) (Ok.ret ?_)
    unfold setT
    rw [if_neg ho2, hy]
 ·have c := of_decide_eq_false c
  have c2 := of_decide_eq_true c2
  rw [if_neg c, if_pos c2] at htx
  rw [htx]
  refine Ok.bind (Ok.loop (Q := fun r => r = seqT (x.Kids.map fun k => (k.Op, k.txt))) (fun s : Str × Int => ∃ n : Nat, s.2 = (n : Int) ∧ n ≤ x.Kids.length ∧ s.1 = seqT ((x.Kids.take n).map fun k => (k.Op, k.txt))) (fun s => (x.Kids.length - s.2).toNat) (fun s hs => ?_) _ ⟨0, rfl, by omega, by simp [seqT]⟩) fun r hr => Ok.ret hr
  obtain ⟨s, i⟩ := s
  obtain ⟨n, e, h2, h4⟩ := hs
  dsimp only at e h4
  subst e
  dsimp only
  have e0 : (n : Int).toNat = n := Int.toNat_natCast n
  rw [e0]
  refine Ok.ite (fun d => ?_) fun d => ?_
  ·have d : (n : Int) < x.Kids.length := of_decide_eq_true d
   obtain ⟨k, hk, hg, ht⟩ := at_take (l := x.Kids) (n := n) (by omega)
   have hi : inb (n : Int) x.Kids.length = true := inb_iff.2 ⟨by omega, d⟩
   have hb := takeT_le (f := seqT) rfl seqT_st hx ht
   rw [← h4] at hb
   have hkt := txt_len k (hx.kid hk)
   have hkc := cnt_pos k
   rw [hg]
   refine Ok.jn (P := fun j => j = s ++ (if k.Op = 3 then par k.txt else k.txt)) (Ok.chk hi (Ok.ite (fun f => Ok.chk hi (Ok.bind (hrec k hk) fun y hy => ?_)) fun f => Ok.chk hi (Ok.bind (hrec k hk) fun y hy => ?_))) fun j hj => ?_
   ·subst hy
    refine Ok.chk (strl_s (by simp; omega)) (Ok.chk (strl_s (by simp; omega)) (Ok.chk (strl_s (by simp; omega)) (Ok.ret ?_)))
    rw [if_pos (of_decide_eq_true f)]; rfl
   ·subst hy
    refine Ok.chk (strl_s (by omega)) (Ok.ret ?_)
    rw [if_neg (of_decide_eq_false f)]
   ·refine Ok.chk (in64_s (by omega) (by omega)) (Ok.ret ⟨⟨n + 1, rfl, by omega, ?_⟩, by dsimp only; omega⟩)
    dsimp only
    rw [takeS_map ht, seqT_append, hj, h4]
    simp [seqT]
  ·have d : ¬ (n : Int) < x.Kids.length := of_decide_eq_false d
   have e : n = x.Kids.length := by omega
   subst e
   rw [List.take_length] at h4
   exact Ok.ret h4
 ·have c := of_decide_eq_false c
  have c2 := of_decide_eq_false c2
  have c3 := of_decide_eq_true c3
  rw [if_neg c, if_neg c2, if_pos c3] at htx
  rw [htx]
  refine Ok.bind (Ok.loop (Q := fun r => r = altT (x.Kids.map fun k => (k.Op, k.txt))) (fun s : Str × Int => ∃ n : Nat, s.2 = (n : Int) ∧ n ≤ x.Kids.length ∧ s.1 = altT ((x.Kids.take n).map fun k => (k.Op, k.txt))) (fun s => (x.Kids.length - s.2).toNat) (fun s hs => ?_) _ ⟨0, rfl, by omega, by simp [altT]⟩) fun r hr => Ok.ret hr
  obtain ⟨s, i⟩ := s
  obtain ⟨n, e, h2, h4⟩ := hs
  dsimp only at e h4
  subst e
  dsimp only
  have e0 : (n : Int).toNat = n := Int.toNat_natCast n
  rw [e0]
  refine Ok.ite (fun d => ?_) fun d => ?_
  ·have d : (n : Int) < x.Kids.length := of_decide_eq_true d
   obtain ⟨k, hk, hg, ht⟩ := at_take (l := x.Kids) (n := n) (by omega)
   have hi : inb (n : Int) x.Kids.length = true := inb_iff.2 ⟨by omega, d⟩
   have hb := takeT_le (f := altT) rfl altT_st hx ht
   rw [← h4] at hb
   have hkt := txt_len k (hx.kid hk)
   have hkc := cnt_pos k
   rw [hg]
   refine Ok.jn (P := fun j => j = s ++ (if n = 0 then [] else [124])) (Ok.ite (fun f => Ok.chk (strl_s (by simp; omega)) (Ok.ret ?_)) fun f => Ok.ret ?_) fun j hj => ?_
   ·have f := of_decide_eq_true f
    rw [if_neg (by omega)]
   ·have f := of_decide_eq_false f
    rw [if_pos (by omega), List.append_nil]
   ·have hj1 : (if n = 0 then ([] : Str) else [124]).length ≤ 1 := by split <;> simp
    refine Ok.chk hi (Ok.bind (hrec k hk) fun y hy => ?_)
    subst hy
    refine Ok.chk (strl_s (by rw [hj, List.length_append]; omega)) (Ok.chk (in64_s (by omega) (by omega)) (Ok.ret ⟨⟨n + 1, rfl, by omega, ?_⟩, by dsimp only; omega⟩))
    dsimp only
    rw [takeS_map ht, altT_snoc, hj, h4, List.length_map, List.length_take, Nat.min_eq_left h2]
  ·have d : ¬ (n : Int) < x.Kids.length := of_decide_eq_false d
   have e : n = x.Kids.length := by omega
   subst e
   rw [List.take_length] at h4
   exact Ok.ret h4
 ·have c := of_decide_eq_false c
  have c2 := of_decide_eq_false c2
  have c3 := of_decide_eq_false c3
  rw [if_neg c, if_neg c2, if_neg c3] at htx
  obtain ⟨k, h2, h3, h4, h5, h6⟩ : ∃ k, x.Kids = [k] ∧ 0 ≤ x.Min ∧ 1 ≤ x.Max ∧ x.Min ≤ x.Max ∧ x.Max ≤ 64 := by
   rcases hx.kinds with h | h | h | ⟨_, ⟨k, h⟩, h2⟩
   ·omega
   ·omega
   ·omega
   ·exact ⟨k, h, h2⟩
  have hk : k ∈ x.Kids := by rw [h2]; simp
  have hg : x.Kids.getD 0 default = k := by rw [h2]; rfl
  have hkc := kid_cnt hk
  have hkt := txt_len k (hx.kid hk)
  have n1 := num_ok (n := x.Min) h3 (by omega)
  have n2 := num_ok (n := x.Max) (by omega) h6
  have hi : inb 0 x.Kids.length = true := inb_iff.2 ⟨by omega, by rw [h2]; simp⟩
  rw [hg]
  refine Ok.chk hi (Ok.bind (hrec k hk) fun y hy => ?_)
  subst hy
  refine Ok.jn (P := fun j => j = if k.Op = 1 then k.txt else par k.txt) (Ok.chk hi (Ok.ite (fun f => Ok.chk (strl_s (by simp; omega)) (Ok.chk (strl_s (by simp; omega)) (Ok.ret ?_))) fun f => Ok.ret ?_)) fun j hj => ?_
  ·have f : ¬ k.Op = 1 := by simpa using f
   rw [if_neg f]; rfl
  ·have f : k.Op = 1 := by simpa using f
   rw [if_pos f]
  ·have hjl : j.length ≤ 1500000 := by
    have : (if k.Op = 1 then k.txt else par k.txt).length ≤ k.txt.length + 2 := by split <;> simp [par]
    rw [hj]; omega
   rw [n1.1]
   simp only [Option.bind_some]
   refine Ok.chk (strl_s (by simp; omega)) (Ok.chk (strl_s (by simp; omega)) (Ok.jn (P := fun t => t = j ++ ([123] ++ Lib.itoa x.Min) ++ (if x.Max = x.Min then [] else [44] ++ Lib.itoa x.Max)) (Ok.ite (fun d => ?_) fun d => Ok.ret ?_) fun t ht => ?_))
   ·have d : ¬ x.Max = x.Min := by simpa using d
    rw [n2.1]
    simp only [Option.bind_some]
    refine Ok.chk (strl_s (by simp; omega)) (Ok.chk (strl_s (by simp; omega)) (Ok.ret ?_))
    rw [if_neg d]
   ·have d : x.Max = x.Min := by simpa using d
    rw [if_pos d, List.append_nil]
   ·have : (if x.Max = x.Min then ([] : Str) else [44] ++ Lib.itoa x.Max).length ≤ 3 := by split <;> simp <;> omega
    refine Ok.chk (strl_s (by rw [ht]; rw [List.length_append, List.length_append, List.length_append]; simp only [List.length_cons, List.length_nil]; omega)) (Ok.ret ?_)
    rw [ht, hj, htx, h2]
    simp only [List.map_cons, List.map_nil, List.headD_cons, repT]
theorem rwrite_eq {x : GNode} (hx : Rgt x) (hc : x.cnt ≤ 1000) : F_6 x = some x.txt := lim_of ⟨x.hgt, fun m hm => (rwrite_ok x m hm hx hc).eq⟩
theorem text_same (x : GNode) : ∃ v, F_u x = some v ∧ F_1l x = some v := by
 unfold F_u F_1l
 rw [valid_eq, rvalid_eq]
 simp only [Option.bind_some]
 by_cases c : x.err = 0
 ·have hv := err_zero.1 c
  have hc : x.cnt ≤ 1000 := by have := hv.cnt; omega
  rw [decide_eq_true c, pwrite_eq hv.rgt hc, rwrite_eq hv.rgt hc]
  exact ⟨_, rfl, rfl⟩
 ·rw [decide_eq_false c]
  exact ⟨_, rfl, rfl⟩
def oneN' (c : UInt8) : GNode := GNode.mk 1 [GRange.mk c c] [] 0 0
theorem word_same {s : Str} : ∃ v, F_10 s = some v ∧ F_w s = some v ∧ Lens v := by
 unfold F_10 F_w
 by_cases c : (decide ((s.length : Int) = 0) || decide (100 < (s.length : Int))) = true
 ·rw [c]
  exact ⟨_, rfl, rfl, .mk _ (small_max (by simp)) (small_max (by simp)) (by simp)⟩
 ·rw [Bool.not_eq_true] at c
  rw [c]
  simp only [Bool.or_eq_false_iff, decide_eq_false_iff_not] at c
  have h2 : s.length ≤ 100 := by omega
  have w1 : foldL F_1e s 0 [] = some (s.map oneN') := by
   refine Ok.eq (Ok.foldI (all := s) (fun pre o => o = pre.map oneN') s [] 0 [] rfl rfl rfl (fun pre a r o hw ho => ?_) fun o ho => ho)
   have := len_at hw
   unfold F_1e
   refine Ok.chk (room_s (by subst ho; simp; omega)) (Ok.ret ?_)
   subst ho; simp [oneN']
  have w2 : loop (F_19 s) (0,[]) = some (s.map oneN') := by
   refine Ok.eq (Ok.loop (fun x : Int × List GNode => ∃ n : Nat, x.1 = (n : Int) ∧ n ≤ s.length ∧ x.2 = (s.take n).map oneN') (fun x => (s.length - x.1).toNat) (fun x hx => ?_) _ ⟨0, rfl, by omega, by simp⟩)
   obtain ⟨i, o⟩ := x
   obtain ⟨n, e, h3, h4⟩ := hx
   dsimp only at e h4
   subst e
   unfold F_19
   dsimp only
   have e0 : (n : Int).toNat = n := Int.toNat_natCast n
   rw [e0]
   refine Ok.ite (fun d => ?_) fun d => ?_
   ·have d : (n : Int) < s.length := of_decide_eq_true d
    obtain ⟨k, hk, hg, ht⟩ := at_take (l := s) (n := n) (by omega)
    have hg' : s.getD n 0 = k := hg
    have hi : inb (n : Int) s.length = true := inb_iff.2 ⟨by omega, d⟩
    rw [hg']
    have hol : o.length ≤ 100 := by rw [h4, List.length_map, List.length_take]; omega
    refine Ok.chk hi (Ok.chk hi (Ok.chk (room_s (by simp; omega)) (Ok.chk (in64_s (by omega) (by omega)) (Ok.ret ⟨⟨n + 1, rfl, by omega, ?_⟩, by dsimp only; omega⟩))))
    dsimp only
    rw [takeS_map ht, h4]; rfl
   ·have d : ¬ (n : Int) < s.length := of_decide_eq_false d
    have e : n = s.length := by omega
    subst e
    rw [List.take_length] at h4
    exact Ok.ret h4
  have hone : ∀ c, Lens (oneN' c) := fun c => .mk _ (small_max (by simp [oneN'])) (small_max (by simp [oneN'])) (by simp [oneN'])
  show ∃ v, ((foldL F_1e s 0 []).bind _ = some v) ∧ ((loop (F_19 s) (0,[])).bind _ = some v) ∧ Lens v
  rw [w1, w2]
  simp only [Option.bind_some]
  match s, c with
  | [], c => simp at c
  | [q], _ =>
   have hd : decide ((([q].map oneN').length : Int) = 1) = true := decide_eq_true (by simp)
   have hd' : decide ((([q] : Str).length : Int) = 1) = true := decide_eq_true (by simp)
   have hi : inb 0 ([q].map oneN').length = true := inb_iff.2 ⟨by omega, by simp⟩
   rw [hd, hd', hi]
   exact ⟨oneN' q, rfl, rfl, hone q⟩
  | a :: b :: r, _ =>
   have hd : decide ((((a :: b :: r).map oneN').length : Int) = 1) = false := decide_eq_false (by simp; omega)
   have hd' : decide (((a :: b :: r).length : Int) = 1) = false := decide_eq_false (by simp; omega)
   rw [hd, hd']
   refine ⟨_, rfl, rfl, .mk _ (small_max (by simp)) (small_max (by rw [List.length_map]; omega)) fun k hk => ?_⟩
   obtain ⟨z, _, rfl⟩ := List.mem_map.1 hk
   exact hone z
theorem psame_refl (v : GNode) : F_4 v v = some true := by
 classical
 rw [psame_eq, decide_eq_true rfl]
theorem texts05 {tape : List Int} {raw : GNode} {s : Str} (ht : (V.sl (tape.map (V.int .i64))).fact) : F_1u tape raw s = some true := by
 have h0 : TO (GTape.mk tape 0) := ⟨Int.le_refl 0, Int.ofNat_le.2 (fact_sl ht)⟩
 refine Ok.eq ?_
 unfold F_1u
 refine Ok.bind (own_ok h0) fun x hx => Ok.bind (made_pattern' 4 (by omega) hx.2) fun w hw => ?_
 refine Ok.bind (Ok.loop (Q := fun t => t = .inl ()) (fun i : Int => 0 ≤ i ∧ i ≤ 3) (fun i => (3 - i).toNat) (fun i hi => ?_) _ ⟨by omega, by omega⟩) fun t ht => ?_
 ·unfold F_26
  refine Ok.ite (fun c => ?_) fun _ => Ok.ret rfl
  have c : i < 3 := of_decide_eq_true c
  have hin : inb i [raw, x.1, w.1].length = true := inb_iff.2 ⟨hi.1, c⟩
  refine Ok.jn (P := fun o => o = .nx ()) (Ok.chk hin (Ok.bind (few_ok _) fun q _ => Ok.ite (fun _ => Ok.ret rfl) fun _ => Ok.chk hin ?_)) fun o ho => ?_
  ·obtain ⟨v, e1, e2⟩ := text_same ([raw, x.1, w.1].getD i.toNat default)
   rw [e1, e2]
   refine Ok.bind (P := fun y => y = v) ⟨_, rfl, rfl⟩ fun y hy => Ok.chk hin (Ok.bind (P := fun y => y = v) ⟨_, rfl, rfl⟩ fun y' hy' => Ok.grp ?_)
   subst hy hy'
   exact Ok.ite (fun f => by simp at f) fun _ => Ok.ret rfl
  ·subst ho
   rw [Fl_nx]
   exact Ok.chk (in64_s (by omega) (by omega)) (Ok.ret ⟨⟨by omega, by omega⟩, by omega⟩)
 ·subst ht
  rw [Sum_inl]
  refine Ok.jn (P := fun v => v = true) (Ok.ite (fun _ => Ok.ret rfl) fun _ => ?_) fun v hv => ?_
  ·obtain ⟨v, e1, e2, hl⟩ := word_same (s := s)
   rw [e1, e2]
   simp only [Option.bind_some]
   rw [psame_refl]
   exact Ok.ret rfl
  ·subst hv
   refine Ok.jn (P := fun v => v = true) (Ok.ite (fun _ => ?_) fun f => by cases f) fun v hv => Ok.ret hv
   rw [awake05]
   exact Ok.ret rfl
theorem call05t {tape : List Int} {raw : GNode} {s : Str} : ACall Tryz.prog 4 [.sl (tape.map (V.int .i64)), GNode.v raw, .str s] [] (fun r H => r = .bool true ∧ H = []) :=
 acall_fact' (by kernel_rfl) fun h => Wq_1u.w (texts05 (h _ (by simp)))
end Go.Ab
