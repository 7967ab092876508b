/- What the functions of this seat that lie on the laws' road compute (part RC31), each for every input. By AI agents. -/
import Derived.Test.YtopbblhkapgdkaaDoorL31C
import Derived.Test.YtopbblhkapgdkaaDoorAbRows
import Derived.WalkKit
import Derived.Deep.LoopGhost
import Derived.Deep.OwnRows
import Derived.Deep.RegionWith
set_option linter.all false
namespace Go.Proofs
open Go.Deep Go.Ab Go.RowKit
theorem Tryd.i4 : (Tryd.prog.info? 4).map (fun i => (i.zero, i.size, i.bytes)) = some (some (.bool false), 1, 1) := by kernel_rfl
theorem Tryd.i66 : (Tryd.prog.info? 66).map (fun i => (i.zero, i.size, i.bytes)) = some (some (.slice none 0 0), 1, 24) := by kernel_rfl
def topS (bs : Nat → Nat) (n c : Nat) : Nat → Value := fun j => if j < c then .slice (some ⟨bs j, 0, none⟩) n n else .slice none 0 0
/-- c rows are made -/
structure PA (w wr : World) (n c : Nat) (vx : Array Value) (L : Nat → Nat → Bool) (bs : Nat → Nat) : Prop where
  since : w.Since w.heap.size wr
  size : w.heap.size + 2 ≤ wr.heap.size
  box : wr.heap[w.heap.size]? = some (.cells vx 31)
  top : wr.rowIs (w.heap.size + 1) 66 n (topS bs n c)
  done : ∀ j, j < c → wr.rowIs (bs j) 4 n (fun i => .bool (L j i))
  lo : ∀ j, j < c → w.heap.size + 1 < bs j
  inj : ∀ i j, i < j → j < c → bs i < bs j
/-- row c is made, and filled up to r -/
structure PB (w wr : World) (n c r : Nat) (vx : Array Value) (L : Nat → Nat → Bool) (bs : Nat → Nat) : Prop where
  since : w.Since w.heap.size wr
  size : w.heap.size + 2 ≤ wr.heap.size
  box : wr.heap[w.heap.size]? = some (.cells vx 31)
  top : wr.rowIs (w.heap.size + 1) 66 n (topS bs n (c + 1))
  done : ∀ j, j < c → wr.rowIs (bs j) 4 n (fun i => .bool (L j i))
  cur : wr.rowIs (bs c) 4 n (fun i => .bool (decide (i < r) && L c i))
  lo : ∀ j, j ≤ c → w.heap.size + 1 < bs j
  inj : ∀ i j, i < j → j ≤ c → bs i < bs j
theorem pa_start (w : World) (n : Nat) (vx : Array Value) (L : Nat → Nat → Bool) : PA w ((w.alloc (.cells vx 31)).alloc (.cells (madeCells #[.slice none 0 0] n) 66)) n 0 vx L (fun _ => 0) := by
  have hnew := World.rowIs_made (w.alloc (.cells vx 31)) (.slice none 0 0) n 66
  rw [World.size_alloc] at hnew
  have hb : ((w.alloc (.cells vx 31)).alloc (.cells (madeCells #[.slice none 0 0] n) 66)).heap[w.heap.size]? = some (.cells vx 31) := by
    rw [blk_alloc_lt _ _ _ (by simp)]; exact World.alloc_heap_new w _
  exact ⟨((World.Since.refl _ _).alloc (Nat.le_refl _) _).alloc (by simp) _, by simp, hb, hnew.congr (fun j _ => by simp [topS]), fun j hj => absurd hj (Nat.not_lt_zero _), fun j hj => absurd hj (Nat.not_lt_zero _), fun i j _ hj => absurd hj (Nat.not_lt_zero _)⟩
theorem pb_start {w wr : World} {n c : Nat} {vx : Array Value} {L : Nat → Nat → Bool} {bs : Nat → Nat} (h : PA w wr n c vx L bs) :
    PB w ((wr.alloc (.cells (madeCells #[.bool false] n) 4)).setCell ⟨w.heap.size + 1, c, none⟩ (.slice (some ⟨wr.heap.size, 0, none⟩) n n)) n c 0 vx L (fun j => if j = c then wr.heap.size else bs j) := by
  have hnew := World.rowIs_made wr (.bool false) n 4
  have hs := h.size
  refine ⟨(h.since.alloc (by omega) _).setCell (by show w.heap.size ≤ w.heap.size + 1; omega) _, by simp; omega, ((blk_setCell_other _ _ _ _ (by show w.heap.size ≠ w.heap.size + 1; omega)).trans (blk_alloc_lt _ _ _ (by omega))).trans h.box, ((h.top.alloc _).set c _).congr (fun j _ => ?_), fun j hj => ?_, ?_, fun j hj => ?_, fun i j hij hj => ?_⟩
  · simp only [topS]
    by_cases e : j = c
    · subst e; simp
    · rw [if_neg e, if_neg e]
      by_cases hlt : j < c
      · rw [if_pos hlt, if_pos (by omega)]
      · rw [if_neg hlt, if_neg (by omega)]
  · rw [if_neg (by omega)]
    have := h.lo j hj
    exact ((h.done j hj).alloc _).setOther (by show bs j ≠ w.heap.size + 1; omega) _
  · simp only [if_true]
    exact (hnew.setOther (by show wr.heap.size ≠ w.heap.size + 1; omega) _).congr fun i _ => by simp
  · by_cases e : j = c
    · rw [if_pos e]; omega
    · rw [if_neg e]; exact h.lo j (by omega)
  · by_cases e : j = c
    · rw [if_pos e, if_neg (by omega)]
      exact (h.done i (by omega)).lt
    · rw [if_neg e, if_neg (by omega)]; exact h.inj i j hij (by omega)
/-- the world has grown -/
theorem PB.grown {w wr wq : World} {n c r : Nat} {vx : Array Value} {L : Nat → Nat → Bool} {bs : Nat → Nat} (h : PB w wr n c r vx L bs) (hs : wr.Since wr.heap.size wq) : PB w wq n c r vx L bs := by
  have hz := h.size
  have hz2 := hs.size
  have hk : ∀ b, b < wr.heap.size → wq.heap[b]? = wr.heap[b]? := hs.block
  exact ⟨⟨hs.os.trans h.since.os, hs.tape.trans h.since.tape, hs.output.trans h.since.output, Nat.le_trans h.since.size hs.size, fun b hb => (hk b (by omega)).trans (h.since.block b hb)⟩, by omega, (hk _ (by omega)).trans h.box, h.top.of_block (hk _ h.top.lt), fun j hj => (h.done j hj).of_block (hk _ (h.done j hj).lt), h.cur.of_block (hk _ h.cur.lt), h.lo, h.inj⟩
theorem pb_step {w wr : World} {n c r : Nat} {vx : Array Value} {L : Nat → Nat → Bool} {bs : Nat → Nat} (h : PB w wr n c r vx L bs) : PB w (wr.setCell ⟨bs c, r, none⟩ (.bool (L c r))) n c (r + 1) vx L bs := by
  have hlo := h.lo c (Nat.le_refl _)
  refine ⟨h.since.setCell (by show w.heap.size ≤ bs c; omega) _, by have := h.size; simp; omega, (blk_setCell_other _ _ _ _ (by show w.heap.size ≠ bs c; omega)).trans h.box, h.top.setOther (by show w.heap.size + 1 ≠ bs c; omega) _, fun j hj => (h.done j hj).setOther (by show bs j ≠ bs c; have := h.inj j c hj (Nat.le_refl _); omega) _, (h.cur.set r _).congr (fun i _ => ?_), h.lo, h.inj⟩
  by_cases e : i = r
  · subst e; simp
  · rw [if_neg e]
    have : decide (i < r + 1) = decide (i < r) := decide_eq_decide.2 (by omega)
    rw [this]
theorem PB.drew {w wr : World} {n c r : Nat} {vx : Array Value} {L : Nat → Nat → Bool} {bs : Nat → Nat} (h : PB w wr n c r vx L bs) : PB w wr.drew n c r vx L bs :=
  ⟨h.since.drew, h.size, h.box, h.top.drew, fun j hj => (h.done j hj).drew, h.cur.drew, h.lo, h.inj⟩
theorem pb_done {w wr : World} {n c : Nat} {vx : Array Value} {L : Nat → Nat → Bool} {bs : Nat → Nat} (h : PB w wr n c n vx L bs) : PA w wr n (c + 1) vx L bs :=
  ⟨h.since, h.size, h.box, h.top, fun j hj => by
    by_cases e : j = c
    · subst e; exact h.cur.congr fun i hi => by simp [hi]
    · exact h.done j (by omega), fun j hj => h.lo j (by omega), fun i j hij hj => h.inj i j hij (by omega)⟩
theorem PB.look {w wr : World} {n c r : Nat} {v0 v1 v2 v3 v4 : Value} {L : Nat → Nat → Bool} {bs : Nat → Nat} (h : PB w wr n c r #[v0, v1, v2, v3, v4] L bs) (hc : c < n) (hr : r < n) :
    wr.cell? ⟨w.heap.size + 1, c, none⟩ = some (.slice (some ⟨bs c, 0, none⟩) n n) ∧ wr.cell? ⟨w.heap.size, 0, none⟩ = some v0 ∧ wr.cell? ⟨w.heap.size, 1, none⟩ = some v1 ∧ wr.cell? ⟨w.heap.size, 2, none⟩ = some v2 ∧ wr.cell? ⟨w.heap.size, 3, none⟩ = some v3 ∧ wr.cell? ⟨w.heap.size, 4, none⟩ = some v4 ∧
    wr.cell? ⟨bs c, r, none⟩ = some (.bool (decide (r < r) && L c r)) ∧ wr.frozen? ⟨bs c, r, none⟩ = false := by
  refine ⟨?_, by simp [World.cell?, h.box], by simp [World.cell?, h.box], by simp [World.cell?, h.box], by simp [World.cell?, h.box], by simp [World.cell?, h.box], h.cur.cell hr, h.cur.frozen r⟩
  have := h.top.cell hc
  simpa [topS] using this
/-- one step of the search: out[b] = out[b] || out[a] && next[a][b] -/
def stp (L : Nat → Nat → Bool) (a b : Nat) (f : Nat → Bool) : Nat → Bool := fun i => if i = b then f b || (f a && L a b) else f i
def inn (L : Nat → Nat → Bool) (a : Nat) (f : Nat → Bool) : Nat → Nat → Bool
  | 0 => f
  | b + 1 => stp L a b (inn L a f b)
def midd (L : Nat → Nat → Bool) (n : Nat) (f : Nat → Bool) : Nat → Nat → Bool
  | 0 => f
  | a + 1 => inn L a (midd L n f a) n
def oul (L : Nat → Nat → Bool) (n : Nat) (f : Nat → Bool) : Nat → Nat → Bool
  | 0 => f
  | k + 1 => midd L n (oul L n f k) n
/-- what is reached: row ob -/
structure PC (w wr : World) (n : Nat) (L : Nat → Nat → Bool) (bs : Nat → Nat) (ob : Nat) (f : Nat → Bool) : Prop where
  since : w.Since w.heap.size wr
  top : wr.rowIs (w.heap.size + 1) 66 n (topS bs n n)
  done : ∀ j, j < n → wr.rowIs (bs j) 4 n (fun i => .bool (L j i))
  out : wr.rowIs ob 4 n (fun i => .bool (f i))
  lo : w.heap.size + 1 < ob
  apart : ∀ j, j < n → bs j ≠ ob
theorem pc_start {w wr : World} {n ci : Nat} {vx : Array Value} {L : Nat → Nat → Bool} {bs : Nat → Nat} (h : PA w wr n n vx L bs) :
    PC w ((wr.alloc (.cells (madeCells #[.bool false] n) 4)).setCell ⟨wr.heap.size, ci, none⟩ (.bool true)) n L bs wr.heap.size (fun i => decide (i = ci)) := by
  have hnew := World.rowIs_made wr (.bool false) n 4
  have hs := h.size
  have hs0 := h.since.size
  have htl := h.top.lt
  refine ⟨(h.since.alloc (by omega) _).setCell (by show w.heap.size ≤ wr.heap.size; omega) _, (h.top.alloc _).setOther (by show w.heap.size + 1 ≠ wr.heap.size; omega) _, fun j hj => ((h.done j hj).alloc _).setOther (by show bs j ≠ wr.heap.size; have := (h.done j hj).lt; omega) _, (hnew.set ci _).congr (fun j _ => ?_), by omega, fun j hj => by have := (h.done j hj).lt; omega⟩
  by_cases e : j = ci
  · subst e; simp
  · simp [e]
theorem pc_step {w wr : World} {n : Nat} {L : Nat → Nat → Bool} {bs : Nat → Nat} {ob : Nat} {f : Nat → Bool} (h : PC w wr n L bs ob f) (a b : Nat) {x : Bool} (hx : x = (f b || (f a && L a b))) :
    PC w (wr.setCell ⟨ob, b, none⟩ (.bool x)) n L bs ob (stp L a b f) := by
  have hlo := h.lo
  refine ⟨h.since.setCell (by show w.heap.size ≤ ob; omega) _, h.top.setOther (by show w.heap.size + 1 ≠ ob; omega) _, fun j hj => (h.done j hj).setOther (by show bs j ≠ ob; exact h.apart j hj) _, (h.out.set b _).congr (fun j _ => ?_), hlo, h.apart⟩
  simp only [stp]
  by_cases e : j = b
  · subst e; simp [hx]
  · simp [e]
theorem PC.look {w wr : World} {n : Nat} {L : Nat → Nat → Bool} {bs : Nat → Nat} {ob : Nat} {f : Nat → Bool} (h : PC w wr n L bs ob f) {a b : Nat} (ha : a < n) (hb : b < n) :
    wr.cell? ⟨w.heap.size + 1, a, none⟩ = some (.slice (some ⟨bs a, 0, none⟩) n n) ∧ wr.cell? ⟨bs a, b, none⟩ = some (.bool (L a b)) ∧ wr.cell? ⟨ob, a, none⟩ = some (.bool (f a)) ∧ wr.cell? ⟨ob, b, none⟩ = some (.bool (f b)) ∧ wr.frozen? ⟨ob, b, none⟩ = false := by
  refine ⟨?_, (h.done a ha).cell hb, h.out.cell ha, h.out.cell hb, h.out.frozen b⟩
  have := h.top.cell ha
  simpa [topS, ha] using this
set_option maxHeartbeats 3200000 in
set_option maxRecDepth 1000000 in
theorem reach_walk (n ci : Nat) (hci : ci < n) (hn : n ≤ 24) (v1 v2 v3 v4 : Value) (L : Nat → Nat → Bool) (w : World)
    (hcall : ∀ (W : World), w.Since w.heap.size W → ∀ a b : Nat, a < n → b < n → Calls Tryd.prog 33 #[.agg #[.int .i64 n, v1, v2, v3, v4], .int .i64 a, .int .i64 b] W fun e W' => e = .returned (.bool (L a b)) ∧ W.Since W.heap.size W') :
    Calls Tryd.prog 26 #[.agg #[.int .i64 n, v1, v2, v3, v4], .int .i64 ci] w fun e w' => ∃ bs ob, e = .returned (.slice (some ⟨ob, 0, none⟩) n n) ∧ PC w w' n L bs ob (oul L n (fun i => decide (i = ci)) n) := by
  have hmk72 := run_make_row' (P := Tryd.prog) 72 66 (.slice none 0 0) 24 Tryd.underlying72 Tryd.i66 rfl .i64 .i64 n (by omega) (by omega)
  go_enter Tryd.func26, Tryd.ntmps26
  go_wp2
  go_loopg [16] n (fun g i wr => ∃ (c : Nat) (bs : Nat → Nat), c ≤ n ∧ g = n - c ∧ i = .int .i64 c ∧ PA w wr n c #[.int .i64 n, v1, v2, v3, v4] L bs)
  case atStart => exact ⟨0, _, Nat.zero_le _, rfl, rfl, pa_start w n _ L⟩
  case round =>
    obtain ⟨c, bs, hc, rfl, rfl, hO⟩ := hrel
    have hb0 : wr.cell? ⟨w.heap.size, 0, none⟩ = some (.int .i64 n) := by simp [World.cell?, hO.box]
    have hmk66 := run_make_row' (P := Tryd.prog) 66 4 (.bool false) 1 Tryd.underlying66 Tryd.i4 rfl .i64 .i64 n (by omega) (by omega)
    have hst1 : c < n → ∀ o, (wr.alloc o).cell? ⟨w.heap.size + 1, c, none⟩ = some (topS bs n c c) := fun h o => (hO.top.alloc o).cell h
    have hst2 : ∀ o, (wr.alloc o).frozen? ⟨w.heap.size + 1, c, none⟩ = false := fun o => (hO.top.alloc o).frozen c
    have hI0 := pb_start hO
    have hst3 : c < n → ((wr.alloc (.cells (madeCells #[.bool false] n) 4)).setCell ⟨w.heap.size + 1, c, none⟩ (.slice (some ⟨wr.heap.size, 0, none⟩) n n)).cell? ⟨w.heap.size + 1, c, none⟩ = some (.slice (some ⟨wr.heap.size, 0, none⟩) n n) := fun h => by
      have := hI0.top.cell h
      simpa [topS] using this
    by_cases hcn : c < n
    · have hst1 := hst1 hcn
      have hst3 := hst3 hcn
      go_wp2
      clear hst1 hst2 hst3 hmk66 hb0 hmk72
      generalize hbs : (fun j => if j = c then wr.heap.size else bs j) = bs' at hI0
      have hbc : wr.heap.size = bs' c := by rw [← hbs]; simp
      rw [hbc]
      rw [hbc] at hI0
      clear hO
      go_loopg [30] n (fun g i wi => ∃ r : Nat, r ≤ n ∧ g = n - r ∧ i = .int .i64 r ∧ PB w wi n c r #[.int .i64 n, v1, v2, v3, v4] L bs')
      case atStart => exact ⟨0, Nat.zero_le _, rfl, rfl, hI0⟩
      case round =>
        clear hI0
        obtain ⟨r, hr, rfl, rfl, hI⟩ := hrel
        by_cases hrn : r < n
        · obtain ⟨g1, b0, b1, b2, b3, b4, q1, q2⟩ := hI.look hcn hrn
          go_wp2
          go_region_with (go_at_call 33; refine (hcall _ ?_ c r hcn hrn).mono ?_; exact hI.drew.since; rintro e W' ⟨rfl, hW'⟩; obtain ⟨k1, k2, k3, k4, k5, k6, k7, k8⟩ := (hI.drew.grown hW').look hcn hrn)
          all_goals go_wp2
          all_goals
            go_roundg (n - (r + 1))
            case measure => omega
            case rel => exact ⟨r + 1, by omega, rfl, by simp, pb_step (hI.drew.grown hW')⟩
        · have hrr : r = n := by omega
          subst hrr
          clear hcall
          go_wp2
          go_roundg (r - (c + 1))
          case measure => omega
          case rel => exact ⟨c + 1, bs', by omega, rfl, by simp, pb_done hI⟩
    · have hcc : c = n := by omega
      subst hcc
      have hnew := World.rowIs_made wr (.bool false) c 4
      have ho1 : (wr.alloc (.cells (madeCells #[.bool false] c) 4)).cell? ⟨wr.heap.size, ci, none⟩ = some (.bool false) := hnew.cell hci
      have ho2 : (wr.alloc (.cells (madeCells #[.bool false] c) 4)).frozen? ⟨wr.heap.size, ci, none⟩ = false := hnew.frozen ci
      have hC := pc_start (ci := ci) hO
      clear hst1 hst2 hst3 hI0 hcall hmk72 hnew
      go_wp2
      clear ho1 ho2 hb0 hmk66 hO
      try rw [show decide (c < c) = false by simp]
      have hC' : PC w (wr.alloc (.cells ((madeCells #[.bool false] c).setIfInBounds ci (.bool true)) 4)) c L bs wr.heap.size (fun i => decide (i = ci)) := by
        rw [World.setCell_alloc_at _ _ _ _ _ rfl] at hC; exact hC
      clear hC
      generalize hob : wr.heap.size = ob at hC' ⊢
      go_loopg [53] c (fun g i wq => ∃ k : Nat, k ≤ c ∧ g = c - k ∧ i = .int .i64 k ∧ PC w wq c L bs ob (oul L c (fun i => decide (i = ci)) k))
      case atStart => exact ⟨0, Nat.zero_le _, rfl, rfl, hC'⟩
      case round =>
        clear hC'
        obtain ⟨k, hk, rfl, rfl, hK⟩ := hrel
        by_cases hkn : k < c
        · go_wp2
          go_loopg [57] c (fun g i wq => ∃ a : Nat, a ≤ c ∧ g = c - a ∧ i = .int .i64 a ∧ PC w wq c L bs ob (midd L c (oul L c (fun i => decide (i = ci)) k) a))
          case atStart => exact ⟨0, Nat.zero_le _, rfl, rfl, hK⟩
          case round =>
            clear hK
            obtain ⟨a, ha, rfl, rfl, hA⟩ := hrel
            by_cases han : a < c
            · go_wp2
              go_loopg [62] c (fun g i wq => ∃ b : Nat, b ≤ c ∧ g = c - b ∧ i = .int .i64 b ∧ PC w wq c L bs ob (inn L a (midd L c (oul L c (fun i => decide (i = ci)) k) a) b))
              case atStart => exact ⟨0, Nat.zero_le _, rfl, rfl, hA⟩
              case round =>
                clear hA
                obtain ⟨b, hb, rfl, rfl, hB⟩ := hrel
                by_cases hbn : b < c
                · obtain ⟨g1, g2, g3, g4, g5⟩ := hB.look han hbn
                  have hS := @pc_step w _ c L bs ob _ hB a b
                  cases hfb : inn L a (midd L c (oul L c (fun i => decide (i = ci)) k) a) b b
                  all_goals cases hfa : inn L a (midd L c (oul L c (fun i => decide (i = ci)) k) a) b a
                  all_goals rw [hfb] at g4
                  all_goals rw [hfa] at g3
                  all_goals go_wp2
                  all_goals
                    go_roundg (c - (b + 1))
                    case measure => omega
                    case rel => exact ⟨b + 1, by omega, rfl, by simp, hS (by rw [hfa, hfb]; simp)⟩
                · have hbb : b = c := by omega
                  subst hbb
                  go_wp2
                  go_roundg (b - (a + 1))
                  case measure => omega
                  case rel => exact ⟨a + 1, by omega, rfl, by simp, hB⟩
            · have haa : a = c := by omega
              subst haa
              go_wp2
              go_roundg (a - (k + 1))
              case measure => omega
              case rel => exact ⟨k + 1, by omega, rfl, by simp, hA⟩
        · have hkk : k = c := by omega
          subst hkk
          go_wp2
          go_ret
          exact ⟨bs, ob, rfl, hK⟩
end Go.Proofs
