/- What the functions of this seat that lie on the laws' road compute (part SL), each for every input. By AI agents. -/
import Derived.Test.YtmodfifkcbpibaaProg
import Derived.KernelRfl
import Derived.Test.YtmodfifkcbpibaaAbSlib
import Derived.Shelf.Small.Bits
import Derived.Shelf.Small.Wraps
import Derived.Shelf.Strconv.Itoa0
import Derived.Shelf.Sort.Plain
import Derived.Shelf.Bits.Mul64
import Derived.Shelf.Slices.Turned
import Derived.Shelf.Slices.Reverse
import Derived.Ground.Names2Prog
import Derived.Shelf.Slices.SearchI
import Derived.Shelf.Slices.Cells
import Derived.Shelf.Slices.In.SortNone
import Derived.Ground.SlgnProg
import Derived.Shelf.SlicesE.Reverse
import Derived.Ground.SlgfProg
import Derived.Shelf.SlicesE.IndexFunc
import Derived.Shelf.SlicesE.DeleteFunc
import Derived.Shelf.Spec.SlicesInsertGrow
import Derived.Deep.LoopGhost
set_option linter.all false
set_option linter.all false
namespace Go.Proofs
open Go.Shelf
def Try.lays189_ren : Go.Shelf.Ren := ⟨fun | 189 => 73 | 125 => 82 | 257 => 81 | 128 => 97 | 129 => 98 | 294 => 88 | 295 => 89 | 296 => 90 | 297 => 91 | 298 => 92 | 299 => 93 | 216 => 94 | 300 => 95 | 301 => 96 | 328 => 100 | 329 => 101 | 330 => 102 | 331 => 103 | 332 => 104 | 215 => 105 | 343 => 106 | n => n, fun | 28 => 22 | 3 => 3 | 46 => 100 | 0 => 0 | 51 => 110 | 53 => 113 | 4 => 4 | 183 => 118 | 182 => 117 | 131 => 41 | 5 => 5 | 9 => 9 | 218 => 126 | 222 => 130 | 228 => 132 | 229 => 133 | n => n, fun | n => n⟩
theorem Try.lays189 : Go.Proofs.Lays.n189 Try.prog Try.lays189_ren := {
 mixed := by kernel_rfl
 f125 := Try.func82.trans (congrArg some (by kernel_rfl))
 f128 := Try.func97.trans (congrArg some (by kernel_rfl))
 f129 := Try.func98.trans (congrArg some (by kernel_rfl))
 f189 := Try.func73.trans (congrArg some (by kernel_rfl))
 f215 := Try.func105.trans (congrArg some (by kernel_rfl))
 f216 := Try.func94.trans (congrArg some (by kernel_rfl))
 f257 := Try.func81.trans (congrArg some (by kernel_rfl))
 f294 := Try.func88.trans (congrArg some (by kernel_rfl))
 f295 := Try.func89.trans (congrArg some (by kernel_rfl))
 f296 := Try.func90.trans (congrArg some (by kernel_rfl))
 f297 := Try.func91.trans (congrArg some (by kernel_rfl))
 f298 := Try.func92.trans (congrArg some (by kernel_rfl))
 f299 := Try.func93.trans (congrArg some (by kernel_rfl))
 f300 := Try.func95.trans (congrArg some (by kernel_rfl))
 f301 := Try.func96.trans (congrArg some (by kernel_rfl))
 f328 := Try.func100.trans (congrArg some (by kernel_rfl))
 f329 := Try.func101.trans (congrArg some (by kernel_rfl))
 f330 := Try.func102.trans (congrArg some (by kernel_rfl))
 f331 := Try.func103.trans (congrArg some (by kernel_rfl))
 f332 := Try.func104.trans (congrArg some (by kernel_rfl))
 f343 := Try.func106.trans (congrArg some (by kernel_rfl))
 t0 := Try.underlying0
 a0 := Try.isAgg0
 z0 := Try.sizeOf0
 v0 := Try.zeroValue0
 t3 := Try.underlying3
 a3 := Try.isAgg3
 z3 := Try.sizeOf3
 v3 := Try.zeroValue3
 t4 := Try.underlying4
 a4 := Try.isAgg4
 z4 := Try.sizeOf4
 v4 := Try.zeroValue4
 t5 := Try.underlying5
 a5 := Try.isAgg5
 z5 := Try.sizeOf5
 v5 := Try.zeroValue5
 t9 := Try.underlying9
 a9 := Try.isAgg9
 z9 := Try.sizeOf9
 v9 := Try.zeroValue9
 t28 := Try.underlying22
 a28 := Try.isAgg22
 z28 := Try.sizeOf22
 v28 := Try.zeroValue22
 t46 := Try.underlying100
 a46 := Try.isAgg100
 z46 := Try.sizeOf100
 v46 := Try.zeroValue100
 t51 := Try.underlying110
 a51 := Try.isAgg110
 z51 := Try.sizeOf110
 v51 := Try.zeroValue110
 t53 := Try.underlying113
 a53 := Try.isAgg113
 z53 := Try.sizeOf113
 v53 := Try.zeroValue113
 t131 := Try.underlying41
 a131 := Try.isAgg41
 z131 := Try.sizeOf41
 v131 := Try.zeroValue41
 t182 := Try.underlying117
 a182 := Try.isAgg117
 z182 := Try.sizeOf117
 v182 := Try.zeroValue117
 t183 := Try.underlying118
 a183 := Try.isAgg118
 z183 := Try.sizeOf118
 v183 := Try.zeroValue118
 t218 := Try.underlying126
 a218 := Try.isAgg126
 z218 := Try.sizeOf126
 v218 := Try.zeroValue126
 t222 := Try.underlying130
 a222 := Try.isAgg130
 z222 := Try.sizeOf130
 v222 := Try.zeroValue130
 t228 := Try.underlying132
 a228 := Try.isAgg132
 z228 := Try.sizeOf132
 v228 := Try.zeroValue132
 t229 := Try.underlying133
 a229 := Try.isAgg133
 z229 := Try.sizeOf133
 v229 := Try.zeroValue133 }
open Go.Sort Go.RowKit in
theorem Try.slices_Sort_int (blk off cap : Nat) (zs : List Int) (w : World) (hH : Holds (Value.int .i64) w blk off zs.toArray) (hblk : blk < w.heap.size) (hsz : zs.length < 4611686018427387904) :
   Calls Try.prog 73 #[.slice (some ⟨blk, off, none⟩) zs.length cap] w fun e w' =>
     e = .returned (.tuple #[]) ∧ ∃ n os, w' = grow (putRow (Value.int .i64) (Sort.ahead w n) blk off (zs.mergeSort fun x y => decide (x ≤ y)).toArray) os := Any.slices_Sort_int Try.lays189 blk off cap zs w hH hblk hsz
def Try.lays212_ren : Go.Shelf.Ren := ⟨fun | 212 => 76 | 263 => 85 | 264 => 86 | n => n, fun | 46 => 100 | 51 => 110 | 146 => 111 | 53 => 113 | 148 => 114 | n => n, fun | n => n⟩
theorem Try.lays212 : Go.Proofs.Lays.n212 Try.prog Try.lays212_ren := {
 mixed := by kernel_rfl
 f212 := Try.func76.trans (congrArg some (by kernel_rfl))
 f263 := Try.func85.trans (congrArg some (by kernel_rfl))
 f264 := Try.func86.trans (congrArg some (by kernel_rfl))
 t46 := Try.underlying100
 a46 := Try.isAgg100
 z46 := Try.sizeOf100
 v46 := Try.zeroValue100
 t51 := Try.underlying110
 a51 := Try.isAgg110
 z51 := Try.sizeOf110
 v51 := Try.zeroValue110
 t53 := Try.underlying113
 a53 := Try.isAgg113
 z53 := Try.sizeOf113
 v53 := Try.zeroValue113
 t146 := Try.underlying111
 a146 := Try.isAgg111
 z146 := Try.sizeOf111
 v146 := Try.zeroValue111
 t148 := Try.underlying114
 a148 := Try.isAgg114
 z148 := Try.sizeOf114
 v148 := Try.zeroValue114 }
open Go.RowKit Go.Lib in
theorem Try.bits_Mul (x y : Nat) (hx : x < 18446744073709551616) (hy : y < 18446744073709551616) (w : World) :
   Calls Try.prog 76 #[.int .u64 x, .int .u64 y] w fun e w' => e = .returned (.tuple #[.int .u64 ((x * y / 18446744073709551616 : Nat) : Int), .int .u64 ((x * y % 18446744073709551616 : Nat) : Int)]) ∧ w' = w := Any.bits_Mul Try.lays212 x y hx hy w
open Go.RowKit Go.Sort in
theorem Try.slices_Sort_int_none (p : Option Addr) (cap : Nat) (w : World) :
   Calls Try.prog 73 #[.slice p 0 cap] w fun e w' => e = .returned (.tuple #[]) ∧ w' = w := Any.slices_Sort_int_none Try.lays189 p cap w
def Try.layIns_ren : Go.Shelf.Ren := ⟨fun | 21 => 60 | 27 => 77 | 28 => 78 | 35 => 87 | 39 => 99 | n => n, fun | 22 => 22 | 3 => 3 | 4 => 4 | 0 => 0 | n => n, fun | n => n⟩
theorem Try.layIns : Go.Proofs.Lays2.n21 Try.prog Try.layIns_ren := {
 mixed := by kernel_rfl
 f21 := Try.func60.trans (congrArg some (by kernel_rfl))
 f27 := Try.func77.trans (congrArg some (by kernel_rfl))
 f28 := Try.func78.trans (congrArg some (by kernel_rfl))
 f35 := Try.func87.trans (congrArg some (by kernel_rfl))
 f39 := Try.func99.trans (congrArg some (by kernel_rfl))
 t0 := Try.underlying0
 a0 := Try.isAgg0
 z0 := Try.sizeOf0
 v0 := Try.zeroValue0
 t3 := Try.underlying3
 a3 := Try.isAgg3
 z3 := Try.sizeOf3
 v3 := Try.zeroValue3
 t4 := Try.underlying4
 a4 := Try.isAgg4
 z4 := Try.sizeOf4
 v4 := Try.zeroValue4
 t22 := Try.underlying22
 a22 := Try.isAgg22
 z22 := Try.sizeOf22
 v22 := Try.zeroValue22
 i3 := by kernel_rfl }
def Try.layDel_ren : Go.Shelf.Ren := ⟨fun | 10 => 83 | 6 => 79 | n => n, fun | 22 => 22 | 23 => 3 | 25 => 91 | 3 => 3 | 4 => 4 | 0 => 0 | n => n, fun | n => n⟩
theorem Try.layDel : Go.Proofs.SlLaysH.n10 Try.prog Try.layDel_ren := {
 mixed := by kernel_rfl
 f6 := ⟨Try.f79.name, by decide, Try.func79.trans (congrArg some (by kernel_rfl))⟩
 f10 := ⟨Try.f83.name, by decide, Try.func83.trans (congrArg some (by kernel_rfl))⟩
 t0 := Try.underlying0
 a0 := Try.isAgg0
 z0 := Try.sizeOf0
 v0 := Try.zeroValue0
 t3 := Try.underlying3
 a3 := Try.isAgg3
 z3 := Try.sizeOf3
 v3 := Try.zeroValue3
 t4 := Try.underlying4
 a4 := Try.isAgg4
 z4 := Try.sizeOf4
 v4 := Try.zeroValue4
 t22 := Try.underlying22
 a22 := Try.isAgg22
 z22 := Try.sizeOf22
 v22 := Try.zeroValue22
 a23 := Try.isAgg3
 z23 := Try.sizeOf3
 t25 := Try.underlying91
 a25 := Try.isAgg91
 z25 := Try.sizeOf91
 v25 := Try.zeroValue91 }
end Go.Proofs
namespace Go.Proofs
open Go.Deep Go.Ab Go.RowKit Go.Lib Go.Sort
theorem Try.iINT : (Try.prog.info? 3).map (fun i => (i.zero, i.size, i.bytes)) = some (some (.int .i64 0), 1, 8) := by kernel_rfl
theorem rowIs_setCells {b t n : Nat} : ∀ (vs : List Value) (o : Nat) (w : World) (f : Nat → Value), w.rowIs b t n f → (w.setCells b o vs).rowIs b t n (fun i => if o ≤ i ∧ i < o + vs.length then vs.getD (i - o) undef else f i)
 | [], o, w, f, h => h.congr fun i _ => by rw [if_neg (by simp)]
 | v :: vs, o, w, f, h => by
   refine (rowIs_setCells vs (o + 1) _ _ (h.set o v)).congr fun i _ => ?_
   simp only [List.length_cons]
   by_cases e : i = o
   · subst e; rw [if_neg (by omega), if_pos rfl, if_pos (by omega)]; simp
   · by_cases c : o + 1 ≤ i ∧ i < o + 1 + vs.length
     · rw [if_pos c, if_pos (by omega), show i - o = (i - (o + 1)) + 1 by omega]; simp
     · rw [if_neg c]; simp only [if_neg e]; rw [if_neg (by omega)]
structure PR (w wr : World) (n : Nat) (v : Int) (c : Nat) : Prop where
 since : w.Since w.heap.size wr
 size : wr.heap.size = w.heap.size + 1
 row : wr.rowIs w.heap.size 3 n (fun i => .int .i64 (if i < c then v else 0))
theorem PR.drew {w wr : World} {n : Nat} {v : Int} {c : Nat} (h : PR w wr n v c) : PR w wr.drew n v c := ⟨h.since.drew, h.size, h.row.drew⟩
theorem since_setCells {w wr : World} {b : Nat} : ∀ (vs : List Value) (o : Nat) (wr : World), w.Since w.heap.size wr → w.heap.size ≤ b → w.Since w.heap.size (wr.setCells b o vs) ∧ (wr.setCells b o vs).heap.size = wr.heap.size
 | [], o, wr, h, hb => ⟨h, rfl⟩
 | v :: vs, o, wr, h, hb => by
   have := since_setCells (wr := wr) vs (o + 1) _ (h.setCell (a := ⟨b, o, none⟩) hb v) hb
   exact ⟨this.1, this.2.trans (by simp)⟩
theorem PR.copied {w wr : World} {n : Nat} {v : Int} {c m : Nat} (h : PR w wr n v c) : PR w (wr.setCells w.heap.size c (List.replicate m (.int .i64 v))) n v (c + m) := by
 obtain ⟨h1, h2⟩ := since_setCells (w := w) (wr := wr) (b := w.heap.size) (List.replicate m (.int .i64 v)) c wr h.since (Nat.le_refl _)
 refine ⟨h1, h2.trans h.size, (rowIs_setCells _ c _ _ h.row).congr fun i _ => ?_⟩
 simp only [List.length_replicate]
 by_cases e : c ≤ i ∧ i < c + m
 · rw [if_pos e, if_pos e.2, List.getD_eq_getElem?_getD, List.getElem?_replicate, if_pos (by omega)]; rfl
 · rw [if_neg e]
   by_cases e2 : i < c
   · rw [if_pos e2, if_pos (by omega)]
   · rw [if_neg e2, if_neg (by omega)]
set_option maxHeartbeats 3200000 in
set_option maxRecDepth 1000000 in
theorem rep_walk (n b o vc : Nat) (v : Int) (w : World) (hn : 8 * n ≤ 140737488355328) (hv : w.cell? ⟨b, o, none⟩ = some (.int .i64 v)) :
   Calls Try.prog 59 #[.slice (some ⟨b, o, none⟩) 1 vc, .int .i64 n] w fun e w' => e = .returned (.slice (some ⟨w.heap.size, 0, none⟩) n n) ∧ PR w w' n v n := by
 have hmk := run_make_row' (P := Try.prog) 22 3 (.int .i64 0) 8 Try.underlying22 Try.iINT rfl .i64 .i64 n (by omega) (by omega)
 have hwn : IntKind.u64.wrap (n : Int) = n := by rw [IntKind.wrap_u64]; omega
 have hwi : IntKind.i64.wrap (n : Int) = n := by rw [IntKind.wrap_i64]; omega
 have hmul : ∀ w : World, Calls Try.prog 76 #[.int .u64 1, .int .u64 n] w fun e w' => e = .returned (.tuple #[.int .u64 0, .int .u64 n]) ∧ w' = w := fun w => by
   have h := Try.bits_Mul 1 n (by omega) (by omega) w
   rw [Nat.one_mul, Nat.div_eq_of_lt (by omega), Nat.mod_eq_of_lt (by omega)] at h
   exact h
 have hsz : (Try.prog.info? 3).map (·.size) = some 1 := by kernel_rfl
 have hbw : b < w.heap.size := World.block_lt_of_cell? _ _ hv
 have hnew := World.rowIs_made w (.int .i64 0) n 3
 have hP0 : PR w (w.alloc (.cells (madeCells #[.int .i64 0] n) 3)) n v 0 := ⟨(World.Since.refl _ _).alloc (Nat.le_refl _) _, by simp, hnew.congr fun i _ => by simp⟩
 have hcp : ∀ ty, (Builtin.copy_ #[22, 22] ty #[.slice (some ⟨w.heap.size, 0, none⟩) n n, .slice (some ⟨b, o, none⟩) 1 vc]).run Try.prog (w.alloc (.cells (madeCells #[.int .i64 0] n) 3)) = .ok (goInt ((List.replicate (min 1 n) (Value.int .i64 v)).length : Nat)) ((w.alloc (.cells (madeCells #[.int .i64 0] n) 3)).setCells w.heap.size 0 (List.replicate (min 1 n) (.int .i64 v))) := fun ty =>
   run_copy_cells _ 22 22 ty 3 w.heap.size 0 n n ⟨b, o, none⟩ 1 vc (List.replicate (min 1 n) (.int .i64 v)) Try.underlying22 hsz (by simp)
     (fun j u hj => by
       rw [List.getElem?_replicate] at hj
       split at hj
       · cases hj
         have : j = 0 := by omega
         subst this
         rw [Addr.add_lit, Nat.add_zero, World.cell?_alloc_past (w := w) _ b o hbw]; exact hv
       · cases hj)
     (fun j hj => by
       rw [Nat.zero_add, hP0.row.cell (by simp at hj; omega)]; rfl)
     (fun j hj => by rw [Nat.zero_add]; exact hP0.row.frozen j) (fun u hu => by rw [(List.mem_replicate.1 hu).2]; rfl)
 have hP1 := hP0.copied (m := min 1 n)
 rw [List.length_replicate] at hcp
 generalize hmm : min 1 n = m at hcp hP1
 generalize hW1 : (w.alloc (.cells (madeCells #[.int .i64 0] n) 3)).setCells w.heap.size 0 (List.replicate m (.int .i64 v)) = W1 at hcp hP1
 have mixed : Try.prog.follows .mixedOrders = true := by kernel_rfl
 go_enter Try.func59, Try.ntmps59
 go_wp2_with (first
 |(go_at_call 76; refine (hmul _).mono ?_; rintro e w' ⟨rfl, rfl⟩)
 |(at_builtin; refine wpList_copy_runI _ rfl _ _ 22 22 rfl _ _ rfl rfl (hcp _) ?_))
 clear hmk hmul hcp hP0 hnew
 rw [Nat.zero_add] at hP1
 have hm0 : n = 0 ∨ 0 < m := by omega
 have hmn : m ≤ n := by omega
 go_loopg [8] (n - m) (fun g i wr => ∃ c : Nat, c ≤ n ∧ (n = 0 ∨ 0 < c) ∧ g = n - c ∧ i = .int .i64 c ∧ PR w' wr n v c)
 case atStart => exact ⟨m, hmn, hm0, rfl, rfl, hP1⟩
 case round =>
   clear hP1
   obtain ⟨c, hc, hc0, rfl, rfl, hC⟩ := hrel
   by_cases hcn : c < n
   · have hcp2 : ∀ (W : World), PR w' W n v c → ∀ ty dc sc, (Builtin.copy_ #[22, 22] ty #[.slice (some ⟨w'.heap.size, c, none⟩) (n - c) dc, .slice (some ⟨w'.heap.size, 0, none⟩) c sc]).run Try.prog W = .ok (goInt ((min c (n - c) : Nat) : Int)) (W.setCells w'.heap.size c (List.replicate (min c (n - c)) (.int .i64 v))) := fun W hW ty dc sc => by
       have := run_copy_cells (P := Try.prog) W 22 22 ty 3 w'.heap.size c (n - c) dc ⟨w'.heap.size, 0, none⟩ c sc (List.replicate (min c (n - c)) (.int .i64 v)) Try.underlying22 hsz (by simp)
         (fun j u hj => by
           rw [List.getElem?_replicate] at hj
           split at hj
           · cases hj
             rw [Addr.add_lit, Nat.zero_add, hW.row.cell (by omega), if_pos (by omega)]
           · cases hj)
         (fun j hj => by rw [hW.row.cell (by simp at hj; omega)]; rfl)
         (fun j hj => hW.row.frozen _) (fun u hu => by rw [(List.mem_replicate.1 hu).2]; rfl)
       rw [List.length_replicate] at this
       exact this
     have hK := hC.drew.copied (m := min c (n - c))
     have hcp3 := hcp2 _ hC.drew
     generalize hW2 : wr.drew.setCells w'.heap.size c (List.replicate (min c (n - c)) (.int .i64 v)) = W2 at hK hcp3
     clear hcp2
     have hne : ¬ n = c := by omega
     generalize hmm2 : min c (n - c) = m2 at hK hcp3
     have hwr : IntKind.i64.wrap ((c : Int) + (m2 : Int)) = ((c + m2 : Nat) : Int) := by rw [IntKind.wrap_i64]; omega
     go_wp2
     go_region_law_o (refine step_copy_runI rfl _ _ 22 22 rfl (.slice (some ⟨w'.heap.size, c, none⟩) (n - c) (n - c)) (.slice (some ⟨w'.heap.size, 0, none⟩) c n) (by simp [Act.eval, Act.put]) (by simp [Act.eval, Act.put]) (hcp3 _ _ _) ?_)
     go_wp2
     go_roundg (n - (c + m2))
     case measure => omega
     case rel => exact ⟨c + m2, by omega, by omega, rfl, by simp, hK⟩
   · have hcc : c = n := by omega
     subst hcc
     go_wp2
     go_ret
     exact ⟨rfl, hC⟩
theorem Try.gives84 (lim x : Int) (B : Nat) (W : World) (hc : W.cell? ⟨B, 0, none⟩ = some (.int .i64 lim)) :
   FnGives Try.prog 84 #[.pointer (some ⟨B, 0, none⟩)] #[.int .i64 x] (.bool (decide (x = lim))) W := by
 show Calls Try.prog 84 #[.int .i64 x, .pointer (some ⟨B, 0, none⟩)] W _
 go_enter Try.func84, Try.ntmps84
 go_wp2
 all_goals (go_ret; exact ⟨by simp_all; rw [Bool.eq_iff_iff]; simp, 0, rfl⟩)
theorem Try.delW (blk off cap : Nat) (zs : List Int) (w : World) (B : Nat) (q : Int) (hne : B ≠ blk) (hB : B < w.heap.size) (hcell : w.cell? ⟨B, 0, none⟩ = some (.int .i64 q)) (hH : Go.Sort.Holds (Value.int .i64) w blk off zs.toArray) (hsz : zs.length ≤ 9223372036854775807) (hcap : zs.length ≤ cap) :
   Calls Try.prog 83 #[.slice (some ⟨blk, off, none⟩) zs.length cap, .func (.func 84) #[] #[.pointer (some ⟨B, 0, none⟩)]] w fun e w' => e = .returned (.slice (some ⟨blk, off, none⟩) (zs.filter fun x => !decide (x = q)).length cap) ∧
       ∃ n, w' = Go.Sort.putRow (Value.int .i64) (Go.Sort.ahead w n) blk off ((zs.filter fun x => !decide (x = q)) ++ List.replicate (zs.length - (zs.filter fun x => !decide (x = q)).length) 0).toArray := by
 have eg : ∀ args w, (callFunc 84 args).run Try.prog w = .ok (.enter 84 args) w := enters_of Try.func84 (by kernel_rfl) rfl
 have h := AnyE.slices_DeleteFunc Try.layDel (Value.int .i64) (fun _ => rfl) (fun x => decide (x = q)) 84 #[.pointer (some ⟨B, 0, none⟩)] eg 0 Try.zeroValue3 blk off cap zs.toArray w
   (fun W x hb => Try.gives84 q x B W ((hb.cell (p := ⟨B, 0, none⟩) hB).trans hcell))
   (fun n os dk x _ => Try.gives84 q x B _ (by
     unfold sortWorld
     rw [cell?_grow _ _ _ (by show B < (putRow _ _ _ _ _).heap.size; rw [size_putRow]; exact hB), cell?_putRow_other _ _ blk off _ _ (Or.inl hne)]
     exact hcell)) hH (by simpa using hsz) (by simpa using hcap)
 change Calls Try.prog 83 _ _ _ at h
 simpa using h
end Go.Proofs
namespace Go.Ab
open Go.Proofs Go.RowKit
theorem W_sortI {xs ys : List Int} (hy : sortI xs = some ys) : ACall Try.prog 73 [.osl 1000 1 0 xs.length] [(1000, .arr 1 (xs.map (V.int .i64)))] (fun r H' => r = .tup [] ∧ H' = [(1000, .arr 1 (ys.map (V.int .i64)))]) :=
 acall_sortI' (by kernel_rfl) (fun blk off cap zs w h1 h2 h3 => Try.slices_Sort_int blk off cap zs w h1 h2 h3) (fun p cap w => Try.slices_Sort_int_none p cap w) hy
theorem W_repI {vs ys : List Int} {n : Int} (hy : repI vs n = some ys) : ACall Try.prog 59 [.sl (vs.map (V.int .i64)), .int .i64 n] [] (fun r H' => r = .osl 1900 1 0 ys.length ∧ H' = [(1900, .arr 1 (ys.map (V.int .i64)))]) := by
 obtain ⟨v, m, rfl, rfl, h, rfl⟩ := repI_inv hy
 rw [List.length_replicate]
 exact acall_repeatI (by kernel_rfl) (fun n b o vc v w hn hv => (Go.Proofs.rep_walk n b o vc v w hn hv).mono fun e w' h => ⟨h.1, h.2.since, h.2.size, h.2.row.congr fun i hi => by rw [if_pos hi]⟩) v m h
theorem W_insI {xs vs ys : List Int} (hy : insI xs vs = some ys) : ACall Try.prog 60 [.osl 1000 1 0 xs.length, .int .i64 0, .osl 1001 1 0 vs.length] [(1000, .arr 1 (xs.map (V.int .i64))), (1001, .arr 1 (vs.map (V.int .i64)) (some tyUV))] (fun r H' => r = .osl 1900 1 0 ys.length ∧ H' = [(1001, .arr 1 (vs.map (V.int .i64)) (some tyUV)), (1900, .arr 1 (ys.map (V.int .i64)))]) := by
 obtain ⟨v, rfl, h1, h2, rfl⟩ := insI_inv hy
 exact acall_insertI (by kernel_rfl) (fun b off n c vb voff vc cs vs w a1 a2 a3 a4 a5 a6 a7 a8 a9 a10 a11 a12 tA tB kA kB s1 s2 s3 s4 s5 => Any2.slices_Insert_int_shift Try.layIns b off n c 0 vb voff 1 vc cs vs w a1 Nat.one_pos a2 a3 a4 a5 a6 a7 a8 a9 a10 a11 a12 tA tB kA kB s1 s2 s3 s4 s5)
   (fun b off n c vb voff vc cs vs w a1 a2 a3 a4 a5 a6 a7 a8 a9 a10 => Any2.slices_Insert_int_grow Try.layIns b off n c 0 vb voff 1 vc cs vs w a1 Nat.one_pos a2 a3 a4 a5 a6 a7 a8 a9 a10) xs v h1 h2
theorem W_delI {xs : List Int} {q : Int} {y : Nat × List Int} (hy : delI xs q = some y) : ACall Try.prog 83 [.osl 1000 1 0 xs.length, .fn (.func 84) [.ptr 1001 0]] [(1000, .arr 1 (xs.map (V.int .i64))), (1001, .cells [.int .i64 q])] (fun r H' => r = .osl 1000 1 0 y.1 ∧ H' = [(1000, .arr 1 (y.2.map (V.int .i64))), (1001, .cells [.int .i64 q])]) := by
 obtain ⟨h, rfl⟩ := delI_inv hy
 exact acall_deleteI (by kernel_rfl) (fun blk off cap zs w B q a1 a2 a3 a4 a5 a6 => Try.delW blk off cap zs w B q a1 a2 a3 a4 a5 a6) xs q h
end Go.Ab
