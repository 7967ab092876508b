/- What the functions of this seat that lie on the laws' road compute (part SL), each for every input. By AI agents. -/
import Derived.Test.YtgjicmoegmbipaaGreatProg
import Derived.KernelRfl
import Derived.Test.YtgjicmoegmbipaaGreatAbSlib
import Derived.Shelf.Small.Bits
import Derived.Shelf.Small.Wraps
import Derived.Shelf.Strconv.Itoa0
import Derived.Shelf.Sort.Plain
import Derived.Shelf.Bits.Mul64
import Derived.Shelf.Slices.Turned
import Derived.Shelf.Slices.Reverse
import Derived.Ground.Names2Prog
import Derived.Shelf.Slices.Clone
import Derived.Shelf.Slices.CompactI
import Derived.Shelf.Slices.SearchI
import Derived.Shelf.Slices.Cells
import Derived.Shelf.Slices.In.SortNone
import Derived.Ground.SlgnProg
import Derived.Shelf.SlicesE.Reverse
import Derived.Shelf.SlicesE.Compact
import Derived.Shelf.SlicesE.Clone
import Derived.Ground.SlgfProg
import Derived.Shelf.SlicesE.IndexFunc
import Derived.Shelf.SlicesE.DeleteFunc
import Derived.Shelf.Spec.SlicesInsertGrow
import Derived.Deep.LoopGhost
set_option linter.all false
set_option linter.all false
namespace Go.Proofs
open Go.Shelf
def Tryz.lays189_ren : Go.Shelf.Ren := ⟨fun | 189 => 82 | 125 => 108 | 257 => 107 | 128 => 128 | 129 => 129 | 294 => 119 | 295 => 120 | 296 => 121 | 297 => 122 | 298 => 123 | 299 => 124 | 216 => 125 | 300 => 126 | 301 => 127 | 328 => 135 | 329 => 136 | 330 => 137 | 331 => 138 | 332 => 139 | 215 => 140 | 343 => 142 | n => n, fun | 28 => 22 | 3 => 3 | 46 => 125 | 0 => 0 | 51 => 146 | 53 => 110 | 4 => 4 | 183 => 139 | 182 => 138 | 131 => 38 | 5 => 5 | 9 => 9 | 218 => 153 | 222 => 157 | 228 => 159 | 229 => 160 | n => n, fun | n => n⟩
theorem Tryz.lays189 : Go.Proofs.Lays.n189 Tryz.prog Tryz.lays189_ren := {
 mixed := by kernel_rfl
 f125 := Tryz.func108.trans (congrArg some (by kernel_rfl))
 f128 := Tryz.func128.trans (congrArg some (by kernel_rfl))
 f129 := Tryz.func129.trans (congrArg some (by kernel_rfl))
 f189 := Tryz.func82.trans (congrArg some (by kernel_rfl))
 f215 := Tryz.func140.trans (congrArg some (by kernel_rfl))
 f216 := Tryz.func125.trans (congrArg some (by kernel_rfl))
 f257 := Tryz.func107.trans (congrArg some (by kernel_rfl))
 f294 := Tryz.func119.trans (congrArg some (by kernel_rfl))
 f295 := Tryz.func120.trans (congrArg some (by kernel_rfl))
 f296 := Tryz.func121.trans (congrArg some (by kernel_rfl))
 f297 := Tryz.func122.trans (congrArg some (by kernel_rfl))
 f298 := Tryz.func123.trans (congrArg some (by kernel_rfl))
 f299 := Tryz.func124.trans (congrArg some (by kernel_rfl))
 f300 := Tryz.func126.trans (congrArg some (by kernel_rfl))
 f301 := Tryz.func127.trans (congrArg some (by kernel_rfl))
 f328 := Tryz.func135.trans (congrArg some (by kernel_rfl))
 f329 := Tryz.func136.trans (congrArg some (by kernel_rfl))
 f330 := Tryz.func137.trans (congrArg some (by kernel_rfl))
 f331 := Tryz.func138.trans (congrArg some (by kernel_rfl))
 f332 := Tryz.func139.trans (congrArg some (by kernel_rfl))
 f343 := Tryz.func142.trans (congrArg some (by kernel_rfl))
 t0 := Tryz.underlying0
 a0 := Tryz.isAgg0
 z0 := Tryz.sizeOf0
 v0 := Tryz.zeroValue0
 t3 := Tryz.underlying3
 a3 := Tryz.isAgg3
 z3 := Tryz.sizeOf3
 v3 := Tryz.zeroValue3
 t4 := Tryz.underlying4
 a4 := Tryz.isAgg4
 z4 := Tryz.sizeOf4
 v4 := Tryz.zeroValue4
 t5 := Tryz.underlying5
 a5 := Tryz.isAgg5
 z5 := Tryz.sizeOf5
 v5 := Tryz.zeroValue5
 t9 := Tryz.underlying9
 a9 := Tryz.isAgg9
 z9 := Tryz.sizeOf9
 v9 := Tryz.zeroValue9
 t28 := Tryz.underlying22
 a28 := Tryz.isAgg22
 z28 := Tryz.sizeOf22
 v28 := Tryz.zeroValue22
 t46 := Tryz.underlying125
 a46 := Tryz.isAgg125
 z46 := Tryz.sizeOf125
 v46 := Tryz.zeroValue125
 t51 := Tryz.underlying146
 a51 := Tryz.isAgg146
 z51 := Tryz.sizeOf146
 v51 := Tryz.zeroValue146
 t53 := Tryz.underlying110
 a53 := Tryz.isAgg110
 z53 := Tryz.sizeOf110
 v53 := Tryz.zeroValue110
 t131 := Tryz.underlying38
 a131 := Tryz.isAgg38
 z131 := Tryz.sizeOf38
 v131 := Tryz.zeroValue38
 t182 := Tryz.underlying138
 a182 := Tryz.isAgg138
 z182 := Tryz.sizeOf138
 v182 := Tryz.zeroValue138
 t183 := Tryz.underlying139
 a183 := Tryz.isAgg139
 z183 := Tryz.sizeOf139
 v183 := Tryz.zeroValue139
 t218 := Tryz.underlying153
 a218 := Tryz.isAgg153
 z218 := Tryz.sizeOf153
 v218 := Tryz.zeroValue153
 t222 := Tryz.underlying157
 a222 := Tryz.isAgg157
 z222 := Tryz.sizeOf157
 v222 := Tryz.zeroValue157
 t228 := Tryz.underlying159
 a228 := Tryz.isAgg159
 z228 := Tryz.sizeOf159
 v228 := Tryz.zeroValue159
 t229 := Tryz.underlying160
 a229 := Tryz.isAgg160
 z229 := Tryz.sizeOf160
 v229 := Tryz.zeroValue160 }
open Go.Sort Go.RowKit in
theorem Tryz.slices_Sort_int (blk off cap : Nat) (zs : List Int) (w : World) (hH : Holds (Value.int .i64) w blk off zs.toArray) (hblk : blk < w.heap.size) (hsz : zs.length < 4611686018427387904) :
  Calls Tryz.prog 82 #[.slice (some ⟨blk, off, none⟩) zs.length cap] w fun e w' =>
   e = .returned (.tuple #[]) ∧ ∃ n os, w' = grow (putRow (Value.int .i64) (Sort.ahead w n) blk off (zs.mergeSort fun x y => decide (x ≤ y)).toArray) os := Any.slices_Sort_int Tryz.lays189 blk off cap zs w hH hblk hsz
def Tryz.lays212_ren : Go.Shelf.Ren := ⟨fun | 212 => 115 | 263 => 132 | 264 => 133 | n => n, fun | 46 => 125 | 51 => 146 | 146 => 149 | 53 => 110 | 148 => 151 | n => n, fun | n => n⟩
theorem Tryz.lays212 : Go.Proofs.Lays.n212 Tryz.prog Tryz.lays212_ren := {
 mixed := by kernel_rfl
 f212 := Tryz.func115.trans (congrArg some (by kernel_rfl))
 f263 := Tryz.func132.trans (congrArg some (by kernel_rfl))
 f264 := Tryz.func133.trans (congrArg some (by kernel_rfl))
 t46 := Tryz.underlying125
 a46 := Tryz.isAgg125
 z46 := Tryz.sizeOf125
 v46 := Tryz.zeroValue125
 t51 := Tryz.underlying146
 a51 := Tryz.isAgg146
 z51 := Tryz.sizeOf146
 v51 := Tryz.zeroValue146
 t53 := Tryz.underlying110
 a53 := Tryz.isAgg110
 z53 := Tryz.sizeOf110
 v53 := Tryz.zeroValue110
 t146 := Tryz.underlying149
 a146 := Tryz.isAgg149
 z146 := Tryz.sizeOf149
 v146 := Tryz.zeroValue149
 t148 := Tryz.underlying151
 a148 := Tryz.isAgg151
 z148 := Tryz.sizeOf151
 v148 := Tryz.zeroValue151 }
open Go.RowKit Go.Lib in
theorem Tryz.bits_Mul (x y : Nat) (hx : x < 18446744073709551616) (hy : y < 18446744073709551616) (w : World) :
  Calls Tryz.prog 115 #[.int .u64 x, .int .u64 y] w fun e w' => e = .returned (.tuple #[.int .u64 ((x * y / 18446744073709551616 : Nat) : Int), .int .u64 ((x * y % 18446744073709551616 : Nat) : Int)]) ∧ w' = w := Any.bits_Mul Tryz.lays212 x y hx hy w
def Tryz.laysNm220_ren : Go.Shelf.Ren := ⟨fun | 20 => 83 | n => n, fun | 22 => 22 | 3 => 3 | 4 => 4 | 0 => 0 | n => n, fun | n => n⟩
theorem Tryz.laysNm220 : Go.Proofs.Lays2.n20 Tryz.prog Tryz.laysNm220_ren := {
 mixed := by kernel_rfl
 f20 := Tryz.func83.trans (congrArg some (by kernel_rfl))
 t0 := Tryz.underlying0
 a0 := Tryz.isAgg0
 z0 := Tryz.sizeOf0
 v0 := Tryz.zeroValue0
 t3 := Tryz.underlying3
 a3 := Tryz.isAgg3
 z3 := Tryz.sizeOf3
 v3 := Tryz.zeroValue3
 t4 := Tryz.underlying4
 a4 := Tryz.isAgg4
 z4 := Tryz.sizeOf4
 v4 := Tryz.zeroValue4
 t22 := Tryz.underlying22
 a22 := Tryz.isAgg22
 z22 := Tryz.sizeOf22
 v22 := Tryz.zeroValue22
 i3 := by kernel_rfl }
open Go.RowKit Go.Lib Go.Sort in
theorem Tryz.slices_Compact_int_empty (a : Option Addr) (cap : Nat) (w : World) :
  Calls Tryz.prog 83 #[.slice a 0 cap] w fun e w' => e = .returned (.slice a 0 cap) ∧ w' = w := Any.slices_Compact_int_empty Tryz.laysNm220 a cap w
open Go.RowKit Go.Lib Go.Sort in
theorem Tryz.slices_Compact_int_cells (b off n c : Nat) (zs : List Int) (w : World) (hz : n ≤ zs.length) (hbig : n ≤ 9223372036854775807) (hcap : n ≤ c) (hc : ∀ j, j < zs.length → w.cell? ⟨b, off + j, none⟩ = some (.int .i64 (zs.getD j 0))) (hf : ∀ j, j < n → w.frozen? ⟨b, off + j, none⟩ = false) :
  Calls Tryz.prog 83 #[.slice (some ⟨b, off, none⟩) n c] w fun e w' => e = .returned (.slice (some ⟨b, off, none⟩) (Lib.compact (zs.take n)).length c) ∧ ∃ q, w' = (w.drewN q).setCells b off ((Lib.compact (zs.take n) ++ List.replicate (n - (Lib.compact (zs.take n)).length) 0).map (Value.int .i64)) := Any.slices_Compact_int_cells Tryz.laysNm220 b off n c zs w hz hbig hcap hc hf
open Go.RowKit Go.Sort in
theorem Tryz.slices_Sort_int_none (p : Option Addr) (cap : Nat) (w : World) :
  Calls Tryz.prog 82 #[.slice p 0 cap] w fun e w' => e = .returned (.tuple #[]) ∧ w' = w := Any.slices_Sort_int_none Tryz.lays189 p cap w
def Tryz.layIns_ren : Go.Shelf.Ren := ⟨fun | 21 => 97 | 27 => 116 | 28 => 117 | 35 => 134 | 39 => 141 | n => n, fun | 22 => 22 | 3 => 3 | 4 => 4 | 0 => 0 | n => n, fun | n => n⟩
theorem Tryz.layIns : Go.Proofs.Lays2.n21 Tryz.prog Tryz.layIns_ren := {
 mixed := by kernel_rfl
 f21 := Tryz.func97.trans (congrArg some (by kernel_rfl))
 f27 := Tryz.func116.trans (congrArg some (by kernel_rfl))
 f28 := Tryz.func117.trans (congrArg some (by kernel_rfl))
 f35 := Tryz.func134.trans (congrArg some (by kernel_rfl))
 f39 := Tryz.func141.trans (congrArg some (by kernel_rfl))
 t0 := Tryz.underlying0
 a0 := Tryz.isAgg0
 z0 := Tryz.sizeOf0
 v0 := Tryz.zeroValue0
 t3 := Tryz.underlying3
 a3 := Tryz.isAgg3
 z3 := Tryz.sizeOf3
 v3 := Tryz.zeroValue3
 t4 := Tryz.underlying4
 a4 := Tryz.isAgg4
 z4 := Tryz.sizeOf4
 v4 := Tryz.zeroValue4
 t22 := Tryz.underlying22
 a22 := Tryz.isAgg22
 z22 := Tryz.sizeOf22
 v22 := Tryz.zeroValue22
 i3 := by kernel_rfl }
def Tryz.layDel_ren : Go.Shelf.Ren := ⟨fun | 10 => 130 | 6 => 118 | n => n, fun | 22 => 22 | 23 => 3 | 25 => 83 | 3 => 3 | 4 => 4 | 0 => 0 | n => n, fun | n => n⟩
theorem Tryz.layDel : Go.Proofs.SlLaysH.n10 Tryz.prog Tryz.layDel_ren := {
 mixed := by kernel_rfl
 f6 := ⟨Tryz.f118.name, by decide, Tryz.func118.trans (congrArg some (by kernel_rfl))⟩
 f10 := ⟨Tryz.f130.name, by decide, Tryz.func130.trans (congrArg some (by kernel_rfl))⟩
 t0 := Tryz.underlying0
 a0 := Tryz.isAgg0
 z0 := Tryz.sizeOf0
 v0 := Tryz.zeroValue0
 t3 := Tryz.underlying3
 a3 := Tryz.isAgg3
 z3 := Tryz.sizeOf3
 v3 := Tryz.zeroValue3
 t4 := Tryz.underlying4
 a4 := Tryz.isAgg4
 z4 := Tryz.sizeOf4
 v4 := Tryz.zeroValue4
 t22 := Tryz.underlying22
 a22 := Tryz.isAgg22
 z22 := Tryz.sizeOf22
 v22 := Tryz.zeroValue22
 a23 := Tryz.isAgg3
 z23 := Tryz.sizeOf3
 t25 := Tryz.underlying83
 a25 := Tryz.isAgg83
 z25 := Tryz.sizeOf83
 v25 := Tryz.zeroValue83 }
end Go.Proofs
namespace Go.Proofs
open Go.Deep Go.Ab Go.RowKit Go.Lib Go.Sort
theorem Tryz.iINT : (Tryz.prog.info? 3).map (fun i => (i.zero, i.size, i.bytes)) = some (some (.int .i64 0),1,8) := by kernel_rfl
theorem rowIs_setCells {b t n : Nat} : ∀ (vs : List Value) (o : Nat) (w : World) (f : Nat → Value), w.rowIs b t n f → (w.setCells b o vs).rowIs b t n (fun i => if o ≤ i ∧ i < o + vs.length then vs.getD (i - o) undef else f i)
 | [], o, w, f, h => h.congr fun i _ => by rw [if_neg (by simp)]
 | v :: vs, o, w, f, h => by
  refine (rowIs_setCells vs (o + 1) _ _ (h.set o v)).congr fun i _ => ?_
  simp only [List.length_cons]
  by_cases e : i = o
  ·subst e; rw [if_neg (by omega), if_pos rfl, if_pos (by omega)]; simp
  ·by_cases c : o + 1 ≤ i ∧ i < o + 1 + vs.length
   ·rw [if_pos c, if_pos (by omega), show i - o = (i - (o + 1)) + 1 by omega]; simp
   ·rw [if_neg c]; simp only [if_neg e]; rw [if_neg (by omega)]
structure PR (w wr : World) (n : Nat) (v : Int) (c : Nat) : Prop where
 since : w.Since w.heap.size wr
 size : wr.heap.size = w.heap.size + 1
 row : wr.rowIs w.heap.size 3 n (fun i => .int .i64 (if i < c then v else 0))
theorem PR.drew {w wr : World} {n : Nat} {v : Int} {c : Nat} (h : PR w wr n v c) : PR w wr.drew n v c := ⟨h.since.drew, h.size, h.row.drew⟩
theorem since_setCells {w wr : World} {b : Nat} : ∀ (vs : List Value) (o : Nat) (wr : World), w.Since w.heap.size wr → w.heap.size ≤ b → w.Since w.heap.size (wr.setCells b o vs) ∧ (wr.setCells b o vs).heap.size = wr.heap.size
 | [], o, wr, h, hb => ⟨h, rfl⟩
 | v :: vs, o, wr, h, hb => by
  have := since_setCells (wr := wr) vs (o + 1) _ (h.setCell (a := ⟨b, o, none⟩) hb v) hb
  exact ⟨this.1, this.2.trans (by simp)⟩
theorem PR.copied {w wr : World} {n : Nat} {v : Int} {c m : Nat} (h : PR w wr n v c) : PR w (wr.setCells w.heap.size c (List.replicate m (.int .i64 v))) n v (c + m) := by
 obtain ⟨h1, h2⟩ := since_setCells (w := w) (wr := wr) (b := w.heap.size) (List.replicate m (.int .i64 v)) c wr h.since (Nat.le_refl _)
 refine ⟨h1, h2.trans h.size, (rowIs_setCells _ c _ _ h.row).congr fun i _ => ?_⟩
 simp only [List.length_replicate]
 by_cases e : c ≤ i ∧ i < c + m
 ·rw [if_pos e, if_pos e.2, List.getD_eq_getElem?_getD, List.getElem?_replicate, if_pos (by omega)]; rfl
 ·rw [if_neg e]
  by_cases e2 : i < c
  ·rw [if_pos e2, if_pos (by omega)]
  ·rw [if_neg e2, if_neg (by omega)]
set_option maxHeartbeats 3200000 in
set_option maxRecDepth 1000000 in
theorem rep_walk (n b o vc : Nat) (v : Int) (w : World) (hn : 8 * n ≤ 140737488355328) (hv : w.cell? ⟨b, o, none⟩ = some (.int .i64 v)) :
  Calls Tryz.prog 96 #[.slice (some ⟨b, o, none⟩) 1 vc, .int .i64 n] w fun e w' => e = .returned (.slice (some ⟨w.heap.size, 0, none⟩) n n) ∧ PR w w' n v n := by
 have hmk := run_make_row' (P := Tryz.prog) 22 3 (.int .i64 0) 8 Tryz.underlying22 Tryz.iINT rfl .i64 .i64 n (by omega) (by omega)
 have hwn : IntKind.u64.wrap (n : Int) = n := by rw [IntKind.wrap_u64]; omega
 have hwi : IntKind.i64.wrap (n : Int) = n := by rw [IntKind.wrap_i64]; omega
 have hmul : ∀ w : World, Calls Tryz.prog 115 #[.int .u64 1, .int .u64 n] w fun e w' => e = .returned (.tuple #[.int .u64 0, .int .u64 n]) ∧ w' = w := fun w => by
  have h := Tryz.bits_Mul 1 n (by omega) (by omega) w
  rw [Nat.one_mul, Nat.div_eq_of_lt (by omega), Nat.mod_eq_of_lt (by omega)] at h
  exact h
 have hsz : (Tryz.prog.info? 3).map (·.size) = some 1 := by kernel_rfl
 have hbw : b < w.heap.size := World.block_lt_of_cell? _ _ hv
 have hnew := World.rowIs_made w (.int .i64 0) n 3
 have hP0 : PR w (w.alloc (.cells (madeCells #[.int .i64 0] n) 3)) n v 0 := ⟨(World.Since.refl _ _).alloc (Nat.le_refl _) _, by simp, hnew.congr fun i _ => by simp⟩
 have hcp : ∀ ty, (Builtin.copy_ #[22,22] ty #[.slice (some ⟨w.heap.size, 0, none⟩) n n, .slice (some ⟨b, o, none⟩) 1 vc]).run Tryz.prog (w.alloc (.cells (madeCells #[.int .i64 0] n) 3)) = .ok (goInt ((List.replicate (min 1 n) (Value.int .i64 v)).length : Nat)) ((w.alloc (.cells (madeCells #[.int .i64 0] n) 3)).setCells w.heap.size 0 (List.replicate (min 1 n) (.int .i64 v))) := fun ty =>
  run_copy_cells _ 22 22 ty 3 w.heap.size 0 n n ⟨b, o, none⟩ 1 vc (List.replicate (min 1 n) (.int .i64 v)) Tryz.underlying22 hsz (by simp)
   (fun j u hj => by
    rw [List.getElem?_replicate] at hj
    split at hj
    ·cases hj
     have : j = 0 := by omega
     subst this
     rw [Addr.add_lit, Nat.add_zero, World.cell?_alloc_past (w := w) _ b o hbw]; exact hv
    ·cases hj)
   (fun j hj => by
    rw [Nat.zero_add, hP0.row.cell (by simp at hj; omega)]; rfl)
   (fun j hj => by rw [Nat.zero_add]; exact hP0.row.frozen j) (fun u hu => by rw [(List.mem_replicate.1 hu).2]; rfl)
 have hP1 := hP0.copied (m := min 1 n)
 rw [List.length_replicate] at hcp
 generalize hmm : min 1 n = m at hcp hP1
 generalize hW1 : (w.alloc (.cells (madeCells #[.int .i64 0] n) 3)).setCells w.heap.size 0 (List.replicate m (.int .i64 v)) = W1 at hcp hP1
 have mixed : Tryz.prog.follows .mixedOrders = true := by kernel_rfl
 go_enter Tryz.func96, Tryz.ntmps96
 go_wp2_with (first
 |(go_at_call 115; refine (hmul _).mono ?_; rintro e w' ⟨rfl, rfl⟩)
 |(at_builtin; refine wpList_copy_runI _ rfl _ _ 22 22 rfl _ _ rfl rfl (hcp _) ?_))
 clear hmk hmul hcp hP0 hnew
 rw [Nat.zero_add] at hP1
 have hm0 : n = 0 ∨ 0 < m := by omega
 have hmn : m ≤ n := by omega
 go_loopg [8] (n - m) (fun g i wr => ∃ c : Nat, c ≤ n ∧ (n = 0 ∨ 0 < c) ∧ g = n - c ∧ i = .int .i64 c ∧ PR w' wr n v c)
 case atStart => exact ⟨m, hmn, hm0, rfl, rfl, hP1⟩
 case round =>
  clear hP1
  obtain ⟨c, hc, hc0, rfl, rfl, hC⟩ := hrel
  by_cases hcn : c < n
  ·have hcp2 : ∀ (W : World), PR w' W n v c → ∀ ty dc sc, (Builtin.copy_ #[22,22] ty #[.slice (some ⟨w'.heap.size, c, none⟩) (n - c) dc, .slice (some ⟨w'.heap.size, 0, none⟩) c sc]).run Tryz.prog W = .ok (goInt ((min c (n - c) : Nat) : Int)) (W.setCells w'.heap.size c (List.replicate (min c (n - c)) (.int .i64 v))) := fun W hW ty dc sc => by
    have := run_copy_cells (P := Tryz.prog) W 22 22 ty 3 w'.heap.size c (n - c) dc ⟨w'.heap.size, 0, none⟩ c sc (List.replicate (min c (n - c)) (.int .i64 v)) Tryz.underlying22 hsz (by simp)
     (fun j u hj => by
      rw [List.getElem?_replicate] at hj
      split at hj
      ·cases hj
       rw [Addr.add_lit, Nat.zero_add, hW.row.cell (by omega), if_pos (by omega)]
      ·cases hj)
     (fun j hj => by rw [hW.row.cell (by simp at hj; omega)]; rfl)
     (fun j hj => hW.row.frozen _) (fun u hu => by rw [(List.mem_replicate.1 hu).2]; rfl)
    rw [List.length_replicate] at this
    exact this
   have hK := hC.drew.copied (m := min c (n - c))
   have hcp3 := hcp2 _ hC.drew
   generalize hW2 : wr.drew.setCells w'.heap.size c (List.replicate (min c (n - c)) (.int .i64 v)) = W2 at hK hcp3
   clear hcp2
   have hne : ¬ n = c := by omega
   generalize hmm2 : min c (n - c) = m2 at hK hcp3
   have hwr : IntKind.i64.wrap ((c : Int) + (m2 : Int)) = ((c + m2 : Nat) : Int) := by rw [IntKind.wrap_i64]; omega
   go_wp2
   go_region_law_o (refine step_copy_runI rfl _ _ 22 22 rfl (.slice (some ⟨w'.heap.size, c, none⟩) (n - c) (n - c)) (.slice (some ⟨w'.heap.size, 0, none⟩) c n) (by simp [Act.eval, Act.put]) (by simp [Act.eval, Act.put]) (hcp3 _ _ _) ?_)
   go_wp2
   go_roundg (n - (c + m2))
   case measure => omega
   case rel => exact ⟨c + m2, by omega, by omega, rfl, by simp, hK⟩
  ·have hcc : c = n := by omega
   subst hcc
   go_wp2
   go_ret
   exact ⟨rfl, hC⟩
theorem Tryz.gives131 (lim x : Int) (B : Nat) (W : World) (hc : W.cell? ⟨B, 0, none⟩ = some (.int .i64 lim)) :
  FnGives Tryz.prog 131 #[.pointer (some ⟨B, 0, none⟩)] #[.int .i64 x] (.bool (decide (x = lim))) W := by
 show Calls Tryz.prog 131 #[.int .i64 x, .pointer (some ⟨B, 0, none⟩)] W _
 go_enter Tryz.func131, Tryz.ntmps131
 go_wp2
 all_goals (go_ret; exact ⟨by simp_all; rw [Bool.eq_iff_iff]; simp, 0, rfl⟩)
theorem Tryz.delW (blk off cap : Nat) (zs : List Int) (w : World) (B : Nat) (q : Int) (hne : B ≠ blk) (hB : B < w.heap.size) (hcell : w.cell? ⟨B, 0, none⟩ = some (.int .i64 q)) (hH : Go.Sort.Holds (Value.int .i64) w blk off zs.toArray) (hsz : zs.length ≤ 9223372036854775807) (hcap : zs.length ≤ cap) :
  Calls Tryz.prog 130 #[.slice (some ⟨blk, off, none⟩) zs.length cap, .func (.func 131) #[] #[.pointer (some ⟨B, 0, none⟩)]] w fun e w' => e = .returned (.slice (some ⟨blk, off, none⟩) (zs.filter fun x => !decide (x = q)).length cap) ∧
    ∃ n, w' = Go.Sort.putRow (Value.int .i64) (Go.Sort.ahead w n) blk off ((zs.filter fun x => !decide (x = q)) ++ List.replicate (zs.length - (zs.filter fun x => !decide (x = q)).length) 0).toArray := by
 have eg : ∀ args w, (callFunc 131 args).run Tryz.prog w = .ok (.enter 131 args) w := enters_of Tryz.func131 (by kernel_rfl) rfl
 have h := AnyE.slices_DeleteFunc Tryz.layDel (Value.int .i64) (fun _ => rfl) (fun x => decide (x = q)) 131 #[.pointer (some ⟨B, 0, none⟩)] eg 0 Tryz.zeroValue3 blk off cap zs.toArray w
  (fun W x hb => Tryz.gives131 q x B W ((hb.cell (p := ⟨B, 0, none⟩) hB).trans hcell))
  (fun n os dk x _ => Tryz.gives131 q x B _ (by
   unfold sortWorld
   rw [cell?_grow _ _ _ (by show B < (putRow _ _ _ _ _).heap.size; rw [size_putRow]; exact hB), cell?_putRow_other _ _ blk off _ _ (Or.inl hne)]
   exact hcell)) hH (by simpa using hsz) (by simpa using hcap)
 change Calls Tryz.prog 130 _ _ _ at h
 simpa using h
end Go.Proofs
namespace Go.Ab
open Go.Proofs Go.RowKit
theorem W_7p {xs ys : List Int} (hy : sortI xs = some ys) : ACall Tryz.prog 82 [.osl 1000 1 0 xs.length] [(1000, .arr 1 (xs.map (V.int .i64)))] (fun r H' => r = .tup [] ∧ H' = [(1000, .arr 1 (ys.map (V.int .i64)))]) :=
 acall_sortI' (by kernel_rfl) (fun blk off cap zs w h1 h2 h3 => Tryz.slices_Sort_int blk off cap zs w h1 h2 h3) (fun p cap w => Tryz.slices_Sort_int_none p cap w) hy
theorem W_7q {xs : List Int} {y : Nat × List Int} (hy : compactI xs = some y) : ACall Tryz.prog 83 [.osl 1000 1 0 xs.length] [(1000, .arr 1 (xs.map (V.int .i64)))] (fun r H' => r = .osl 1000 1 0 y.1 ∧ H' = [(1000, .arr 1 (y.2.map (V.int .i64)))]) :=
 acall_compactI' (by kernel_rfl) (fun b off n c zs w h1 h2 h3 h4 h5 => Tryz.slices_Compact_int_cells b off n c zs w h1 h2 h3 h4 h5) (fun p cap w => Tryz.slices_Compact_int_empty p cap w) hy
theorem W_7s {vs ys : List Int} {n : Int} (hy : repI vs n = some ys) : ACall Tryz.prog 96 [.sl (vs.map (V.int .i64)), .int .i64 n] [] (fun r H' => r = .osl 1900 1 0 ys.length ∧ H' = [(1900, .arr 1 (ys.map (V.int .i64)))]) := by
 obtain ⟨v, m, rfl, rfl, h, rfl⟩ := repI_inv hy
 rw [List.length_replicate]
 exact acall_repeatI (by kernel_rfl) (fun n b o vc v w hn hv => (Go.Proofs.rep_walk n b o vc v w hn hv).mono fun e w' h => ⟨h.1, h.2.since, h.2.size, h.2.row.congr fun i hi => by rw [if_pos hi]⟩) v m h
theorem W_7r {xs vs ys : List Int} (hy : insI xs vs = some ys) : ACall Tryz.prog 97 [.osl 1000 1 0 xs.length, .int .i64 0, .osl 1001 1 0 vs.length] [(1000, .arr 1 (xs.map (V.int .i64))), (1001, .arr 1 (vs.map (V.int .i64)) (some tyUV))] (fun r H' => r = .osl 1900 1 0 ys.length ∧ H' = [(1001, .arr 1 (vs.map (V.int .i64)) (some tyUV)), (1900, .arr 1 (ys.map (V.int .i64)))]) := by
 obtain ⟨v, rfl, h1, h2, rfl⟩ := insI_inv hy
 exact acall_insertI (by kernel_rfl) (fun b off n c vb voff vc cs vs w a1 a2 a3 a4 a5 a6 a7 a8 a9 a10 a11 a12 tA tB kA kB s1 s2 s3 s4 s5 => Any2.slices_Insert_int_shift Tryz.layIns b off n c 0 vb voff 1 vc cs vs w a1 Nat.one_pos a2 a3 a4 a5 a6 a7 a8 a9 a10 a11 a12 tA tB kA kB s1 s2 s3 s4 s5)
  (fun b off n c vb voff vc cs vs w a1 a2 a3 a4 a5 a6 a7 a8 a9 a10 => Any2.slices_Insert_int_grow Tryz.layIns b off n c 0 vb voff 1 vc cs vs w a1 Nat.one_pos a2 a3 a4 a5 a6 a7 a8 a9 a10) xs v h1 h2
theorem W_7t {xs : List Int} {q : Int} {y : Nat × List Int} (hy : delI xs q = some y) : ACall Tryz.prog 130 [.osl 1000 1 0 xs.length, .fn (.func 131) [.ptr 1001 0]] [(1000, .arr 1 (xs.map (V.int .i64))), (1001, .cells [.int .i64 q])] (fun r H' => r = .osl 1000 1 0 y.1 ∧ H' = [(1000, .arr 1 (y.2.map (V.int .i64))), (1001, .cells [.int .i64 q])]) := by
 obtain ⟨h, rfl⟩ := delI_inv hy
 exact acall_deleteI (by kernel_rfl) (fun blk off cap zs w B q a1 a2 a3 a4 a5 a6 => Tryz.delW blk off cap zs w B q a1 a2 a3 a4 a5 a6) xs q h
end Go.Ab
