/- What the functions of this seat that lie on the laws' road compute (part SHr27), each for every input. By AI agents. -/
import Derived.Test.YteegjccaabkhgaaProg
import Derived.KernelRfl
import Derived.Test.YteegjccaabkhgaaAbSort
import Derived.Shelf.Small.Bits
import Derived.Shelf.Small.Wraps
import Derived.Shelf.Strconv.Itoa0
import Derived.Shelf.Sort.Plain
import Derived.Ground.Names2Prog
import Derived.Shelf.Slices.CompactI
import Derived.Shelf.Slices.SearchI
import Derived.Shelf.Slices.Cells
import Derived.Shelf.Slices.In.SortNone
set_option linter.all false
namespace Go.Proofs
open Go.Shelf
def Try.lays189_ren : Go.Shelf.Ren := ⟨fun | 189 => 31 | 125 => 42 | 257 => 41 | 128 => 56 | 129 => 57 | 294 => 47 | 295 => 48 | 296 => 49 | 297 => 50 | 298 => 51 | 299 => 52 | 216 => 53 | 300 => 54 | 301 => 55 | 328 => 58 | 329 => 59 | 330 => 60 | 331 => 61 | 332 => 62 | 215 => 63 | 343 => 64 | n => n, fun | 28 => 22 | 3 => 3 | 46 => 74 | 0 => 0 | 51 => 86 | 53 => 88 | 4 => 4 | 183 => 79 | 182 => 78 | 131 => 39 | 5 => 5 | 9 => 9 | 218 => 89 | 222 => 93 | 228 => 95 | 229 => 96 | n => n, fun | n => n⟩
theorem Try.lays189 : Go.Proofs.Lays.n189 Try.prog Try.lays189_ren := {
  mixed := by kernel_rfl
  f125 := Try.func42.trans (congrArg some (by kernel_rfl))
  f128 := Try.func56.trans (congrArg some (by kernel_rfl))
  f129 := Try.func57.trans (congrArg some (by kernel_rfl))
  f189 := Try.func31.trans (congrArg some (by kernel_rfl))
  f215 := Try.func63.trans (congrArg some (by kernel_rfl))
  f216 := Try.func53.trans (congrArg some (by kernel_rfl))
  f257 := Try.func41.trans (congrArg some (by kernel_rfl))
  f294 := Try.func47.trans (congrArg some (by kernel_rfl))
  f295 := Try.func48.trans (congrArg some (by kernel_rfl))
  f296 := Try.func49.trans (congrArg some (by kernel_rfl))
  f297 := Try.func50.trans (congrArg some (by kernel_rfl))
  f298 := Try.func51.trans (congrArg some (by kernel_rfl))
  f299 := Try.func52.trans (congrArg some (by kernel_rfl))
  f300 := Try.func54.trans (congrArg some (by kernel_rfl))
  f301 := Try.func55.trans (congrArg some (by kernel_rfl))
  f328 := Try.func58.trans (congrArg some (by kernel_rfl))
  f329 := Try.func59.trans (congrArg some (by kernel_rfl))
  f330 := Try.func60.trans (congrArg some (by kernel_rfl))
  f331 := Try.func61.trans (congrArg some (by kernel_rfl))
  f332 := Try.func62.trans (congrArg some (by kernel_rfl))
  f343 := Try.func64.trans (congrArg some (by kernel_rfl))
  t0 := Try.underlying0
  a0 := Try.isAgg0
  z0 := Try.sizeOf0
  v0 := Try.zeroValue0
  t3 := Try.underlying3
  a3 := Try.isAgg3
  z3 := Try.sizeOf3
  v3 := Try.zeroValue3
  t4 := Try.underlying4
  a4 := Try.isAgg4
  z4 := Try.sizeOf4
  v4 := Try.zeroValue4
  t5 := Try.underlying5
  a5 := Try.isAgg5
  z5 := Try.sizeOf5
  v5 := Try.zeroValue5
  t9 := Try.underlying9
  a9 := Try.isAgg9
  z9 := Try.sizeOf9
  v9 := Try.zeroValue9
  t28 := Try.underlying22
  a28 := Try.isAgg22
  z28 := Try.sizeOf22
  v28 := Try.zeroValue22
  t46 := Try.underlying74
  a46 := Try.isAgg74
  z46 := Try.sizeOf74
  v46 := Try.zeroValue74
  t51 := Try.underlying86
  a51 := Try.isAgg86
  z51 := Try.sizeOf86
  v51 := Try.zeroValue86
  t53 := Try.underlying88
  a53 := Try.isAgg88
  z53 := Try.sizeOf88
  v53 := Try.zeroValue88
  t131 := Try.underlying39
  a131 := Try.isAgg39
  z131 := Try.sizeOf39
  v131 := Try.zeroValue39
  t182 := Try.underlying78
  a182 := Try.isAgg78
  z182 := Try.sizeOf78
  v182 := Try.zeroValue78
  t183 := Try.underlying79
  a183 := Try.isAgg79
  z183 := Try.sizeOf79
  v183 := Try.zeroValue79
  t218 := Try.underlying89
  a218 := Try.isAgg89
  z218 := Try.sizeOf89
  v218 := Try.zeroValue89
  t222 := Try.underlying93
  a222 := Try.isAgg93
  z222 := Try.sizeOf93
  v222 := Try.zeroValue93
  t228 := Try.underlying95
  a228 := Try.isAgg95
  z228 := Try.sizeOf95
  v228 := Try.zeroValue95
  t229 := Try.underlying96
  a229 := Try.isAgg96
  z229 := Try.sizeOf96
  v229 := Try.zeroValue96 }
open Go.Sort Go.RowKit in
theorem Try.slices_Sort_int (blk off cap : Nat) (zs : List Int) (w : World) (hH : Holds (Value.int .i64) w blk off zs.toArray) (hblk : blk < w.heap.size) (hsz : zs.length < 4611686018427387904) :
    Calls Try.prog 31 #[.slice (some ⟨blk, off, none⟩) zs.length cap] w fun e w' =>
      e = .returned (.tuple #[]) ∧ ∃ n os, w' = grow (putRow (Value.int .i64) (Sort.ahead w n) blk off (zs.mergeSort fun x y => decide (x ≤ y)).toArray) os := Any.slices_Sort_int Try.lays189 blk off cap zs w hH hblk hsz
def Try.laysNm220_ren : Go.Shelf.Ren := ⟨fun | 20 => 35 | n => n, fun | 22 => 22 | 3 => 3 | 4 => 4 | 0 => 0 | n => n, fun | n => n⟩
theorem Try.laysNm220 : Go.Proofs.Lays2.n20 Try.prog Try.laysNm220_ren := {
  mixed := by kernel_rfl
  f20 := Try.func35.trans (congrArg some (by kernel_rfl))
  t0 := Try.underlying0
  a0 := Try.isAgg0
  z0 := Try.sizeOf0
  v0 := Try.zeroValue0
  t3 := Try.underlying3
  a3 := Try.isAgg3
  z3 := Try.sizeOf3
  v3 := Try.zeroValue3
  t4 := Try.underlying4
  a4 := Try.isAgg4
  z4 := Try.sizeOf4
  v4 := Try.zeroValue4
  t22 := Try.underlying22
  a22 := Try.isAgg22
  z22 := Try.sizeOf22
  v22 := Try.zeroValue22
  i3 := by kernel_rfl }
open Go.RowKit Go.Lib Go.Sort in
theorem Try.slices_Compact_int_empty (a : Option Addr) (cap : Nat) (w : World) :
    Calls Try.prog 35 #[.slice a 0 cap] w fun e w' => e = .returned (.slice a 0 cap) ∧ w' = w := Any.slices_Compact_int_empty Try.laysNm220 a cap w
open Go.RowKit Go.Lib Go.Sort in
theorem Try.slices_Compact_int_cells (b off n c : Nat) (zs : List Int) (w : World) (hz : n ≤ zs.length) (hbig : n ≤ 9223372036854775807) (hcap : n ≤ c) (hc : ∀ j, j < zs.length → w.cell? ⟨b, off + j, none⟩ = some (.int .i64 (zs.getD j 0))) (hf : ∀ j, j < n → w.frozen? ⟨b, off + j, none⟩ = false) :
    Calls Try.prog 35 #[.slice (some ⟨b, off, none⟩) n c] w fun e w' => e = .returned (.slice (some ⟨b, off, none⟩) (Lib.compact (zs.take n)).length c) ∧ ∃ q, w' = (w.drewN q).setCells b off ((Lib.compact (zs.take n) ++ List.replicate (n - (Lib.compact (zs.take n)).length) 0).map (Value.int .i64)) := Any.slices_Compact_int_cells Try.laysNm220 b off n c zs w hz hbig hcap hc hf
open Go.RowKit Go.Sort in
theorem Try.slices_Sort_int_none (p : Option Addr) (cap : Nat) (w : World) :
    Calls Try.prog 31 #[.slice p 0 cap] w fun e w' => e = .returned (.tuple #[]) ∧ w' = w := Any.slices_Sort_int_none Try.lays189 p cap w
end Go.Proofs
namespace Go.Ab
open Go.Proofs
theorem W_sortI {xs ys : List Int} (hy : sortI xs = some ys) : ACall Try.prog 31 [.osl 1000 1 0 xs.length] [(1000, .arr 1 (xs.map (V.int .i64)))] (fun r H' => r = .tup [] ∧ H' = [(1000, .arr 1 (ys.map (V.int .i64)))]) :=
  acall_sortI' (by kernel_rfl) (fun blk off cap zs w h1 h2 h3 => Try.slices_Sort_int blk off cap zs w h1 h2 h3) (fun p cap w => Try.slices_Sort_int_none p cap w) hy
theorem W_compactI {xs : List Int} {y : Nat × List Int} (hy : compactI xs = some y) : ACall Try.prog 35 [.osl 1000 1 0 xs.length] [(1000, .arr 1 (xs.map (V.int .i64)))] (fun r H' => r = .osl 1000 1 0 y.1 ∧ H' = [(1000, .arr 1 (y.2.map (V.int .i64)))]) :=
  acall_compactI' (by kernel_rfl) (fun b off n c zs w h1 h2 h3 h4 h5 => Try.slices_Compact_int_cells b off n c zs w h1 h2 h3 h4 h5) (fun p cap w => Try.slices_Compact_int_empty p cap w) hy
end Go.Ab
