/- What the functions of this seat that lie on the laws' road compute (part SHr31), each for every input. By AI agents. -/
import Derived.Test.YtopbblhkapgdkaaDoorProg
import Derived.KernelRfl
import Derived.Test.YtopbblhkapgdkaaDoorAbSort
import Derived.Shelf.Small.Bits
import Derived.Shelf.Small.Wraps
import Derived.Shelf.Strconv.Itoa0
import Derived.Shelf.Sort.Plain
import Derived.Ground.Names2Prog
import Derived.Shelf.Slices.SearchI
import Derived.Shelf.Slices.In.SortNone
set_option linter.all false
namespace Go.Proofs
open Go.Shelf
def Tryd.lays189_ren : Go.Shelf.Ren := ⟨fun | 189 => 53 | 125 => 62 | 257 => 61 | 128 => 72 | 129 => 73 | 294 => 63 | 295 => 64 | 296 => 65 | 297 => 66 | 298 => 67 | 299 => 68 | 216 => 69 | 300 => 70 | 301 => 71 | 328 => 74 | 329 => 75 | 330 => 76 | 331 => 77 | 332 => 78 | 215 => 79 | 343 => 80 | n => n, fun | 28 => 22 | 3 => 3 | 46 => 100 | 0 => 0 | 51 => 109 | 53 => 111 | 4 => 4 | 183 => 103 | 182 => 102 | 131 => 56 | 5 => 5 | 9 => 9 | 218 => 112 | 222 => 116 | 228 => 118 | 229 => 119 | n => n, fun | n => n⟩
theorem Tryd.lays189 : Go.Proofs.Lays.n189 Tryd.prog Tryd.lays189_ren := {
  mixed := by kernel_rfl
  f125 := Tryd.func62.trans (congrArg some (by kernel_rfl))
  f128 := Tryd.func72.trans (congrArg some (by kernel_rfl))
  f129 := Tryd.func73.trans (congrArg some (by kernel_rfl))
  f189 := Tryd.func53.trans (congrArg some (by kernel_rfl))
  f215 := Tryd.func79.trans (congrArg some (by kernel_rfl))
  f216 := Tryd.func69.trans (congrArg some (by kernel_rfl))
  f257 := Tryd.func61.trans (congrArg some (by kernel_rfl))
  f294 := Tryd.func63.trans (congrArg some (by kernel_rfl))
  f295 := Tryd.func64.trans (congrArg some (by kernel_rfl))
  f296 := Tryd.func65.trans (congrArg some (by kernel_rfl))
  f297 := Tryd.func66.trans (congrArg some (by kernel_rfl))
  f298 := Tryd.func67.trans (congrArg some (by kernel_rfl))
  f299 := Tryd.func68.trans (congrArg some (by kernel_rfl))
  f300 := Tryd.func70.trans (congrArg some (by kernel_rfl))
  f301 := Tryd.func71.trans (congrArg some (by kernel_rfl))
  f328 := Tryd.func74.trans (congrArg some (by kernel_rfl))
  f329 := Tryd.func75.trans (congrArg some (by kernel_rfl))
  f330 := Tryd.func76.trans (congrArg some (by kernel_rfl))
  f331 := Tryd.func77.trans (congrArg some (by kernel_rfl))
  f332 := Tryd.func78.trans (congrArg some (by kernel_rfl))
  f343 := Tryd.func80.trans (congrArg some (by kernel_rfl))
  t0 := Tryd.underlying0
  a0 := Tryd.isAgg0
  z0 := Tryd.sizeOf0
  v0 := Tryd.zeroValue0
  t3 := Tryd.underlying3
  a3 := Tryd.isAgg3
  z3 := Tryd.sizeOf3
  v3 := Tryd.zeroValue3
  t4 := Tryd.underlying4
  a4 := Tryd.isAgg4
  z4 := Tryd.sizeOf4
  v4 := Tryd.zeroValue4
  t5 := Tryd.underlying5
  a5 := Tryd.isAgg5
  z5 := Tryd.sizeOf5
  v5 := Tryd.zeroValue5
  t9 := Tryd.underlying9
  a9 := Tryd.isAgg9
  z9 := Tryd.sizeOf9
  v9 := Tryd.zeroValue9
  t28 := Tryd.underlying22
  a28 := Tryd.isAgg22
  z28 := Tryd.sizeOf22
  v28 := Tryd.zeroValue22
  t46 := Tryd.underlying100
  a46 := Tryd.isAgg100
  z46 := Tryd.sizeOf100
  v46 := Tryd.zeroValue100
  t51 := Tryd.underlying109
  a51 := Tryd.isAgg109
  z51 := Tryd.sizeOf109
  v51 := Tryd.zeroValue109
  t53 := Tryd.underlying111
  a53 := Tryd.isAgg111
  z53 := Tryd.sizeOf111
  v53 := Tryd.zeroValue111
  t131 := Tryd.underlying56
  a131 := Tryd.isAgg56
  z131 := Tryd.sizeOf56
  v131 := Tryd.zeroValue56
  t182 := Tryd.underlying102
  a182 := Tryd.isAgg102
  z182 := Tryd.sizeOf102
  v182 := Tryd.zeroValue102
  t183 := Tryd.underlying103
  a183 := Tryd.isAgg103
  z183 := Tryd.sizeOf103
  v183 := Tryd.zeroValue103
  t218 := Tryd.underlying112
  a218 := Tryd.isAgg112
  z218 := Tryd.sizeOf112
  v218 := Tryd.zeroValue112
  t222 := Tryd.underlying116
  a222 := Tryd.isAgg116
  z222 := Tryd.sizeOf116
  v222 := Tryd.zeroValue116
  t228 := Tryd.underlying118
  a228 := Tryd.isAgg118
  z228 := Tryd.sizeOf118
  v228 := Tryd.zeroValue118
  t229 := Tryd.underlying119
  a229 := Tryd.isAgg119
  z229 := Tryd.sizeOf119
  v229 := Tryd.zeroValue119 }
open Go.Sort Go.RowKit in
theorem Tryd.slices_Sort_int (blk off cap : Nat) (zs : List Int) (w : World) (hH : Holds (Value.int .i64) w blk off zs.toArray) (hblk : blk < w.heap.size) (hsz : zs.length < 4611686018427387904) :
    Calls Tryd.prog 53 #[.slice (some ⟨blk, off, none⟩) zs.length cap] w fun e w' =>
      e = .returned (.tuple #[]) ∧ ∃ n os, w' = grow (putRow (Value.int .i64) (Sort.ahead w n) blk off (zs.mergeSort fun x y => decide (x ≤ y)).toArray) os := Any.slices_Sort_int Tryd.lays189 blk off cap zs w hH hblk hsz
open Go.RowKit Go.Sort in
theorem Tryd.slices_Sort_int_none (p : Option Addr) (cap : Nat) (w : World) :
    Calls Tryd.prog 53 #[.slice p 0 cap] w fun e w' => e = .returned (.tuple #[]) ∧ w' = w := Any.slices_Sort_int_none Tryd.lays189 p cap w
end Go.Proofs
namespace Go.Ab
open Go.Proofs
theorem W_sortI {xs ys : List Int} (hy : sortI xs = some ys) : ACall Tryd.prog 53 [.osl 1000 1 0 xs.length] [(1000, .arr 1 (xs.map (V.int .i64)))] (fun r H' => r = .tup [] ∧ H' = [(1000, .arr 1 (ys.map (V.int .i64)))]) :=
  acall_sortI' (by kernel_rfl) (fun blk off cap zs w h1 h2 h3 => Tryd.slices_Sort_int blk off cap zs w h1 h2 h3) (fun p cap w => Tryd.slices_Sort_int_none p cap w) hy
end Go.Ab
