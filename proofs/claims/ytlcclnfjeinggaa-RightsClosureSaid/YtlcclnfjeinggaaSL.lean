/- What the functions of this seat that lie on the laws' road compute (part SL), each for every input. By AI agents. -/
import Derived.Test.YtlcclnfjeinggaaProg
import Derived.KernelRfl
import Derived.Test.YtlcclnfjeinggaaAbSlib
import Derived.Test.YtlcclnfjeinggaaAbStr
import Derived.Shelf.Small.Bits
import Derived.Shelf.Small.Wraps
import Derived.Shelf.Strconv.Itoa0
import Derived.Shelf.Sort.Plain
import Derived.Shelf.Slices.Turned
import Derived.Ground.Names2Prog
import Derived.Shelf.Slices.SearchI
import Derived.Shelf.Slices.In.SortNone
import Derived.Ground.SlgfProg
import Derived.Shelf.SlicesE.IndexFunc
import Derived.Deep.LoopGhost
set_option linter.all false
set_option linter.all false
namespace Go.Proofs
open Go.Shelf
def Try.lays189_ren : Go.Shelf.Ren := ⟨fun | 189 => 24 | 125 => 43 | 257 => 42 | 128 => 58 | 129 => 59 | 294 => 49 | 295 => 50 | 296 => 51 | 297 => 52 | 298 => 53 | 299 => 54 | 216 => 55 | 300 => 56 | 301 => 57 | 328 => 60 | 329 => 61 | 330 => 62 | 331 => 63 | 332 => 64 | 215 => 65 | 343 => 66 | n => n, fun | 28 => 22 | 3 => 3 | 46 => 76 | 0 => 0 | 51 => 91 | 53 => 93 | 4 => 4 | 183 => 84 | 182 => 83 | 131 => 63 | 5 => 5 | 9 => 9 | 218 => 94 | 222 => 98 | 228 => 100 | 229 => 101 | n => n, fun | n => n⟩
theorem Try.lays189 : Go.Proofs.Lays.n189 Try.prog Try.lays189_ren := {
 mixed := by kernel_rfl
 f125 := Try.func43.trans (congrArg some (by kernel_rfl))
 f128 := Try.func58.trans (congrArg some (by kernel_rfl))
 f129 := Try.func59.trans (congrArg some (by kernel_rfl))
 f189 := Try.func24.trans (congrArg some (by kernel_rfl))
 f215 := Try.func65.trans (congrArg some (by kernel_rfl))
 f216 := Try.func55.trans (congrArg some (by kernel_rfl))
 f257 := Try.func42.trans (congrArg some (by kernel_rfl))
 f294 := Try.func49.trans (congrArg some (by kernel_rfl))
 f295 := Try.func50.trans (congrArg some (by kernel_rfl))
 f296 := Try.func51.trans (congrArg some (by kernel_rfl))
 f297 := Try.func52.trans (congrArg some (by kernel_rfl))
 f298 := Try.func53.trans (congrArg some (by kernel_rfl))
 f299 := Try.func54.trans (congrArg some (by kernel_rfl))
 f300 := Try.func56.trans (congrArg some (by kernel_rfl))
 f301 := Try.func57.trans (congrArg some (by kernel_rfl))
 f328 := Try.func60.trans (congrArg some (by kernel_rfl))
 f329 := Try.func61.trans (congrArg some (by kernel_rfl))
 f330 := Try.func62.trans (congrArg some (by kernel_rfl))
 f331 := Try.func63.trans (congrArg some (by kernel_rfl))
 f332 := Try.func64.trans (congrArg some (by kernel_rfl))
 f343 := Try.func66.trans (congrArg some (by kernel_rfl))
 t0 := Try.underlying0
 a0 := Try.isAgg0
 z0 := Try.sizeOf0
 v0 := Try.zeroValue0
 t3 := Try.underlying3
 a3 := Try.isAgg3
 z3 := Try.sizeOf3
 v3 := Try.zeroValue3
 t4 := Try.underlying4
 a4 := Try.isAgg4
 z4 := Try.sizeOf4
 v4 := Try.zeroValue4
 t5 := Try.underlying5
 a5 := Try.isAgg5
 z5 := Try.sizeOf5
 v5 := Try.zeroValue5
 t9 := Try.underlying9
 a9 := Try.isAgg9
 z9 := Try.sizeOf9
 v9 := Try.zeroValue9
 t28 := Try.underlying22
 a28 := Try.isAgg22
 z28 := Try.sizeOf22
 v28 := Try.zeroValue22
 t46 := Try.underlying76
 a46 := Try.isAgg76
 z46 := Try.sizeOf76
 v46 := Try.zeroValue76
 t51 := Try.underlying91
 a51 := Try.isAgg91
 z51 := Try.sizeOf91
 v51 := Try.zeroValue91
 t53 := Try.underlying93
 a53 := Try.isAgg93
 z53 := Try.sizeOf93
 v53 := Try.zeroValue93
 t131 := Try.underlying63
 a131 := Try.isAgg63
 z131 := Try.sizeOf63
 v131 := Try.zeroValue63
 t182 := Try.underlying83
 a182 := Try.isAgg83
 z182 := Try.sizeOf83
 v182 := Try.zeroValue83
 t183 := Try.underlying84
 a183 := Try.isAgg84
 z183 := Try.sizeOf84
 v183 := Try.zeroValue84
 t218 := Try.underlying94
 a218 := Try.isAgg94
 z218 := Try.sizeOf94
 v218 := Try.zeroValue94
 t222 := Try.underlying98
 a222 := Try.isAgg98
 z222 := Try.sizeOf98
 v222 := Try.zeroValue98
 t228 := Try.underlying100
 a228 := Try.isAgg100
 z228 := Try.sizeOf100
 v228 := Try.zeroValue100
 t229 := Try.underlying101
 a229 := Try.isAgg101
 z229 := Try.sizeOf101
 v229 := Try.zeroValue101 }
open Go.Sort Go.RowKit in
theorem Try.slices_Sort_int (blk off cap : Nat) (zs : List Int) (w : World) (hH : Holds (Value.int .i64) w blk off zs.toArray) (hblk : blk < w.heap.size) (hsz : zs.length < 4611686018427387904) :
  Calls Try.prog 24 #[.slice (some ⟨blk, off, none⟩) zs.length cap] w fun e w' =>
   e = .returned (.tuple #[]) ∧ ∃ n os, w' = grow (putRow (Value.int .i64) (Sort.ahead w n) blk off (zs.mergeSort fun x y => decide (x ≤ y)).toArray) os := Any.slices_Sort_int Try.lays189 blk off cap zs w hH hblk hsz
open Go.RowKit Go.Sort in
theorem Try.slices_Sort_int_none (p : Option Addr) (cap : Nat) (w : World) :
  Calls Try.prog 24 #[.slice p 0 cap] w fun e w' => e = .returned (.tuple #[]) ∧ w' = w := Any.slices_Sort_int_none Try.lays189 p cap w
end Go.Proofs
namespace Go.Proofs
open Go.Deep Go.Ab Go.RowKit Go.Lib Go.Sort
end Go.Proofs
namespace Go.Ab
open Go.Proofs Go.RowKit
theorem W_2q {xs ys : List Int} (hy : sortI xs = some ys) : ACall Try.prog 24 [.osl 1000 1 0 xs.length] [(1000, .arr 1 (xs.map (V.int .i64)))] (fun r H' => r = .tup [] ∧ H' = [(1000, .arr 1 (ys.map (V.int .i64)))]) :=
 acall_sortI' (by kernel_rfl) (fun blk off cap zs w h1 h2 h3 => Try.slices_Sort_int blk off cap zs w h1 h2 h3) (fun p cap w => Try.slices_Sort_int_none p cap w) hy
end Go.Ab
