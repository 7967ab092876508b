/- What the functions of this seat that lie on the laws' road compute (part SL), each for every input. By AI agents. -/
import Derived.Test.YtdcjekffkibboaaGreatDoorProg
import Derived.KernelRfl
import Derived.Test.YtdcjekffkibboaaGreatDoorAbSlib
import Derived.Test.YtdcjekffkibboaaGreatDoorAbStr
import Derived.Shelf.Strings.Builder1
import Derived.Shelf.Small.Strs
import Derived.Shelf.Small.Wraps
import Derived.Shelf.Strings.BuilderF
import Derived.Shelf.Strconv.Atoi
import Derived.Shelf.Strconv.Itoa0
import Derived.Shelf.Strconv.Itoa1
import Derived.Shelf.LaysM
import Derived.Shelf.Strconv.Itoa2
import Derived.Shelf.Strconv.Itoa3
import Derived.Shelf.Strconv.AtoiErrFast
import Derived.Shelf.Strconv.ParseIntEmpty
import Derived.Shelf.Strconv.AtoiFail
import Derived.Shelf.Strconv.Clone
import Derived.Shelf.Strconv.SyntaxError
import Derived.Shelf.LaysC
import Derived.Shelf.Strconv.ToError
import Derived.Shelf.Strconv.Lower
import Derived.Shelf.Strconv.ParseUint10
import Derived.Shelf.Strconv.ParseUint10Empty
import Derived.Shelf.Strconv.ParseUint10Any
import Derived.Shelf.Strconv.ParseInt10
import Derived.Shelf.Strconv.AtoiLong
import Derived.Shelf.Strconv.AtoiInnerAll
import Derived.Shelf.Strconv.RangeError
import Derived.Shelf.Strconv.ToErrorRange
import Derived.Shelf.Strconv.AtoiAll
import Derived.Shelf.Strconv.ErrVarAll
import Derived.Shelf.Strconv.ParseUintEmpty
import Derived.Shelf.Strings.Search1
import Derived.Shelf.Strings.Search2
import Derived.Shelf.Strings.Cut
import Derived.Shelf.Strings.Shaped
import Derived.Shelf.Strings.Prefix
import Derived.Shelf.Slices.Turned
import Derived.Shelf.Bytes.Small
import Derived.Shelf.Spec.SlicesGrow
import Derived.Ground.Names8Prog
import Derived.Deep.LoopGhost
set_option linter.all false
set_option linter.all false
namespace Go.Proofs
open Go.Shelf
def Tryz.lays137_ren : Go.Shelf.Ren := ⟨fun | 137 => 100 | 217 => 109 | 266 => 122 | n => n, fun | 9 => 9 | 5 => 5 | 3 => 3 | n => n, fun | n => n⟩
theorem Tryz.lays137 : Go.Proofs.Lays.n137 Tryz.prog Tryz.lays137_ren := {
 mixed := by kernel_rfl
 f137 := Tryz.func100.trans (congrArg some (by kernel_rfl))
 f217 := Tryz.func109.trans (congrArg some (by kernel_rfl))
 f266 := Tryz.func122.trans (congrArg some (by kernel_rfl))
 t3 := Tryz.underlying3
 a3 := Tryz.isAgg3
 z3 := Tryz.sizeOf3
 v3 := Tryz.zeroValue3
 t5 := Tryz.underlying5
 a5 := Tryz.isAgg5
 z5 := Tryz.sizeOf5
 v5 := Tryz.zeroValue5
 t9 := Tryz.underlying9
 a9 := Tryz.isAgg9
 z9 := Tryz.sizeOf9
 v9 := Tryz.zeroValue9 }
open Go.RowKit in
theorem Tryz.strings_IndexByte (s : ByteArray) (c : Int) (w : World) :
  Calls Tryz.prog 100 #[.string s, .int .u8 c] w fun e w' => e = .returned (.int .i64 (Lib.indexByte s.data.toList c.toNat.toUInt8)) ∧ w' = w := Any.strings_IndexByte Tryz.lays137 s c w
def Tryz.laysM171_ren : Go.Shelf.Ren := ⟨fun | 171 => 54 | 243 => 81 | 246 => 95 | 283 => 105 | 284 => 106 | 285 => 107 | 286 => 108 | 129 => 118 | 317 => 117 | 318 => 119 | 319 => 120 | 320 => 121 | 337 => 129 | 338 => 130 | n => n, fun | 3 => 3 | 9 => 9 | 2 => 2 | 4 => 4 | 171 => 142 | 0 => 0 | 53 => 143 | 37 => 31 | 5 => 5 | 173 => 146 | 212 => 156 | 51 => 157 | 20 => 20 | 213 => 158 | 46 => 125 | 232 => 173 | 233 => 174 | n => n, fun | 17 => 0 | 18 => 4 | 19 => 5 | n => n⟩
theorem Tryz.laysM171 : Go.Proofs.LaysM.n171 Tryz.prog Tryz.laysM171_ren := {
 mixed := by kernel_rfl
 f129 := Tryz.func118.trans (congrArg some (by kernel_rfl))
 f171 := Tryz.func54.trans (congrArg some (by kernel_rfl))
 f243 := Tryz.func81.trans (congrArg some (by kernel_rfl))
 f246 := Tryz.func95.trans (congrArg some (by kernel_rfl))
 f283 := Tryz.func105.trans (congrArg some (by kernel_rfl))
 f284 := Tryz.func106.trans (congrArg some (by kernel_rfl))
 f285 := Tryz.func107.trans (congrArg some (by kernel_rfl))
 f286 := Tryz.func108.trans (congrArg some (by kernel_rfl))
 f317 := Tryz.func117.trans (congrArg some (by kernel_rfl))
 f318 := Tryz.func119.trans (congrArg some (by kernel_rfl))
 f319 := Tryz.func120.trans (congrArg some (by kernel_rfl))
 f320 := Tryz.func121.trans (congrArg some (by kernel_rfl))
 f337 := Tryz.func129.trans (congrArg some (by kernel_rfl))
 f338 := Tryz.func130.trans (congrArg some (by kernel_rfl))
 t0 := Tryz.underlying0
 a0 := Tryz.isAgg0
 z0 := Tryz.sizeOf0
 v0 := Tryz.zeroValue0
 t2 := Tryz.underlying2
 a2 := Tryz.isAgg2
 z2 := Tryz.sizeOf2
 v2 := Tryz.zeroValue2
 t3 := Tryz.underlying3
 a3 := Tryz.isAgg3
 z3 := Tryz.sizeOf3
 v3 := Tryz.zeroValue3
 t4 := Tryz.underlying4
 a4 := Tryz.isAgg4
 z4 := Tryz.sizeOf4
 v4 := Tryz.zeroValue4
 t5 := Tryz.underlying5
 a5 := Tryz.isAgg5
 z5 := Tryz.sizeOf5
 v5 := Tryz.zeroValue5
 t9 := Tryz.underlying9
 a9 := Tryz.isAgg9
 z9 := Tryz.sizeOf9
 v9 := Tryz.zeroValue9
 t20 := Tryz.underlying20
 a20 := Tryz.isAgg20
 z20 := Tryz.sizeOf20
 v20 := Tryz.zeroValue20
 t37 := Tryz.underlying31
 a37 := Tryz.isAgg31
 z37 := Tryz.sizeOf31
 v37 := Tryz.zeroValue31
 t46 := Tryz.underlying125
 a46 := Tryz.isAgg125
 z46 := Tryz.sizeOf125
 v46 := Tryz.zeroValue125
 t51 := Tryz.underlying157
 a51 := Tryz.isAgg157
 z51 := Tryz.sizeOf157
 v51 := Tryz.zeroValue157
 t53 := Tryz.underlying143
 a53 := Tryz.isAgg143
 z53 := Tryz.sizeOf143
 v53 := Tryz.zeroValue143
 t171 := Tryz.underlying142
 a171 := Tryz.isAgg142
 z171 := Tryz.sizeOf142
 v171 := Tryz.zeroValue142
 t173 := Tryz.underlying146
 a173 := Tryz.isAgg146
 z173 := Tryz.sizeOf146
 v173 := Tryz.zeroValue146
 t212 := Tryz.underlying156
 a212 := Tryz.isAgg156
 z212 := Tryz.sizeOf156
 v212 := Tryz.zeroValue156
 t213 := Tryz.underlying158
 a213 := Tryz.isAgg158
 z213 := Tryz.sizeOf158
 t232 := Tryz.underlying173
 a232 := Tryz.isAgg173
 z232 := Tryz.sizeOf173
 v232 := Tryz.zeroValue173
 t233 := Tryz.underlying174
 a233 := Tryz.isAgg174
 z233 := Tryz.sizeOf174
 v233 := Tryz.zeroValue174
 g17 := by kernel_rfl
 g18 := by kernel_rfl
 g19 := by kernel_rfl
 i0 := by kernel_rfl
 i2 := by kernel_rfl
 i3 := by kernel_rfl
 i4 := by kernel_rfl
 i5 := by kernel_rfl
 i9 := by kernel_rfl
 i20 := by kernel_rfl
 i37 := by kernel_rfl
 i46 := by kernel_rfl
 i51 := by kernel_rfl
 i53 := by kernel_rfl
 i171 := by kernel_rfl
 i173 := by kernel_rfl
 i212 := by kernel_rfl
 i232 := by kernel_rfl
 i233 := by kernel_rfl
 m17 := by kernel_rfl
 m18 := by kernel_rfl
 m19 := by kernel_rfl }
open Go.RowKit Go.Sort Go.Lib in
theorem Tryz.strconv_Itoa (n : Int) (h0 : -9223372036854775808 ≤ n) (h1 : n ≤ 9223372036854775807) (w : World) (htab : Lib.TabIs Tryz.prog w "internal/strconv.uint64pow10" .u64 Lib.pow10Tab) :
  Calls Tryz.prog 54 #[.int .i64 n] w fun e w' => e = .returned (.string ⟨(Lib.itoa n).toArray⟩) ∧ ∃ k os, w' = grow (w.drewN k) os := Any.strconv_Itoa Tryz.laysM171 n h0 h1 w htab
def Tryz.laysC172_ren : Go.Shelf.Ren := ⟨fun | 172 => 93 | 244 => 103 | 245 => 104 | 247 => 112 | 279 => 113 | 280 => 114 | 281 => 115 | 282 => 116 | 287 => 126 | 316 => 127 | 171 => 54 | 205 => 128 | 321 => 132 | 322 => 133 | 243 => 81 | 246 => 95 | 283 => 105 | 284 => 106 | 285 => 107 | 286 => 108 | 129 => 118 | 317 => 117 | 318 => 119 | 319 => 120 | 320 => 121 | 337 => 129 | 338 => 130 | n => n, fun | 9 => 9 | 3 => 3 | 75 => 96 | 76 => 97 | 4 => 4 | 5 => 5 | 167 => 149 | 37 => 31 | 0 => 0 | 85 => 150 | 2 => 2 | 168 => 152 | 53 => 143 | 175 => 160 | 46 => 125 | 210 => 164 | 127 => 122 | 145 => 172 | 143 => 170 | 21 => 21 | 171 => 142 | 173 => 146 | 212 => 156 | 51 => 157 | 20 => 20 | 213 => 158 | 232 => 173 | 233 => 174 | 80 => 101 | n => n, fun | 15 => 2 | 16 => 3 | 17 => 0 | 18 => 4 | 19 => 5 | n => n⟩
theorem Tryz.laysC172 : Go.Proofs.LaysC.n172 Tryz.prog Tryz.laysC172_ren := {
 mixed := by kernel_rfl
 f129 := Tryz.func118.trans (congrArg some (by kernel_rfl))
 f171 := Tryz.func54.trans (congrArg some (by kernel_rfl))
 f172 := Tryz.func93.trans (congrArg some (by kernel_rfl))
 f205 := Tryz.func128.trans (congrArg some (by kernel_rfl))
 f243 := Tryz.func81.trans (congrArg some (by kernel_rfl))
 f244 := Tryz.func103.trans (congrArg some (by kernel_rfl))
 f245 := Tryz.func104.trans (congrArg some (by kernel_rfl))
 f246 := Tryz.func95.trans (congrArg some (by kernel_rfl))
 f247 := Tryz.func112.trans (congrArg some (by kernel_rfl))
 f279 := Tryz.func113.trans (congrArg some (by kernel_rfl))
 f280 := Tryz.func114.trans (congrArg some (by kernel_rfl))
 f281 := Tryz.func115.trans (congrArg some (by kernel_rfl))
 f282 := Tryz.func116.trans (congrArg some (by kernel_rfl))
 f283 := Tryz.func105.trans (congrArg some (by kernel_rfl))
 f284 := Tryz.func106.trans (congrArg some (by kernel_rfl))
 f285 := Tryz.func107.trans (congrArg some (by kernel_rfl))
 f286 := Tryz.func108.trans (congrArg some (by kernel_rfl))
 f287 := Tryz.func126.trans (congrArg some (by kernel_rfl))
 f316 := Tryz.func127.trans (congrArg some (by kernel_rfl))
 f317 := Tryz.func117.trans (congrArg some (by kernel_rfl))
 f318 := Tryz.func119.trans (congrArg some (by kernel_rfl))
 f319 := Tryz.func120.trans (congrArg some (by kernel_rfl))
 f320 := Tryz.func121.trans (congrArg some (by kernel_rfl))
 f321 := Tryz.func132.trans (congrArg some (by kernel_rfl))
 f322 := Tryz.func133.trans (congrArg some (by kernel_rfl))
 f337 := Tryz.func129.trans (congrArg some (by kernel_rfl))
 f338 := Tryz.func130.trans (congrArg some (by kernel_rfl))
 t0 := Tryz.underlying0
 a0 := Tryz.isAgg0
 z0 := Tryz.sizeOf0
 v0 := Tryz.zeroValue0
 t2 := Tryz.underlying2
 a2 := Tryz.isAgg2
 z2 := Tryz.sizeOf2
 v2 := Tryz.zeroValue2
 t3 := Tryz.underlying3
 a3 := Tryz.isAgg3
 z3 := Tryz.sizeOf3
 v3 := Tryz.zeroValue3
 t4 := Tryz.underlying4
 a4 := Tryz.isAgg4
 z4 := Tryz.sizeOf4
 v4 := Tryz.zeroValue4
 t5 := Tryz.underlying5
 a5 := Tryz.isAgg5
 z5 := Tryz.sizeOf5
 v5 := Tryz.zeroValue5
 t9 := Tryz.underlying9
 a9 := Tryz.isAgg9
 z9 := Tryz.sizeOf9
 v9 := Tryz.zeroValue9
 t20 := Tryz.underlying20
 a20 := Tryz.isAgg20
 z20 := Tryz.sizeOf20
 v20 := Tryz.zeroValue20
 t21 := Tryz.underlying21
 a21 := Tryz.isAgg21
 z21 := Tryz.sizeOf21
 v21 := Tryz.zeroValue21
 t37 := Tryz.underlying31
 a37 := Tryz.isAgg31
 z37 := Tryz.sizeOf31
 v37 := Tryz.zeroValue31
 t46 := Tryz.underlying125
 a46 := Tryz.isAgg125
 z46 := Tryz.sizeOf125
 v46 := Tryz.zeroValue125
 t51 := Tryz.underlying157
 a51 := Tryz.isAgg157
 z51 := Tryz.sizeOf157
 v51 := Tryz.zeroValue157
 t53 := Tryz.underlying143
 a53 := Tryz.isAgg143
 z53 := Tryz.sizeOf143
 v53 := Tryz.zeroValue143
 t75 := Tryz.underlying96
 a75 := Tryz.isAgg96
 z75 := Tryz.sizeOf96
 v75 := Tryz.zeroValue96
 t76 := Tryz.underlying97
 a76 := Tryz.isAgg97
 z76 := Tryz.sizeOf97
 v76 := Tryz.zeroValue97
 t85 := Tryz.underlying150
 a85 := Tryz.isAgg150
 z85 := Tryz.sizeOf150
 v85 := Tryz.zeroValue150
 t127 := Tryz.underlying122
 a127 := Tryz.isAgg122
 z127 := Tryz.sizeOf122
 v127 := Tryz.zeroValue122
 t143 := Tryz.underlying170
 a143 := Tryz.isAgg170
 z143 := Tryz.sizeOf170
 v143 := Tryz.zeroValue170
 t145 := Tryz.underlying172
 a145 := Tryz.isAgg172
 z145 := Tryz.sizeOf172
 v145 := Tryz.zeroValue172
 t167 := Tryz.underlying149
 a167 := Tryz.isAgg149
 z167 := Tryz.sizeOf149
 v167 := Tryz.zeroValue149
 t168 := Tryz.underlying152
 a168 := Tryz.isAgg152
 z168 := Tryz.sizeOf152
 v168 := Tryz.zeroValue152
 t171 := Tryz.underlying142
 a171 := Tryz.isAgg142
 z171 := Tryz.sizeOf142
 v171 := Tryz.zeroValue142
 t173 := Tryz.underlying146
 a173 := Tryz.isAgg146
 z173 := Tryz.sizeOf146
 v173 := Tryz.zeroValue146
 t175 := Tryz.underlying160
 a175 := Tryz.isAgg160
 z175 := Tryz.sizeOf160
 v175 := Tryz.zeroValue160
 t210 := Tryz.underlying164
 a210 := Tryz.isAgg164
 z210 := Tryz.sizeOf164
 v210 := Tryz.zeroValue164
 t212 := Tryz.underlying156
 a212 := Tryz.isAgg156
 z212 := Tryz.sizeOf156
 v212 := Tryz.zeroValue156
 t213 := Tryz.underlying158
 a213 := Tryz.isAgg158
 z213 := Tryz.sizeOf158
 t232 := Tryz.underlying173
 a232 := Tryz.isAgg173
 z232 := Tryz.sizeOf173
 v232 := Tryz.zeroValue173
 t233 := Tryz.underlying174
 a233 := Tryz.isAgg174
 z233 := Tryz.sizeOf174
 v233 := Tryz.zeroValue174
 g15 := by kernel_rfl
 g16 := by kernel_rfl
 g17 := by kernel_rfl
 g18 := by kernel_rfl
 g19 := by kernel_rfl
 t80 := Tryz.underlying101
 a80 := Tryz.isAgg101
 z80 := Tryz.sizeOf101
 v80 := Tryz.zeroValue101
 i0 := by kernel_rfl
 i2 := by kernel_rfl
 i3 := by kernel_rfl
 i4 := by kernel_rfl
 i5 := by kernel_rfl
 i9 := by kernel_rfl
 i20 := by kernel_rfl
 i21 := by kernel_rfl
 i37 := by kernel_rfl
 i46 := by kernel_rfl
 i51 := by kernel_rfl
 i53 := by kernel_rfl
 i75 := by kernel_rfl
 i76 := by kernel_rfl
 i80 := by kernel_rfl
 i85 := by kernel_rfl
 i127 := by kernel_rfl
 i143 := by kernel_rfl
 i145 := by kernel_rfl
 i167 := by kernel_rfl
 i168 := by kernel_rfl
 i171 := by kernel_rfl
 i173 := by kernel_rfl
 i175 := by kernel_rfl
 i210 := by kernel_rfl
 i212 := by kernel_rfl
 i232 := by kernel_rfl
 i233 := by kernel_rfl
 m15 := by kernel_rfl
 m16 := by kernel_rfl
 m17 := by kernel_rfl
 m18 := by kernel_rfl
 m19 := by kernel_rfl
 c0 := by kernel_rfl
 c2 := by kernel_rfl
 c3 := by kernel_rfl
 c4 := by kernel_rfl
 c5 := by kernel_rfl
 c9 := by kernel_rfl
 c20 := by kernel_rfl
 c21 := by kernel_rfl
 c37 := by kernel_rfl
 c46 := by kernel_rfl
 c51 := by kernel_rfl
 c53 := by kernel_rfl
 c75 := by kernel_rfl
 c76 := by kernel_rfl
 c80 := by kernel_rfl
 c85 := by kernel_rfl
 c127 := by kernel_rfl
 c143 := by kernel_rfl
 c145 := by kernel_rfl
 c167 := by kernel_rfl
 c168 := by kernel_rfl
 c171 := by kernel_rfl
 c173 := by kernel_rfl
 c175 := by kernel_rfl
 c210 := by kernel_rfl
 c212 := by kernel_rfl
 c213 := by kernel_rfl
 c232 := by kernel_rfl
 c233 := by kernel_rfl }
open Go.RowKit in
theorem Tryz.strconv_Atoi_ok (s : ByteArray) (hmax : s.size ≤ 9223372036854775806) (v : Int) (h : Lib.atoiAll s.data.toList = .ok v) (w : World) :
  Calls Tryz.prog 93 #[.string s] w fun e w' => e = .returned (.tuple #[.int .i64 v, .nilIface]) ∧ (w' = w ∨ ∃ t, w' = Lib.bytesWorld w 5 t) := Any.strconv_Atoi_ok Tryz.laysC172 s hmax v h w
open Go.RowKit in
theorem Tryz.strconv_Atoi_syntax_var (s : ByteArray) (hlim : s.size ≤ 281474976710656) (h1 : ∀ v, Lib.atoiAll s.data.toList ≠ .ok v) (h2 : Lib.atoiAll s.data.toList ≠ .range) (tp : TypeId) (p : Value) (w : World) (hvar : w.var? Tryz.prog "strconv.ErrSyntax" = some #[.iface tp p]) :
  Calls Tryz.prog 93 #[.string s] w fun e w' => ∃ N, e = .returned (.tuple #[.int .i64 0, .iface 152 (.pointer (some ⟨N, 0, none⟩))]) ∧ w.heap.size ≤ N ∧ w'.heap[N]? = some (.cells #[.string ⟨#[65,116,111,105]⟩, .string s, .iface tp p] 164 (0,0)) ∧ Below w.heap.size w w' := Any.strconv_Atoi_syntax_var Tryz.laysC172 s hlim (by cases e : Lib.atoiAll s.data.toList <;> simp_all) tp p w hvar
open Go.RowKit in
theorem Tryz.strconv_Atoi_range_var (s : ByteArray) (hlim : s.size ≤ 281474976710656) (h : Lib.atoiAll s.data.toList = .range) (tp : TypeId) (p : Value) (w : World) (hvar : w.var? Tryz.prog "strconv.ErrRange" = some #[.iface tp p]) :
  Calls Tryz.prog 93 #[.string s] w fun e w' => ∃ N, e = .returned (.tuple #[.int .i64 (Lib.atoiSat s.data.toList), .iface 152 (.pointer (some ⟨N, 0, none⟩))]) ∧ w.heap.size ≤ N ∧ w'.heap[N]? = some (.cells #[.string ⟨#[65,116,111,105]⟩, .string s, .iface tp p] 164 (0,0)) ∧ Below w.heap.size w w' := Any.strconv_Atoi_range_var Tryz.laysC172 s hlim h tp p w hvar
def Tryz.lays219_ren : Go.Shelf.Ren := ⟨fun | 219 => 110 | 217 => 109 | 225 => 123 | 224 => 124 | 267 => 125 | 266 => 122 | 314 => 131 | n => n, fun | 9 => 9 | 3 => 3 | 4 => 4 | 5 => 5 | 46 => 125 | 146 => 167 | 51 => 157 | n => n, fun | 1 => 1 | n => n⟩
theorem Tryz.lays219 : Go.Proofs.Lays.n219 Tryz.prog Tryz.lays219_ren := {
 mixed := by kernel_rfl
 f217 := Tryz.func109.trans (congrArg some (by kernel_rfl))
 f219 := Tryz.func110.trans (congrArg some (by kernel_rfl))
 f224 := Tryz.func124.trans (congrArg some (by kernel_rfl))
 f225 := Tryz.func123.trans (congrArg some (by kernel_rfl))
 f266 := Tryz.func122.trans (congrArg some (by kernel_rfl))
 f267 := Tryz.func125.trans (congrArg some (by kernel_rfl))
 f314 := Tryz.func131.trans (congrArg some (by kernel_rfl))
 t3 := Tryz.underlying3
 a3 := Tryz.isAgg3
 z3 := Tryz.sizeOf3
 v3 := Tryz.zeroValue3
 t4 := Tryz.underlying4
 a4 := Tryz.isAgg4
 z4 := Tryz.sizeOf4
 v4 := Tryz.zeroValue4
 t5 := Tryz.underlying5
 a5 := Tryz.isAgg5
 z5 := Tryz.sizeOf5
 v5 := Tryz.zeroValue5
 t9 := Tryz.underlying9
 a9 := Tryz.isAgg9
 z9 := Tryz.sizeOf9
 v9 := Tryz.zeroValue9
 t46 := Tryz.underlying125
 a46 := Tryz.isAgg125
 z46 := Tryz.sizeOf125
 v46 := Tryz.zeroValue125
 t51 := Tryz.underlying157
 a51 := Tryz.isAgg157
 z51 := Tryz.sizeOf157
 v51 := Tryz.zeroValue157
 t146 := Tryz.underlying167
 a146 := Tryz.isAgg167
 z146 := Tryz.sizeOf167
 v146 := Tryz.zeroValue167
 g1 := by kernel_rfl }
open Go.RowKit Go.Lib in
theorem Tryz.stringslite_Index_one (s : ByteArray) (c : UInt8) (w : World) :
  Calls Tryz.prog 110 #[.string s, .string ⟨#[c]⟩] w fun e w' => e = .returned (.int .i64 (Lib.indexByte s.data.toList c)) ∧ w' = w := Any.stringslite_Index_one Tryz.lays219 s c w
def Tryz.layGrow_ren : Go.Shelf.Ren := ⟨fun | 4 => 83 | n => n, fun | 22 => 31 | 25 => 5 | 3 => 3 | 4 => 4 | 9 => 9 | 20 => 20 | 0 => 0 | n => n, fun | n => n⟩
theorem Tryz.layGrow : Go.Proofs.Lays8.n4 Tryz.prog Tryz.layGrow_ren := {
 mixed := by kernel_rfl
 f4 := ⟨Tryz.f83.name, by decide, Tryz.func83.trans (congrArg some (by kernel_rfl))⟩
 t0 := Tryz.underlying0
 a0 := Tryz.isAgg0
 z0 := Tryz.sizeOf0
 v0 := Tryz.zeroValue0
 t3 := Tryz.underlying3
 a3 := Tryz.isAgg3
 z3 := Tryz.sizeOf3
 v3 := Tryz.zeroValue3
 t4 := Tryz.underlying4
 a4 := Tryz.isAgg4
 z4 := Tryz.sizeOf4
 v4 := Tryz.zeroValue4
 t9 := Tryz.underlying9
 a9 := Tryz.isAgg9
 z9 := Tryz.sizeOf9
 v9 := Tryz.zeroValue9
 t20 := Tryz.underlying20
 a20 := Tryz.isAgg20
 z20 := Tryz.sizeOf20
 v20 := Tryz.zeroValue20
 t22 := Tryz.underlying31
 a22 := Tryz.isAgg31
 z22 := Tryz.sizeOf31
 v22 := Tryz.zeroValue31 }
end Go.Proofs
namespace Go.Proofs
open Go.Deep Go.Ab Go.RowKit Go.Lib Go.Sort
end Go.Proofs
namespace Go.Ab
open Go.Proofs Go.RowKit
theorem W_75 {n : Int} {y : Str} (hy : itoaI n = some y) : ACall Tryz.prog 54 [.int .i64 n] [] (fun r H => r = .str y ∧ H = []) := by
 obtain ⟨hn, rfl⟩ := itoaI_inv hy
 have hn' : -9223372036854775808 ≤ n ∧ n ≤ 9223372036854775807 := hn
 refine acall_grow (by kernel_rfl) fun g w vals hH hl hv => ?_
 rw [arr1 hl, (hv 0 _ rfl).int_inv.1]
 have ht := (hH.tabs w (fun _ _ => rfl)).1 _ List.mem_cons_self (by kernel_rfl)
 refine (Tryz.strconv_Itoa n hn'.1 hn'.2 w ht).mono ?_
 rintro en w' ⟨rfl, k, os, rfl⟩
 exact ⟨_, rfl, fun g w' => str_vr _ (Nat.le_trans (Lib.itoa_length_le n hn'.1 hn'.2) (by decide)), k, os, rfl⟩
theorem W_71 {s : Str} {y : Int} (hy : atoiI s = some y) : ACall Tryz.prog 93 [.str s] [] (fun r H => r = .tup [.int .i64 y, .any] ∧ H = []) := by
 obtain ⟨hlen, rfl⟩ := atoiI_inv hy
 refine acall_step ⟨.tup [.int .i64 (atoiV s), .any],[],[]⟩ (by kernel_rfl) fun g w vals hH hl hv => ?_
 obtain ⟨t, e1, e2, e3⟩ := (hv 0 _ rfl).str_inv
 rw [arr1 hl, e1]
 have hts : t.data.toList.length = t.size := Array.length_toList
 have hsz : t.size ≤ 281474976710656 := by rw [← hts, e2]; exact hlen
 have hr := atoiV_rng s
 have fin : ∀ (w' : World) (n : Int) (z : Value), n = atoiV s → Below w.heap.size w w' → ∃ v g', Ending.returned (.tuple #[.int .i64 n, z]) = .returned v ∧ StepOK g [] w ⟨.tup [.int .i64 (atoiV s), .any],[],[]⟩ g' w' ∧ Fresh [] g g' ⟨[],[]⟩ ⟨.tup [.int .i64 (atoiV s), .any],[],[]⟩ ∧ VR g' w' v (.tup [.int .i64 (atoiV s), .any]) := by
  rintro w' n z rfl hb
  refine ⟨_, g, rfl, StepOK.grown _ [] hH.lt hb.os hb.tape hb.output hb.size (fun b h _ => hb.block b h), Fresh.none _ _, .tup _ _ rfl fun i x hx => ?_⟩
  match i with
  | 0 => simp at hx; subst hx; exact .rd (.int _ _ (rng_iff.2 hr))
  | 1 => simp at hx; subst hx; exact .any _
  | i + 2 => simp at hx
 have htab := (hH.tabs w (fun _ _ => rfl)).2
 cases h : Lib.atoiAll s with
 | ok v =>
  refine (Tryz.strconv_Atoi_ok t (by omega) v (by rw [e2]; exact h) w).mono ?_
  rintro en w' ⟨rfl, hw⟩
  refine fin w' v _ (by simp [atoiV, h]) ?_
  rcases hw with rfl | ⟨u, rfl⟩
  ·exact Below.refl _ _
  ·exact Go.Joins.below_bytesWorld _ _ _ _ (Nat.le_refl _)
 | range =>
  obtain ⟨tp, p, hvar⟩ := htab "strconv.ErrRange" (by simp [errs0]) (by kernel_rfl)
  refine (Tryz.strconv_Atoi_range_var t hsz (by rw [e2]; exact h) tp p w hvar).mono ?_
  rintro en w' ⟨N, rfl, _, _, hb⟩
  exact fin w' _ _ (by simp [atoiV, h, e2]) hb
 | _ =>
  obtain ⟨tp, p, hvar⟩ := htab "strconv.ErrSyntax" (by simp [errs0]) (by kernel_rfl)
  refine (Tryz.strconv_Atoi_syntax_var t hsz (by rw [e2, h]; intro v hv; cases hv) (by rw [e2, h]; intro hv; cases hv) tp p w hvar).mono ?_
  rintro en w' ⟨N, rfl, _, _, hb⟩
  exact fin w' 0 _ (by simp [atoiV, h]) hb
set_option maxRecDepth 20000
theorem cc_used (b : Nat) (w : World) (h0 : w.cell? ⟨b, 0, none⟩ = some (.pointer (some ⟨b, 0, none⟩))) :
  Calls Tryz.prog 80 #[.pointer (some ⟨b, 0, none⟩)] w fun e w' => e = .returned (.tuple #[]) ∧ w' = w := by
 obtain ⟨j, hj, hjs⟩ := Option.map_eq_some_iff.1 (show (Tryz.prog.info? 94).map (·.size) = some 2 by kernel_rfl)
 go_enter Tryz.func80, Tryz.ntmps80
 go_wp2
 rw [Lib.run_neq_ptr_same w _ Tryz.underlying92 hj]
 go_wp2
 go_end0
 exact ⟨rfl, rfl⟩
theorem cc_fresh (b : Nat) (w : World) (h0 : w.cell? ⟨b, 0, none⟩ = some (.pointer none)) (hsh : w.shape? b = some (94,2)) (hfz : w.frozen? ⟨b, 0, none⟩ = false) :
  Calls Tryz.prog 80 #[.pointer (some ⟨b, 0, none⟩)] w fun e w' => e = .returned (.tuple #[]) ∧ w' = w.setCell ⟨b, 0, none⟩ (.pointer (some ⟨b, 0, none⟩)) := by
 obtain ⟨j, hj, hjs⟩ := Option.map_eq_some_iff.1 (show (Tryz.prog.info? 94).map (·.size) = some 2 by kernel_rfl)
 go_enter Tryz.func80, Tryz.ntmps80
 go_wp2
 rw [Lib.run_to_unsafe w ⟨b, 0, none⟩ Tryz.underlying92 Tryz.underlying136 hj (by rw [hjs]; decide) hsh (Nat.zero_lt_succ 1)]
 simp only [Result.andThen]
 rw [Oper.upon_value]
 go_wp2
 rw [run_callFunc_extern Tryz.func94 (by kernel_rfl) (by kernel_rfl) (by kernel_rfl) (e := Extern.AbiNoEscape.same) (by kernel_rfl)]
 rw [Lib.run_noEscape]
 simp only [Result.andThen]
 rw [Oper.upon_value]
 go_wp2
 rw [Lib.run_from_unsafe w ⟨b, 0, none⟩ Tryz.underlying136 Tryz.underlying92 hj hsh (by kernel_rfl)]
 simp only [Result.andThen]
 rw [Oper.upon_value]
 go_wp2
 go_end0
 exact ⟨rfl, rfl⟩
theorem c_copyCheck (x : V) : ACall Tryz.prog 80 [.ptr 1000 0] [(1000, .cells [.bptr 1000, x] (some 94))]
  (fun r H => r = .tup [] ∧ H = [(1000, .cells [.bptr 1000, x] (some 94))]) := by
 refine acall_step ⟨.tup [],[],[(1000, .cells [.bptr 1000, x] (some 94))]⟩ (by kernel_rfl) fun g w vals hH hl hv => ?_
 rw [arr1 hl]
 have h0 := (hv 0 _ rfl).ptr_inv
 rw [h0]
 obtain ⟨hn, cur, e, fz, h1, h2, ⟨h3, h4⟩, h5⟩ := hH.obj 1000 _ rfl
 have h4 : e = 94 := by simpa [tyOK, tyUV] using h4
 subst h4
 simp only [List.length_cons, List.length_nil, Nat.zero_add, Nat.reduceAdd] at h2
 have hc0 : w.cell? ⟨g.ρ 1000,0, none⟩ = some (cur.getD 0 undef) := by
  simp [World.cell?, h1, Array.getD_eq_getD_getElem?, h2]
 have hp0 := h5 0 _ rfl
 rcases hp0.bptr_inv with hv0 | hv0
 ·rw [hv0] at hc0
  refine (cc_fresh (g.ρ 1000) w hc0 (by simp [World.shape?, h1, h2]) ?_).mono ?_
  ·have := h3.at (i := 0) (by omega)
   simp only [World.frozen?, h1]
   exact this
  rintro en w' ⟨rfl, rfl⟩
  have hlt : g.ρ 1000 < w.heap.size := (Array.getElem?_eq_some_iff.1 h1).1
  have hother : ∀ b, b ≠ g.ρ 1000 → (w.setCell ⟨g.ρ 1000,0, none⟩ (.pointer (some ⟨g.ρ 1000,0, none⟩))).heap[b]? = w.heap[b]? := by
   intro b hb
   simp only [World.setCell, Array.getElem?_modify]
   rw [if_neg fun e => hb e.symm]
  have hkeep : Keep g.S w (w.setCell ⟨g.ρ 1000,0, none⟩ (.pointer (some ⟨g.ρ 1000,0, none⟩))) := Keep.upd hH (n := 1000) rfl hn hother
  refine ⟨_, g, rfl, StepOK.upd _ 1000 _ _ hH rfl hn rfl rfl rfl (by simp [World.setCell]) hother ?_, Fresh.upd _, .tup _ _ rfl fun i x hx => by simp at hx⟩
  refine ⟨hn, cur.setIfInBounds 0 (.pointer (some ⟨g.ρ 1000,0, none⟩)), _, fz, ?_, by simp [h2], ⟨by simpa using h3, rfl⟩, fun i c hc => ?_⟩
  ·simp [World.setCell, Array.getElem?_modify, h1]
  ·match i with
   | 0 => simp at hc; subst hc; simp [Array.getD_eq_getD_getElem?, h2]; exact .bself 1000
   | 1 =>
    simp at hc; subst hc
    have := (h5 1 x rfl).mono (g' := g) hkeep (fun _ h => h) fun id _ => Gh.agree.refl _ _
    have e1 : (cur.setIfInBounds 0 (.pointer (some ⟨g.ρ 1000,0, none⟩))).getD 1 undef = cur.getD 1 undef := by
     simp [Array.getD_eq_getD_getElem?, Array.getElem?_setIfInBounds]
    rw [e1]; exact this
   | i + 2 => simp at hc
 ·rw [hv0] at hc0
  refine (cc_used (g.ρ 1000) w hc0).mono ?_
  rintro en w' ⟨rfl, rfl⟩
  refine ⟨_, g, rfl, StepOK.upd _ 1000 _ _ hH rfl hn rfl rfl rfl rfl (fun _ _ => rfl) (hH.obj 1000 _ rfl), Fresh.upd _, .tup _ _ rfl fun i x hx => by simp at hx⟩
def m_strings_Builder_WriteString : MC :=
 (.seq (.reg [⟨.mv (.c (.int .i64 0)), (some 4), none⟩,
 ⟨.mv (.c .nili), (some 5), none⟩])
 (.seq (.reg [⟨.mv (.t 0), (some 6), none⟩,
 ⟨.call (.f 80) [(.t 6)] [1000] [], (some 7), none⟩])
 (.seq (.reg [⟨.mv (.t 0), (some 8), none⟩,
 ⟨.mv (.t 0), (some 9), none⟩,
 ⟨.nck (.t 9), (some 10), none⟩,
 ⟨.fad 1 (.t 10), (some 11), none⟩,
 ⟨.ld none (.t 11), (some 12), none⟩,
 ⟨.mv (.t 1), (some 13), none⟩,
 ⟨.app 1 1 (.t 12) (.t 13) (some 5), (some 14), none⟩,
 ⟨.nck (.t 8), (some 15), none⟩,
 ⟨.fad 1 (.t 15), (some 16), none⟩,
 ⟨.st 1 (.t 16) (.t 14), none, none⟩])
 (.seq (.note (.ren 14 1002) (.reg [⟨.mv (.t 1), (some 17), none⟩,
 ⟨.len true (.t 17), (some 18), none⟩,
 ⟨.mv (.t 18), (some 4), none⟩,
 ⟨.mv (.c .nili), (some 5), none⟩]))
 .ret))))
theorem ok_strings_Builder_WriteString : m_strings_Builder_WriteString.ok Tryz.prog Tryz.f53.ntmps (Tryz.f53.body.getD .skip) = true := by kernel_rfl
theorem c_WriteString {bs s : List UInt8} (hlen : bs.length + s.length ≤ 140737488355328) : ACall Tryz.prog 53 [.ptr 1000 0, .str s]
  [(1000, .cells [.bptr 1000, .osl 1001 1 0 bs.length] (some 94)), (1001, .arr 1 (bs.map byteV) (some 5))]
  (fun r H => r = .tup [.int .i64 s.length, .nili] ∧ H = [(1000, .cells [.bptr 1000, .osl 1002 1 0 (bs.length + s.length)] (some 94)), (1002, .arr 1 ((bs ++ s).map byteV) (some 5))]) := by
 refine acall_mach [1000,1002] [.t 4, .t 5] Tryz.func53 rfl (by kernel_rfl) ok_strings_Builder_WriteString (by kernel_rfl) rfl rfl fun M hf => ?_
 unfold m_strings_Builder_WriteString
 simp only [go_sem, Nat.reduceBEq, Nat.reduceAdd, Nat.reduceLeDiff, Nat.reduceSub]
 refine sCall_of (c_copyCheck _) rfl rfl ?_
 rw [M.lok_eq]
 simp only [go_sem, Nat.reduceBEq, Nat.reduceAdd, Nat.reduceLeDiff, Nat.reduceSub]
 exact ⟨by omega, by omega⟩
theorem bs_some (b g o cap : Nat) (p : Value) (cur : Array Value) (fz : Nat × Nat) (l : List UInt8) (w : World) (T : TypeId) (fb : Nat × Nat) (hbk : w.heap[b]? = some (.cells #[p, .slice (some ⟨g, o, none⟩) l.length cap] T fb)) (hg : w.heap[g]? = some (.cells cur 5 fz)) (h0 : l ≠ [])
  (hcap : l.length ≤ cap) (hn : o + l.length ≤ cur.size) (h63 : l.length ≤ 9223372036854775807) (hcell : ∀ j x, l[j]? = some x → w.cell? ((⟨g, o, none⟩ : Addr).add j) = some (.int .u8 x.toNat)) :
  Calls Tryz.prog 55 #[.pointer (some ⟨b, 0, none⟩)] w fun e w' => e = .returned (.string ⟨l.toArray⟩) ∧ w' = w.drew.freeze ⟨g, o, none⟩ l.length := by
 have hl0 : l.length ≠ 0 := by simpa using h0
 have c1 : w.drew.cell? ⟨b, 1, none⟩ = some (.slice (some ⟨g, o, none⟩) l.length cap) := by
  have : w.drew.heap[b]? = some (.cells #[p, .slice (some ⟨g, o, none⟩) l.length cap] T fb) := hbk
  simp [World.cell?, this]
 have hSD : (Builtin.unsafeSliceData_ #[31] 122 #[.slice (some ⟨g, o, none⟩) l.length cap]).run Tryz.prog w.drew = .ok (.pointer (some ⟨g, o, none⟩)) w.drew :=
  Lib.run_unsafeSliceData_row _ _ _ _ _ _ (by omega)
 have hUS : (Builtin.unsafeString_ #[122,3] 9 #[.pointer (some ⟨g, o, none⟩), .int .i64 l.length]).run Tryz.prog w.drew = .ok (.string ⟨l.toArray⟩) (w.drew.freeze ⟨g, o, none⟩ l.length) := by
  refine run_unsafeString_at w.drew 122 3 9 5 Tryz.underlying122 (by kernel_rfl) g o cur.size (by have hg' : w.drew.heap[g]? = some (.cells cur 5 fz) := hg; simp [World.shape?, hg']) l h0 hn h63 hcell
 clear hcell hn h63 h0
 have mixed : Tryz.prog.follows .mixedOrders = true := by kernel_rfl
 go_enter Tryz.func55, Tryz.ntmps55
 go_wp2
 go_region_o
 all_goals (go_wp2; go_ret; exact ⟨rfl, rfl⟩)
theorem bs_nil (b : Nat) (p : Value) (w : World) (T : TypeId) (fb : Nat × Nat) (hbk : w.heap[b]? = some (.cells #[p, .slice none 0 0] T fb)) :
  Calls Tryz.prog 55 #[.pointer (some ⟨b, 0, none⟩)] w fun e w' => e = .returned (.string ⟨#[]⟩) ∧ w' = w.drew := by
 have hUS : ∀ (W : World) (q : Option Addr), (Builtin.unsafeString_ #[122,3] 9 #[.pointer q, .int .i64 0]).run Tryz.prog W = .ok (.string .empty) W := fun W q => Lib.run_unsafeString_none W _ _ _ q
 have c1 : w.drew.cell? ⟨b, 1, none⟩ = some (.slice none 0 0) := by
  have : w.drew.heap[b]? = some (.cells #[p, .slice none 0 0] T fb) := hbk
  simp [World.cell?, this]
 have hSD : (Builtin.unsafeSliceData_ #[31] 122 #[.slice none 0 0]).run Tryz.prog w.drew = .ok (.pointer none) w.drew := rfl
 have mixed : Tryz.prog.follows .mixedOrders = true := by kernel_rfl
 go_enter Tryz.func55, Tryz.ntmps55
 go_wp2
 go_region_o
 all_goals (go_wp2; go_ret; exact ⟨rfl, rfl⟩)
theorem bs_room (b g o cap : Nat) (p : Value) (w : World) (T : TypeId) (fb : Nat × Nat) (hc0 : cap ≠ 0) (hbk : w.heap[b]? = some (.cells #[p, .slice (some ⟨g, o, none⟩) 0 cap] T fb)) :
  Calls Tryz.prog 55 #[.pointer (some ⟨b, 0, none⟩)] w fun e w' => e = .returned (.string ⟨#[]⟩) ∧ w' = w.drew := by
 have hUS : ∀ (W : World) (q : Option Addr), (Builtin.unsafeString_ #[122,3] 9 #[.pointer q, .int .i64 0]).run Tryz.prog W = .ok (.string .empty) W := fun W q => Lib.run_unsafeString_none W _ _ _ q
 have c1 : w.drew.cell? ⟨b, 1, none⟩ = some (.slice (some ⟨g, o, none⟩) 0 cap) := by
  have : w.drew.heap[b]? = some (.cells #[p, .slice (some ⟨g, o, none⟩) 0 cap] T fb) := hbk
  simp [World.cell?, this]
 have hSD : (Builtin.unsafeSliceData_ #[31] 122 #[.slice (some ⟨g, o, none⟩) 0 cap]).run Tryz.prog w.drew = .ok (.pointer (some ⟨g, o, none⟩)) w.drew :=
  Lib.run_unsafeSliceData_row _ _ _ _ _ _ hc0
 clear hc0
 have mixed : Tryz.prog.follows .mixedOrders = true := by kernel_rfl
 go_enter Tryz.func55, Tryz.ntmps55
 go_wp2
 go_region_o
 all_goals (go_wp2; go_ret; exact ⟨rfl, rfl⟩)
theorem bs_noroom (b g o : Nat) (p : Value) (w : World) (T : TypeId) (fb fz : Nat × Nat) (cur : Array Value) (e : TypeId) (hg : w.heap[g]? = some (.cells cur e fz)) (hbk : w.heap[b]? = some (.cells #[p, .slice (some ⟨g, o, none⟩) 0 0] T fb)) :
  Calls Tryz.prog 55 #[.pointer (some ⟨b, 0, none⟩)] w fun e w' => e = .returned (.string ⟨#[]⟩) ∧ w' = w.drew.alloc (.view ⟨g, o, none⟩ 5) := by
 have hUS : ∀ (W : World) (q : Option Addr), (Builtin.unsafeString_ #[122,3] 9 #[.pointer q, .int .i64 0]).run Tryz.prog W = .ok (.string .empty) W := fun W q => Lib.run_unsafeString_none W _ _ _ q
 have hlt : b < w.heap.size := (Array.getElem?_eq_some_iff.1 hbk).1
 have c1 : w.drew.cell? ⟨b, 1, none⟩ = some (.slice (some ⟨g, o, none⟩) 0 0) := by
  have : w.drew.heap[b]? = some (.cells #[p, .slice (some ⟨g, o, none⟩) 0 0] T fb) := hbk
  simp [World.cell?, this]
 have hSD : (Builtin.unsafeSliceData_ #[31] 122 #[.slice (some ⟨g, o, none⟩) 0 0]).run Tryz.prog w.drew = .ok (.pointer (some ⟨w.drew.heap.size, 0, none⟩)) (w.drew.alloc (.view ⟨g, o, none⟩ 5)) :=
  Lib.run_unsafeSliceData_zero w.drew _ _ 5 Tryz.underlying122 ⟨g, o, none⟩ 0 (e, cur.size) (by have hg' : w.drew.heap[g]? = some (.cells cur e fz) := hg; simp [World.shape?, hg'])
 have c2 : (w.drew.alloc (.view ⟨g, o, none⟩ 5)).cell? ⟨b, 1, none⟩ = some (.slice (some ⟨g, o, none⟩) 0 0) := by
  have : (w.drew.alloc (.view ⟨g, o, none⟩ 5)).heap[b]? = some (.cells #[p, .slice (some ⟨g, o, none⟩) 0 0] T fb) := by
   simp only [World.alloc, World.drew]
   rw [Array.getElem?_push, if_neg (by omega)]; exact hbk
  simp [World.cell?, this]
 have c0 : w.cell? ⟨b, 1, none⟩ = some (.slice (some ⟨g, o, none⟩) 0 0) := by simp [World.cell?, hbk]
 clear hbk hg
 have mixed : Tryz.prog.follows .mixedOrders = true := by kernel_rfl
 go_enter Tryz.func55, Tryz.ntmps55
 go_wp2
 go_region_o
 all_goals (go_wp2; go_ret; exact ⟨rfl, rfl⟩)
theorem c_String {p : V} {bs : List UInt8} : ACall Tryz.prog 55 [.ptr 1000 0]
  [(1000, .cells [p, .osl 1001 1 0 bs.length] (some 94)), (1001, .arr 1 (bs.map byteV) (some 5))] (fun r H => r = .str bs ∧ H = []) := by
 refine acall_step ⟨.str bs, [1000,1001],[]⟩ (by kernel_rfl) fun g w vals hH hl hv => ?_
 rw [arr1 hl, (hv 0 _ rfl).ptr_inv]
 obtain ⟨hn, cur, e, fz, h1, h2, ⟨h3, h4⟩, h5⟩ := hH.obj 1000 _ rfl
 simp only [List.length_cons, List.length_nil, Nat.zero_add, Nat.reduceAdd] at h2
 have hcur : cur = #[cur.getD 0 undef, cur.getD 1 undef] := arr2 h2
 have hv1 := h5 1 _ rfl
 rw [hcur] at h1
 have hrow := hH.obj 1001 _ rfl
 have hlen : ∀ rb : Nat, rb = rb → True := fun _ _ => trivial
 have fin : ∀ (en : Ending) (w' : World), (en = .returned (.string ⟨bs.toArray⟩) ∧ (w' = w.drew ∨ (∃ a t, w' = w.drew.alloc (.view a t)) ∨ ∃ o n, ¬ g.nil 1001 ∧ w' = w.drew.freeze ⟨g.ρ 1001, o, none⟩ n)) → bs.length ≤ 9223372036854775807 →
   ∃ v g', en = .returned v ∧ StepOK g [(1000, .cells [p, .osl 1001 1 0 bs.length] (some 94)), (1001, .arr 1 (bs.map byteV) (some 5))] w ⟨.str bs, [1000,1001],[]⟩ g' w' ∧
    Fresh [(1000, .cells [p, .osl 1001 1 0 bs.length] (some 94)), (1001, .arr 1 (bs.map byteV) (some 5))] g g' ⟨[],[(1000, .cells [p, .osl 1001 1 0 bs.length] (some 94)), (1001, .arr 1 (bs.map byteV) (some 5))]⟩ ⟨.str bs, [1000,1001],[]⟩ ∧ VR g' w' v (.str bs) := by
  rintro en w' ⟨rfl, hw⟩ hb
  refine ⟨_, g, rfl, ?_, Fresh.none _ _, str_vr bs hb⟩
  rcases hw with rfl | ⟨a, t, rfl⟩ | ⟨o, n, hnn, rfl⟩
  ·exact StepOK.grown _ _ hH.lt rfl rfl rfl (Nat.le_refl _) fun _ _ _ => rfl
  ·refine StepOK.grown _ _ hH.lt rfl rfl rfl (by show w.heap.size ≤ (w.heap.push _).size; simp) fun b hb _ => ?_
   simp only [World.alloc, World.drew]
   rw [Array.getElem?_push, if_neg (by omega)]
  ·unfold World.freeze
   split
   ·exact StepOK.grown _ _ hH.lt rfl rfl rfl (Nat.le_refl _) fun _ _ _ => rfl
   ·refine StepOK.grown _ _ hH.lt rfl rfl rfl (by show w.heap.size ≤ (w.heap.modify _ _).size; simp) fun b hb hne => ?_
    have := hne 1001 _ (by simp) rfl hnn
    simp only [World.drew, Array.getElem?_modify]
    rw [if_neg this]
 rcases hv1.osl_inv with ⟨hnil, ev, hn0⟩ | ⟨hnn, o', cc, ev, ho', hcap, hlc, hm⟩
 ·rw [ev] at h1
  have hb0 : bs = [] := List.eq_nil_of_length_eq_zero hn0
  subst hb0
  exact (bs_nil (g.ρ 1000) _ w e fz h1).mono fun en w' ⟨h6, h7⟩ => fin en w' ⟨h6, .inl h7⟩ (by simp)
 ·rcases hrow with ⟨hnil, _⟩ | ⟨_, hp, ⟨rc, re, rf, k1, k2, ⟨k3, k4⟩, k5⟩, k6, k7, k8⟩
  ·exact absurd hnil hnn
  have k4 : re = 5 := by simpa [tyOK, tyUV] using k4
  subst k4
  rw [ev] at h1
  by_cases hb0 : bs = []
  ·subst hb0
   by_cases hc0 : cc = 0
   ·subst hc0
    exact (bs_noroom (g.ρ 1000) (g.ρ 1001) o' _ w e fz rf rc _ k1 h1).mono fun en w' ⟨h6, h7⟩ => fin en w' ⟨h6, .inr (.inl ⟨_, _, h7⟩)⟩ (by simp)
   ·exact (bs_room (g.ρ 1000) (g.ρ 1001) o' cc _ w e fz hc0 h1).mono fun en w' ⟨h6, h7⟩ => fin en w' ⟨h6, .inl h7⟩ (by simp)
  ·have hbl : bs.length ≠ 0 := by simpa using hb0
   have ho : o' = g.base 1001 := by
    rcases ho' with h | h
    ·omega
    ·simpa using h
   have h63 : bs.length ≤ 9223372036854775807 := maxLen_le (by omega)
   refine (bs_some (g.ρ 1000) (g.ρ 1001) o' cc _ rc rf bs w e fz h1 k1 hb0 hlc (by simp at k6; rw [k2, ho]; omega) h63 ?_).mono fun en w' ⟨h6, h7⟩ => fin en w' ⟨h6, .inr (.inr ⟨_, _, hnn, h7⟩)⟩ h63
   intro j x hx
   have hrd := k5 j 0 (byteV x) (byteV x) (by simp [hx]) rfl
   simp only [Nat.mul_one, Nat.add_zero] at hrd
   have hlt : g.base 1001 + j < rc.size := by
    have := (List.getElem?_eq_some_iff.1 hx).1
    simp at k6; rw [k2]; omega
   have hc : rc[g.base 1001 + j]? = some (.int .u8 x.toNat) := by
    have h8 : rc.getD (g.base 1001 + j) undef = .int .u8 x.toNat := by
     generalize rc.getD (g.base 1001 + j) undef = u at hrd
     cases hrd; rfl
    rw [← h8]; simp [Array.getD_eq_getD_getElem?, hlt]
   rw [Addr.add_lit]
   simp only [World.cell?, k1, ho, hc]
   rfl
theorem W_4k {bs s y : Str} (hy : bws bs s = some y) : ACall Tryz.prog 53 [.ptr 1000 0, .str s] [(1000, .cells [.bptr 1000, .osl 1001 1 0 bs.length] (some 94)), (1001, .arr 1 (bs.map byteV) (some 5))]
  (fun r H => r = .tup [.int .i64 s.length, .nili] ∧ H = [(1000, .cells [.bptr 1000, .osl 1002 1 0 y.length] (some 94)), (1002, .arr 1 (y.map byteV) (some 5))]) := by
 obtain ⟨h, rfl⟩ := bws_inv hy
 rw [List.length_append]
 exact c_WriteString h
theorem W_72 {bs y : Str} (hy : bstr bs = some y) : ACall Tryz.prog 55 [.ptr 1000 0] [(1000, .cells [.bptr 1000, .osl 1001 1 0 bs.length] (some 94)), (1001, .arr 1 (bs.map byteV) (some 5))] (fun r H => r = .str y ∧ H = []) := by
 cases hy
 exact c_String
theorem W_76 {s y : List UInt8} {n : Int} (hy : growF s n = some y) : ACall Tryz.prog 83 [.nils, .int .i64 n] [] (fun r H' => r = .osl 1900 1 0 y.length ∧ H' = [(1900, .arr 1 (y.map byteV))]) := by
 obtain ⟨rfl, m, rfl, h0, hm⟩ := growF_inv hy
 refine acall_growB (te := 5) (by kernel_rfl) (fun n w h0 hn => ?_) m h0 hm
 obtain ⟨i0, hi0, hj⟩ := Option.map_eq_some_iff.1 (show (Tryz.prog.info? 5).map (fun i => (i.size, i.bytes, i.zero)) = some (1,1, some (Value.int .u8 0)) by kernel_rfl)
 simp only [Prod.mk.injEq] at hj
 obtain ⟨j1, j2, j3⟩ := hj
 have h := Any8.slices_Grow_grow Tryz.layGrow i0 (Value.int .u8 0) hi0 j3 (by omega) none 0 0 n [] w (Nat.le_refl _) (by omega) (by rw [j2]; omega) (by omega) (by simp) (fun _ => rfl) (fun a h => by cases h)
 have hG := grownCap_ge w (0 + n) 0 5
 have hGm := grownCap_le_maxLen w (0 + n) 0 5 (by unfold maxLen; omega)
 refine Calls.mono h fun e w' he => ?_
 obtain ⟨rfl, rfl⟩ := he
 refine ⟨_, _, rfl, rfl, ?_, hGm⟩
 have hz : ∀ q, (Builtin.zeroCells (Value.int .u8 0).cells q).size = q := fun q => by simp [Builtin.zeroCells, Value.cells]
 simp only [Array.size_append, hz]
 change 0 + (0 + n - 0) + (grownCap w (0 + n) 0 5 - (0 + n)) = grownCap w (0 + n) 0 5
 omega
end Go.Ab
