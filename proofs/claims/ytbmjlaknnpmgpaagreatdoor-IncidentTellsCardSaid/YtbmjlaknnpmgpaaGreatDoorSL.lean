/- What the functions of this seat that lie on the laws' road compute (part SL), each for every input. By AI agents. -/
import Derived.Test.YtbmjlaknnpmgpaaGreatDoorProg
import Derived.KernelRfl
import Derived.Test.YtbmjlaknnpmgpaaGreatDoorAbMach
import Derived.Shelf.Strings.Builder1
import Derived.Shelf.Strings.Builder2
import Derived.Shelf.Strings.OnBuilder
import Derived.Shelf.Small.Bits
import Derived.Shelf.Small.Wraps
import Derived.Shelf.Strings.BuilderF
import Derived.Shelf.Strings.BuilderK
import Derived.Shelf.Utf8.RuneCount
import Derived.Shelf.Strings.Builder2Cap
import Derived.Shelf.Strconv.Atoi
import Derived.Shelf.Strconv.Itoa0
import Derived.Shelf.Strconv.Itoa1
import Derived.Shelf.LaysM
import Derived.Shelf.Strconv.Itoa2
import Derived.Shelf.Strconv.Itoa3
import Derived.Shelf.Strconv.AtoiErrFast
import Derived.Shelf.Strconv.ParseIntEmpty
import Derived.Shelf.Strconv.AtoiFail
import Derived.Shelf.Strconv.Clone
import Derived.Shelf.Strconv.SyntaxError
import Derived.Shelf.LaysC
import Derived.Shelf.Strconv.ToError
import Derived.Shelf.Strconv.Lower
import Derived.Shelf.Strconv.ParseUint10
import Derived.Shelf.Strconv.ParseUint10Empty
import Derived.Shelf.Strconv.ParseUint10Any
import Derived.Shelf.Strconv.ParseInt10
import Derived.Shelf.Strconv.AtoiLong
import Derived.Shelf.Strconv.AtoiInnerAll
import Derived.Shelf.Strconv.RangeError
import Derived.Shelf.Strconv.ToErrorRange
import Derived.Shelf.Strconv.AtoiAll
import Derived.Shelf.Strconv.ErrVarAll
import Derived.Shelf.Strconv.ParseUintEmpty
import Derived.Ground.MpProg
import Derived.Shelf.Pu.ParseUintPublic10
import Derived.Shelf.Pu.ErrVarParseUint
import Derived.Shelf.Strings.Search1
import Derived.Shelf.Strings.Search2
import Derived.Shelf.Strings.Search3
import Derived.Shelf.Strings.Count
import Derived.Shelf.Strings.Shaped
import Derived.Shelf.Sort.Plain
import Derived.Shelf.Strings.Split
import Derived.Shelf.Strings.SplitShaped
import Derived.Shelf.Unicode.Decode
import Derived.Shelf.Strings.RuneCount
import Derived.Shelf.Strings.Explode
import Derived.Shelf.Unicode.DecodeSlow
import Derived.Shelf.Unicode.DecodeAny
import Derived.Shelf.Strings.BuilderCap
import Derived.Shelf.Slices.Turned
import Derived.Ground.Names2Prog
import Derived.Shelf.Slices.CompactI
import Derived.Shelf.Slices.SearchI
import Derived.Shelf.Slices.Cells
import Derived.Shelf.Slices.In.SortNone
import Derived.Ground.SlgnProg
import Derived.Shelf.SlicesE.Compact
import Derived.Ground.SlgfProg
import Derived.Shelf.SlicesE.IndexFunc
import Derived.Shelf.Pu.Lays
import Derived.Ground.NamesProg
import Derived.Deep.LoopGhost
import Derived.Lib.ParseIntBCases
import Derived.LaidLaws
import Derived.Lib.AppendIntMem
import Derived.WalkKit
import Derived.BigCall
import Derived.BigGuard
set_option linter.all false
set_option linter.all false
namespace Go.Proofs
open Go.Shelf
def Tryz.lays283_ren:Go.Shelf.Ren:=⟨fun|283=>130|n=>n,fun|3=>3|9=>9|4=>4|n=>n,fun|n=>n⟩
theorem Tryz.lays283:Go.Proofs.Lays.n283 Tryz.prog Tryz.lays283_ren:={
 mixed:=by kernel_rfl
 f283:=Tryz.func130.trans (congrArg some (by kernel_rfl))
 t3:=Tryz.underlying3
 a3:=Tryz.isAgg3
 z3:=Tryz.sizeOf3
 v3:=Tryz.zeroValue3
 t4:=Tryz.underlying4
 a4:=Tryz.isAgg4
 z4:=Tryz.sizeOf4
 v4:=Tryz.zeroValue4
 t9:=Tryz.underlying9
 a9:=Tryz.isAgg9
 z9:=Tryz.sizeOf9
 v9:=Tryz.zeroValue9 }
open Go.Lib in
theorem Tryz.internal_strconv_small (i:Nat) (h:i<100) (w:World) :
  Calls Tryz.prog 130 #[.int .i64 i] w fun e w'=>e=.returned (.string ⟨(Lib.decDigits i).toArray⟩)∧w'=w:=Any.internal_strconv_small Tryz.lays283 i h w
def Tryz.laysM284_ren:Go.Shelf.Ren:=⟨fun|284=>131|129=>185|317=>184|318=>186|n=>n,fun|53=>23|3=>3|212=>254|0=>0|4=>4|46=>222|5=>5|9=>9|n=>n,fun|17=>0|n=>n⟩
theorem Tryz.laysM284:Go.Proofs.LaysM.n284 Tryz.prog Tryz.laysM284_ren:={
 mixed:=by kernel_rfl
 f129:=Tryz.func185.trans (congrArg some (by kernel_rfl))
 f284:=Tryz.func131.trans (congrArg some (by kernel_rfl))
 f317:=Tryz.func184.trans (congrArg some (by kernel_rfl))
 f318:=Tryz.func186.trans (congrArg some (by kernel_rfl))
 t0:=Tryz.underlying0
 a0:=Tryz.isAgg0
 z0:=Tryz.sizeOf0
 v0:=Tryz.zeroValue0
 t3:=Tryz.underlying3
 a3:=Tryz.isAgg3
 z3:=Tryz.sizeOf3
 v3:=Tryz.zeroValue3
 t4:=Tryz.underlying4
 a4:=Tryz.isAgg4
 z4:=Tryz.sizeOf4
 v4:=Tryz.zeroValue4
 t5:=Tryz.underlying5
 a5:=Tryz.isAgg5
 z5:=Tryz.sizeOf5
 v5:=Tryz.zeroValue5
 t9:=Tryz.underlying9
 a9:=Tryz.isAgg9
 z9:=Tryz.sizeOf9
 v9:=Tryz.zeroValue9
 t46:=Tryz.underlying222
 a46:=Tryz.isAgg222
 z46:=Tryz.sizeOf222
 v46:=Tryz.zeroValue222
 t53:=Tryz.underlying23
 a53:=Tryz.isAgg23
 z53:=Tryz.sizeOf23
 v53:=Tryz.zeroValue23
 t212:=Tryz.underlying254
 a212:=Tryz.isAgg254
 z212:=Tryz.sizeOf254
 v212:=Tryz.zeroValue254
 g17:=by kernel_rfl
 i0:=by kernel_rfl
 i3:=by kernel_rfl
 i4:=by kernel_rfl
 i5:=by kernel_rfl
 i9:=by kernel_rfl
 i46:=by kernel_rfl
 i53:=by kernel_rfl
 i212:=by kernel_rfl
 m17:=by kernel_rfl }
open Go.Lib in
theorem Tryz.internal_strconv_numDigits (u:Nat) (h1:1≤u) (h2:u<18446744073709551616) (w:World) (htab:Lib.TabIs Tryz.prog w "internal/strconv.uint64pow10" .u64 Lib.pow10Tab) :
  Calls Tryz.prog 131 #[.int .u64 u] w fun e w'=>e=.returned (.int .i64 (Lib.nDigits u))∧w'=w:=Any.internal_strconv_numDigits Tryz.laysM284 u h1 h2 w htab
def Tryz.lays285_ren:Go.Shelf.Ren:=⟨fun|285=>132|n=>n,fun|37=>174|53=>23|3=>3|4=>4|51=>255|9=>9|5=>5|0=>0|n=>n,fun|n=>n⟩
theorem Tryz.lays285:Go.Proofs.Lays.n285 Tryz.prog Tryz.lays285_ren:={
 mixed:=by kernel_rfl
 f285:=Tryz.func132.trans (congrArg some (by kernel_rfl))
 t0:=Tryz.underlying0
 a0:=Tryz.isAgg0
 z0:=Tryz.sizeOf0
 v0:=Tryz.zeroValue0
 t3:=Tryz.underlying3
 a3:=Tryz.isAgg3
 z3:=Tryz.sizeOf3
 v3:=Tryz.zeroValue3
 t4:=Tryz.underlying4
 a4:=Tryz.isAgg4
 z4:=Tryz.sizeOf4
 v4:=Tryz.zeroValue4
 t5:=Tryz.underlying5
 a5:=Tryz.isAgg5
 z5:=Tryz.sizeOf5
 v5:=Tryz.zeroValue5
 t9:=Tryz.underlying9
 a9:=Tryz.isAgg9
 z9:=Tryz.sizeOf9
 v9:=Tryz.zeroValue9
 t37:=Tryz.underlying174
 a37:=Tryz.isAgg174
 z37:=Tryz.sizeOf174
 v37:=Tryz.zeroValue174
 t51:=Tryz.underlying255
 a51:=Tryz.isAgg255
 z51:=Tryz.sizeOf255
 v51:=Tryz.zeroValue255
 t53:=Tryz.underlying23
 a53:=Tryz.isAgg23
 z53:=Tryz.sizeOf23
 v53:=Tryz.zeroValue23 }
open Go.RowKit Go.Sort Go.Lib in
theorem Tryz.internal_strconv_formatBase10 (blk off cap:Nat) (u:Nat) (d:Array UInt8) (w:World) (hH:Holds (fun (b:UInt8)=>Value.int .u8 (b.toNat:Int)) w blk off d) (hu:u<10^d.size) (hu64:u<18446744073709551616) (hsz:d.size<4611686018427387904) :
  Calls Tryz.prog 132 #[.slice (some ⟨blk,off,none⟩) d.size cap,.int .u64 u] w fun e w' =>
   e=.returned (.tuple #[])∧∃(n v':Nat) (dk:Array UInt8),w'=(putRow (fun (b:UInt8)=>Value.int .u8 (b.toNat:Int)) w blk off dk).drewN n∧FmtInv d.size u 0 v' dk:=Any.internal_strconv_formatBase10 Tryz.lays285 blk off cap u d w hH hu hu64 hsz
def Tryz.laysM171_ren:Go.Shelf.Ren:=⟨fun|171=>41|243=>78|246=>134|283=>130|284=>131|285=>132|286=>133|129=>185|317=>184|318=>186|319=>187|320=>188|337=>219|338=>220|n=>n,fun|3=>3|9=>9|2=>2|4=>4|171=>211|0=>0|53=>23|37=>174|5=>5|173=>214|212=>254|51=>255|20=>20|213=>256|46=>222|232=>299|233=>300|n=>n,fun|17=>0|18=>5|19=>6|n=>n⟩
theorem Tryz.laysM171:Go.Proofs.LaysM.n171 Tryz.prog Tryz.laysM171_ren:={
 mixed:=by kernel_rfl
 f129:=Tryz.func185.trans (congrArg some (by kernel_rfl))
 f171:=Tryz.func41.trans (congrArg some (by kernel_rfl))
 f243:=Tryz.func78.trans (congrArg some (by kernel_rfl))
 f246:=Tryz.func134.trans (congrArg some (by kernel_rfl))
 f283:=Tryz.func130.trans (congrArg some (by kernel_rfl))
 f284:=Tryz.func131.trans (congrArg some (by kernel_rfl))
 f285:=Tryz.func132.trans (congrArg some (by kernel_rfl))
 f286:=Tryz.func133.trans (congrArg some (by kernel_rfl))
 f317:=Tryz.func184.trans (congrArg some (by kernel_rfl))
 f318:=Tryz.func186.trans (congrArg some (by kernel_rfl))
 f319:=Tryz.func187.trans (congrArg some (by kernel_rfl))
 f320:=Tryz.func188.trans (congrArg some (by kernel_rfl))
 f337:=Tryz.func219.trans (congrArg some (by kernel_rfl))
 f338:=Tryz.func220.trans (congrArg some (by kernel_rfl))
 t0:=Tryz.underlying0
 a0:=Tryz.isAgg0
 z0:=Tryz.sizeOf0
 v0:=Tryz.zeroValue0
 t2:=Tryz.underlying2
 a2:=Tryz.isAgg2
 z2:=Tryz.sizeOf2
 v2:=Tryz.zeroValue2
 t3:=Tryz.underlying3
 a3:=Tryz.isAgg3
 z3:=Tryz.sizeOf3
 v3:=Tryz.zeroValue3
 t4:=Tryz.underlying4
 a4:=Tryz.isAgg4
 z4:=Tryz.sizeOf4
 v4:=Tryz.zeroValue4
 t5:=Tryz.underlying5
 a5:=Tryz.isAgg5
 z5:=Tryz.sizeOf5
 v5:=Tryz.zeroValue5
 t9:=Tryz.underlying9
 a9:=Tryz.isAgg9
 z9:=Tryz.sizeOf9
 v9:=Tryz.zeroValue9
 t20:=Tryz.underlying20
 a20:=Tryz.isAgg20
 z20:=Tryz.sizeOf20
 v20:=Tryz.zeroValue20
 t37:=Tryz.underlying174
 a37:=Tryz.isAgg174
 z37:=Tryz.sizeOf174
 v37:=Tryz.zeroValue174
 t46:=Tryz.underlying222
 a46:=Tryz.isAgg222
 z46:=Tryz.sizeOf222
 v46:=Tryz.zeroValue222
 t51:=Tryz.underlying255
 a51:=Tryz.isAgg255
 z51:=Tryz.sizeOf255
 v51:=Tryz.zeroValue255
 t53:=Tryz.underlying23
 a53:=Tryz.isAgg23
 z53:=Tryz.sizeOf23
 v53:=Tryz.zeroValue23
 t171:=Tryz.underlying211
 a171:=Tryz.isAgg211
 z171:=Tryz.sizeOf211
 v171:=Tryz.zeroValue211
 t173:=Tryz.underlying214
 a173:=Tryz.isAgg214
 z173:=Tryz.sizeOf214
 v173:=Tryz.zeroValue214
 t212:=Tryz.underlying254
 a212:=Tryz.isAgg254
 z212:=Tryz.sizeOf254
 v212:=Tryz.zeroValue254
 t213:=Tryz.underlying256
 a213:=Tryz.isAgg256
 z213:=Tryz.sizeOf256
 t232:=Tryz.underlying299
 a232:=Tryz.isAgg299
 z232:=Tryz.sizeOf299
 v232:=Tryz.zeroValue299
 t233:=Tryz.underlying300
 a233:=Tryz.isAgg300
 z233:=Tryz.sizeOf300
 v233:=Tryz.zeroValue300
 g17:=by kernel_rfl
 g18:=by kernel_rfl
 g19:=by kernel_rfl
 i0:=by kernel_rfl
 i2:=by kernel_rfl
 i3:=by kernel_rfl
 i4:=by kernel_rfl
 i5:=by kernel_rfl
 i9:=by kernel_rfl
 i20:=by kernel_rfl
 i37:=by kernel_rfl
 i46:=by kernel_rfl
 i51:=by kernel_rfl
 i53:=by kernel_rfl
 i171:=by kernel_rfl
 i173:=by kernel_rfl
 i212:=by kernel_rfl
 i232:=by kernel_rfl
 i233:=by kernel_rfl
 m17:=by kernel_rfl
 m18:=by kernel_rfl
 m19:=by kernel_rfl }
open Go.RowKit Go.Sort Go.Lib in
theorem Tryz.strconv_Itoa (n:Int) (h0:-9223372036854775808≤n) (h1:n≤9223372036854775807) (w:World) (htab:Lib.TabIs Tryz.prog w "internal/strconv.uint64pow10" .u64 Lib.pow10Tab) :
  Calls Tryz.prog 41 #[.int .i64 n] w fun e w'=>e=.returned (.string ⟨(Lib.itoa n).toArray⟩)∧∃k os,w'=grow (w.drewN k) os:=Any.strconv_Itoa Tryz.laysM171 n h0 h1 w htab
def Tryz.laysC172_ren:Go.Shelf.Ren:=⟨fun|172=>47|244=>85|245=>84|247=>146|279=>142|280=>143|281=>144|282=>145|287=>83|316=>195|171=>41|205=>196|321=>140|322=>141|243=>78|246=>134|283=>130|284=>131|285=>132|286=>133|129=>185|317=>184|318=>186|319=>187|320=>188|337=>219|338=>220|n=>n,fun|9=>9|3=>3|75=>123|76=>128|4=>4|5=>5|167=>220|37=>174|0=>0|85=>226|2=>2|168=>223|53=>23|175=>124|46=>222|210=>267|127=>217|145=>289|143=>287|21=>21|171=>211|173=>214|212=>254|51=>255|20=>20|213=>256|232=>299|233=>300|80=>178|n=>n,fun|15=>1|16=>2|17=>0|18=>5|19=>6|n=>n⟩
theorem Tryz.laysC172:Go.Proofs.LaysC.n172 Tryz.prog Tryz.laysC172_ren:={
 mixed:=by kernel_rfl
 f129:=Tryz.func185.trans (congrArg some (by kernel_rfl))
 f171:=Tryz.func41.trans (congrArg some (by kernel_rfl))
 f172:=Tryz.func47.trans (congrArg some (by kernel_rfl))
 f205:=Tryz.func196.trans (congrArg some (by kernel_rfl))
 f243:=Tryz.func78.trans (congrArg some (by kernel_rfl))
 f244:=Tryz.func85.trans (congrArg some (by kernel_rfl))
 f245:=Tryz.func84.trans (congrArg some (by kernel_rfl))
 f246:=Tryz.func134.trans (congrArg some (by kernel_rfl))
 f247:=Tryz.func146.trans (congrArg some (by kernel_rfl))
 f279:=Tryz.func142.trans (congrArg some (by kernel_rfl))
 f280:=Tryz.func143.trans (congrArg some (by kernel_rfl))
 f281:=Tryz.func144.trans (congrArg some (by kernel_rfl))
 f282:=Tryz.func145.trans (congrArg some (by kernel_rfl))
 f283:=Tryz.func130.trans (congrArg some (by kernel_rfl))
 f284:=Tryz.func131.trans (congrArg some (by kernel_rfl))
 f285:=Tryz.func132.trans (congrArg some (by kernel_rfl))
 f286:=Tryz.func133.trans (congrArg some (by kernel_rfl))
 f287:=Tryz.func83.trans (congrArg some (by kernel_rfl))
 f316:=Tryz.func195.trans (congrArg some (by kernel_rfl))
 f317:=Tryz.func184.trans (congrArg some (by kernel_rfl))
 f318:=Tryz.func186.trans (congrArg some (by kernel_rfl))
 f319:=Tryz.func187.trans (congrArg some (by kernel_rfl))
 f320:=Tryz.func188.trans (congrArg some (by kernel_rfl))
 f321:=Tryz.func140.trans (congrArg some (by kernel_rfl))
 f322:=Tryz.func141.trans (congrArg some (by kernel_rfl))
 f337:=Tryz.func219.trans (congrArg some (by kernel_rfl))
 f338:=Tryz.func220.trans (congrArg some (by kernel_rfl))
 t0:=Tryz.underlying0
 a0:=Tryz.isAgg0
 z0:=Tryz.sizeOf0
 v0:=Tryz.zeroValue0
 t2:=Tryz.underlying2
 a2:=Tryz.isAgg2
 z2:=Tryz.sizeOf2
 v2:=Tryz.zeroValue2
 t3:=Tryz.underlying3
 a3:=Tryz.isAgg3
 z3:=Tryz.sizeOf3
 v3:=Tryz.zeroValue3
 t4:=Tryz.underlying4
 a4:=Tryz.isAgg4
 z4:=Tryz.sizeOf4
 v4:=Tryz.zeroValue4
 t5:=Tryz.underlying5
 a5:=Tryz.isAgg5
 z5:=Tryz.sizeOf5
 v5:=Tryz.zeroValue5
 t9:=Tryz.underlying9
 a9:=Tryz.isAgg9
 z9:=Tryz.sizeOf9
 v9:=Tryz.zeroValue9
 t20:=Tryz.underlying20
 a20:=Tryz.isAgg20
 z20:=Tryz.sizeOf20
 v20:=Tryz.zeroValue20
 t21:=Tryz.underlying21
 a21:=Tryz.isAgg21
 z21:=Tryz.sizeOf21
 v21:=Tryz.zeroValue21
 t37:=Tryz.underlying174
 a37:=Tryz.isAgg174
 z37:=Tryz.sizeOf174
 v37:=Tryz.zeroValue174
 t46:=Tryz.underlying222
 a46:=Tryz.isAgg222
 z46:=Tryz.sizeOf222
 v46:=Tryz.zeroValue222
 t51:=Tryz.underlying255
 a51:=Tryz.isAgg255
 z51:=Tryz.sizeOf255
 v51:=Tryz.zeroValue255
 t53:=Tryz.underlying23
 a53:=Tryz.isAgg23
 z53:=Tryz.sizeOf23
 v53:=Tryz.zeroValue23
 t75:=Tryz.underlying123
 a75:=Tryz.isAgg123
 z75:=Tryz.sizeOf123
 v75:=Tryz.zeroValue123
 t76:=Tryz.underlying128
 a76:=Tryz.isAgg128
 z76:=Tryz.sizeOf128
 v76:=Tryz.zeroValue128
 t85:=Tryz.underlying226
 a85:=Tryz.isAgg226
 z85:=Tryz.sizeOf226
 v85:=Tryz.zeroValue226
 t127:=Tryz.underlying217
 a127:=Tryz.isAgg217
 z127:=Tryz.sizeOf217
 v127:=Tryz.zeroValue217
 t143:=Tryz.underlying287
 a143:=Tryz.isAgg287
 z143:=Tryz.sizeOf287
 v143:=Tryz.zeroValue287
 t145:=Tryz.underlying289
 a145:=Tryz.isAgg289
 z145:=Tryz.sizeOf289
 v145:=Tryz.zeroValue289
 t167:=Tryz.underlying220
 a167:=Tryz.isAgg220
 z167:=Tryz.sizeOf220
 v167:=Tryz.zeroValue220
 t168:=Tryz.underlying223
 a168:=Tryz.isAgg223
 z168:=Tryz.sizeOf223
 v168:=Tryz.zeroValue223
 t171:=Tryz.underlying211
 a171:=Tryz.isAgg211
 z171:=Tryz.sizeOf211
 v171:=Tryz.zeroValue211
 t173:=Tryz.underlying214
 a173:=Tryz.isAgg214
 z173:=Tryz.sizeOf214
 v173:=Tryz.zeroValue214
 t175:=Tryz.underlying124
 a175:=Tryz.isAgg124
 z175:=Tryz.sizeOf124
 v175:=Tryz.zeroValue124
 t210:=Tryz.underlying267
 a210:=Tryz.isAgg267
 z210:=Tryz.sizeOf267
 v210:=Tryz.zeroValue267
 t212:=Tryz.underlying254
 a212:=Tryz.isAgg254
 z212:=Tryz.sizeOf254
 v212:=Tryz.zeroValue254
 t213:=Tryz.underlying256
 a213:=Tryz.isAgg256
 z213:=Tryz.sizeOf256
 t232:=Tryz.underlying299
 a232:=Tryz.isAgg299
 z232:=Tryz.sizeOf299
 v232:=Tryz.zeroValue299
 t233:=Tryz.underlying300
 a233:=Tryz.isAgg300
 z233:=Tryz.sizeOf300
 v233:=Tryz.zeroValue300
 g15:=by kernel_rfl
 g16:=by kernel_rfl
 g17:=by kernel_rfl
 g18:=by kernel_rfl
 g19:=by kernel_rfl
 t80:=Tryz.underlying178
 a80:=Tryz.isAgg178
 z80:=Tryz.sizeOf178
 v80:=Tryz.zeroValue178
 i0:=by kernel_rfl
 i2:=by kernel_rfl
 i3:=by kernel_rfl
 i4:=by kernel_rfl
 i5:=by kernel_rfl
 i9:=by kernel_rfl
 i20:=by kernel_rfl
 i21:=by kernel_rfl
 i37:=by kernel_rfl
 i46:=by kernel_rfl
 i51:=by kernel_rfl
 i53:=by kernel_rfl
 i75:=by kernel_rfl
 i76:=by kernel_rfl
 i80:=by kernel_rfl
 i85:=by kernel_rfl
 i127:=by kernel_rfl
 i143:=by kernel_rfl
 i145:=by kernel_rfl
 i167:=by kernel_rfl
 i168:=by kernel_rfl
 i171:=by kernel_rfl
 i173:=by kernel_rfl
 i175:=by kernel_rfl
 i210:=by kernel_rfl
 i212:=by kernel_rfl
 i232:=by kernel_rfl
 i233:=by kernel_rfl
 m15:=by kernel_rfl
 m16:=by kernel_rfl
 m17:=by kernel_rfl
 m18:=by kernel_rfl
 m19:=by kernel_rfl
 c0:=by kernel_rfl
 c2:=by kernel_rfl
 c3:=by kernel_rfl
 c4:=by kernel_rfl
 c5:=by kernel_rfl
 c9:=by kernel_rfl
 c20:=by kernel_rfl
 c21:=by kernel_rfl
 c37:=by kernel_rfl
 c46:=by kernel_rfl
 c51:=by kernel_rfl
 c53:=by kernel_rfl
 c75:=by kernel_rfl
 c76:=by kernel_rfl
 c80:=by kernel_rfl
 c85:=by kernel_rfl
 c127:=by kernel_rfl
 c143:=by kernel_rfl
 c145:=by kernel_rfl
 c167:=by kernel_rfl
 c168:=by kernel_rfl
 c171:=by kernel_rfl
 c173:=by kernel_rfl
 c175:=by kernel_rfl
 c210:=by kernel_rfl
 c212:=by kernel_rfl
 c213:=by kernel_rfl
 c232:=by kernel_rfl
 c233:=by kernel_rfl }
open Go.RowKit in
theorem Tryz.strconv_Atoi_ok (s:ByteArray) (hmax:s.size≤9223372036854775806) (v:Int) (h:Lib.atoiAll s.data.toList=.ok v) (w:World) :
  Calls Tryz.prog 47 #[.string s] w fun e w'=>e=.returned (.tuple #[.int .i64 v,.nilIface])∧(w'=w∨∃t,w'=Lib.bytesWorld w 5 t):=Any.strconv_Atoi_ok Tryz.laysC172 s hmax v h w
open Go.RowKit in
theorem Tryz.strconv_Atoi_syntax_var (s:ByteArray) (hlim:s.size≤281474976710656) (h1:∀v,Lib.atoiAll s.data.toList≠.ok v) (h2:Lib.atoiAll s.data.toList≠.range) (tp:TypeId) (p:Value) (w:World) (hvar:w.var? Tryz.prog "strconv.ErrSyntax"=some #[.iface tp p]) :
  Calls Tryz.prog 47 #[.string s] w fun e w'=>∃N,e=.returned (.tuple #[.int .i64 0,.iface 223 (.pointer (some ⟨N,0,none⟩))])∧w.heap.size≤N∧w'.heap[N]?=some (.cells #[.string ⟨#[65,116,111,105]⟩,.string s,.iface tp p] 267 (0,0))∧Below w.heap.size w w':=Any.strconv_Atoi_syntax_var Tryz.laysC172 s hlim (by cases e:Lib.atoiAll s.data.toList<;>simp_all) tp p w hvar
open Go.RowKit in
theorem Tryz.strconv_Atoi_range_var (s:ByteArray) (hlim:s.size≤281474976710656) (h:Lib.atoiAll s.data.toList=.range) (tp:TypeId) (p:Value) (w:World) (hvar:w.var? Tryz.prog "strconv.ErrRange"=some #[.iface tp p]) :
  Calls Tryz.prog 47 #[.string s] w fun e w'=>∃N,e=.returned (.tuple #[.int .i64 (Lib.atoiSat s.data.toList),.iface 223 (.pointer (some ⟨N,0,none⟩))])∧w.heap.size≤N∧w'.heap[N]?=some (.cells #[.string ⟨#[65,116,111,105]⟩,.string s,.iface tp p] 267 (0,0))∧Below w.heap.size w w':=Any.strconv_Atoi_range_var Tryz.laysC172 s hlim h tp p w hvar
def Tryz.lays189_ren:Go.Shelf.Ren:=⟨fun|189=>235|125=>251|257=>250|128=>271|129=>185|294=>262|295=>263|296=>264|297=>265|298=>266|299=>267|216=>268|300=>269|301=>270|328=>283|329=>284|330=>285|331=>286|332=>287|215=>288|343=>294|n=>n,fun|28=>22|3=>3|46=>222|0=>0|51=>255|53=>23|4=>4|183=>323|182=>322|131=>83|5=>5|9=>9|218=>339|222=>126|228=>350|229=>351|n=>n,fun|n=>n⟩
theorem Tryz.lays189:Go.Proofs.Lays.n189 Tryz.prog Tryz.lays189_ren:={
 mixed:=by kernel_rfl
 f125:=Tryz.func251.trans (congrArg some (by kernel_rfl))
 f128:=Tryz.func271.trans (congrArg some (by kernel_rfl))
 f129:=Tryz.func185.trans (congrArg some (by kernel_rfl))
 f189:=Tryz.func235.trans (congrArg some (by kernel_rfl))
 f215:=Tryz.func288.trans (congrArg some (by kernel_rfl))
 f216:=Tryz.func268.trans (congrArg some (by kernel_rfl))
 f257:=Tryz.func250.trans (congrArg some (by kernel_rfl))
 f294:=Tryz.func262.trans (congrArg some (by kernel_rfl))
 f295:=Tryz.func263.trans (congrArg some (by kernel_rfl))
 f296:=Tryz.func264.trans (congrArg some (by kernel_rfl))
 f297:=Tryz.func265.trans (congrArg some (by kernel_rfl))
 f298:=Tryz.func266.trans (congrArg some (by kernel_rfl))
 f299:=Tryz.func267.trans (congrArg some (by kernel_rfl))
 f300:=Tryz.func269.trans (congrArg some (by kernel_rfl))
 f301:=Tryz.func270.trans (congrArg some (by kernel_rfl))
 f328:=Tryz.func283.trans (congrArg some (by kernel_rfl))
 f329:=Tryz.func284.trans (congrArg some (by kernel_rfl))
 f330:=Tryz.func285.trans (congrArg some (by kernel_rfl))
 f331:=Tryz.func286.trans (congrArg some (by kernel_rfl))
 f332:=Tryz.func287.trans (congrArg some (by kernel_rfl))
 f343:=Tryz.func294.trans (congrArg some (by kernel_rfl))
 t0:=Tryz.underlying0
 a0:=Tryz.isAgg0
 z0:=Tryz.sizeOf0
 v0:=Tryz.zeroValue0
 t3:=Tryz.underlying3
 a3:=Tryz.isAgg3
 z3:=Tryz.sizeOf3
 v3:=Tryz.zeroValue3
 t4:=Tryz.underlying4
 a4:=Tryz.isAgg4
 z4:=Tryz.sizeOf4
 v4:=Tryz.zeroValue4
 t5:=Tryz.underlying5
 a5:=Tryz.isAgg5
 z5:=Tryz.sizeOf5
 v5:=Tryz.zeroValue5
 t9:=Tryz.underlying9
 a9:=Tryz.isAgg9
 z9:=Tryz.sizeOf9
 v9:=Tryz.zeroValue9
 t28:=Tryz.underlying22
 a28:=Tryz.isAgg22
 z28:=Tryz.sizeOf22
 v28:=Tryz.zeroValue22
 t46:=Tryz.underlying222
 a46:=Tryz.isAgg222
 z46:=Tryz.sizeOf222
 v46:=Tryz.zeroValue222
 t51:=Tryz.underlying255
 a51:=Tryz.isAgg255
 z51:=Tryz.sizeOf255
 v51:=Tryz.zeroValue255
 t53:=Tryz.underlying23
 a53:=Tryz.isAgg23
 z53:=Tryz.sizeOf23
 v53:=Tryz.zeroValue23
 t131:=Tryz.underlying83
 a131:=Tryz.isAgg83
 z131:=Tryz.sizeOf83
 v131:=Tryz.zeroValue83
 t182:=Tryz.underlying322
 a182:=Tryz.isAgg322
 z182:=Tryz.sizeOf322
 v182:=Tryz.zeroValue322
 t183:=Tryz.underlying323
 a183:=Tryz.isAgg323
 z183:=Tryz.sizeOf323
 v183:=Tryz.zeroValue323
 t218:=Tryz.underlying339
 a218:=Tryz.isAgg339
 z218:=Tryz.sizeOf339
 v218:=Tryz.zeroValue339
 t222:=Tryz.underlying126
 a222:=Tryz.isAgg126
 z222:=Tryz.sizeOf126
 v222:=Tryz.zeroValue126
 t228:=Tryz.underlying350
 a228:=Tryz.isAgg350
 z228:=Tryz.sizeOf350
 v228:=Tryz.zeroValue350
 t229:=Tryz.underlying351
 a229:=Tryz.isAgg351
 z229:=Tryz.sizeOf351
 v229:=Tryz.zeroValue351 }
open Go.Sort Go.RowKit in
theorem Tryz.slices_Sort_int (blk off cap:Nat) (zs:List Int) (w:World) (hH:Holds (Value.int .i64) w blk off zs.toArray) (hblk:blk<w.heap.size) (hsz:zs.length<4611686018427387904) :
  Calls Tryz.prog 235 #[.slice (some ⟨blk,off,none⟩) zs.length cap] w fun e w' =>
   e=.returned (.tuple #[])∧∃n os,w'=grow (putRow (Value.int .i64) (Sort.ahead w n) blk off (zs.mergeSort fun x y=>decide (x≤y)).toArray) os:=Any.slices_Sort_int Tryz.lays189 blk off cap zs w hH hblk hsz
def Tryz.laysNm220_ren:Go.Shelf.Ren:=⟨fun|20=>236|n=>n,fun|22=>22|3=>3|4=>4|0=>0|n=>n,fun|n=>n⟩
theorem Tryz.laysNm220:Go.Proofs.Lays2.n20 Tryz.prog Tryz.laysNm220_ren:={
 mixed:=by kernel_rfl
 f20:=Tryz.func236.trans (congrArg some (by kernel_rfl))
 t0:=Tryz.underlying0
 a0:=Tryz.isAgg0
 z0:=Tryz.sizeOf0
 v0:=Tryz.zeroValue0
 t3:=Tryz.underlying3
 a3:=Tryz.isAgg3
 z3:=Tryz.sizeOf3
 v3:=Tryz.zeroValue3
 t4:=Tryz.underlying4
 a4:=Tryz.isAgg4
 z4:=Tryz.sizeOf4
 v4:=Tryz.zeroValue4
 t22:=Tryz.underlying22
 a22:=Tryz.isAgg22
 z22:=Tryz.sizeOf22
 v22:=Tryz.zeroValue22
 i3:=by kernel_rfl }
open Go.RowKit Go.Lib Go.Sort in
theorem Tryz.slices_Compact_int_empty (a:Option Addr) (cap:Nat) (w:World) :
  Calls Tryz.prog 236 #[.slice a 0 cap] w fun e w'=>e=.returned (.slice a 0 cap)∧w'=w:=Any.slices_Compact_int_empty Tryz.laysNm220 a cap w
open Go.RowKit Go.Lib Go.Sort in
theorem Tryz.slices_Compact_int_cells (b off n c:Nat) (zs:List Int) (w:World) (hz:n≤zs.length) (hbig:n≤9223372036854775807) (hcap:n≤c) (hc:∀j,j<zs.length→w.cell? ⟨b,off+j,none⟩=some (.int .i64 (zs.getD j 0))) (hf:∀j,j<n→w.frozen? ⟨b,off+j,none⟩=false) :
  Calls Tryz.prog 236 #[.slice (some ⟨b,off,none⟩) n c] w fun e w'=>e=.returned (.slice (some ⟨b,off,none⟩) (Lib.compact (zs.take n)).length c)∧∃q,w'=(w.drewN q).setCells b off ((Lib.compact (zs.take n)++List.replicate (n - (Lib.compact (zs.take n)).length) 0).map (Value.int .i64)):=Any.slices_Compact_int_cells Tryz.laysNm220 b off n c zs w hz hbig hcap hc hf
open Go.RowKit Go.Sort in
theorem Tryz.slices_Sort_int_none (p:Option Addr) (cap:Nat) (w:World) :
  Calls Tryz.prog 235 #[.slice p 0 cap] w fun e w'=>e=.returned (.tuple #[])∧w'=w:=Any.slices_Sort_int_none Tryz.lays189 p cap w
def Tryz.layPu_ren:Go.Shelf.Ren:=⟨fun|14=>46|16=>83|17=>84|19=>140|20=>141|21=>142|22=>143|23=>144|24=>145|25=>195|27=>41|26=>196|28=>78|29=>134|30=>130|31=>131|32=>132|33=>133|35=>185|34=>184|36=>186|37=>187|38=>188|39=>219|40=>220|n=>n,fun|9=>9|3=>3|22=>23|24=>123|25=>124|4=>4|34=>220|5=>5|36=>222|37=>174|0=>0|39=>223|21=>21|44=>267|47=>217|50=>289|48=>287|2=>2|52=>211|55=>214|59=>254|60=>255|20=>20|61=>256|65=>299|66=>300|67=>178|n=>n,fun|0=>1|1=>2|2=>0|3=>5|4=>6|n=>n⟩
theorem Tryz.layPu:Go.Proofs.LaysPu.n14 Tryz.prog Tryz.layPu_ren:={
 mixed:=by kernel_rfl
 f14:=Tryz.func46.trans (congrArg some (by kernel_rfl))
 f16:=Tryz.func83.trans (congrArg some (by kernel_rfl))
 f17:=Tryz.func84.trans (congrArg some (by kernel_rfl))
 f19:=Tryz.func140.trans (congrArg some (by kernel_rfl))
 f20:=Tryz.func141.trans (congrArg some (by kernel_rfl))
 f21:=Tryz.func142.trans (congrArg some (by kernel_rfl))
 f22:=Tryz.func143.trans (congrArg some (by kernel_rfl))
 f23:=Tryz.func144.trans (congrArg some (by kernel_rfl))
 f24:=Tryz.func145.trans (congrArg some (by kernel_rfl))
 f25:=Tryz.func195.trans (congrArg some (by kernel_rfl))
 f26:=Tryz.func196.trans (congrArg some (by kernel_rfl))
 f27:=Tryz.func41.trans (congrArg some (by kernel_rfl))
 f28:=Tryz.func78.trans (congrArg some (by kernel_rfl))
 f29:=Tryz.func134.trans (congrArg some (by kernel_rfl))
 f30:=Tryz.func130.trans (congrArg some (by kernel_rfl))
 f31:=Tryz.func131.trans (congrArg some (by kernel_rfl))
 f32:=Tryz.func132.trans (congrArg some (by kernel_rfl))
 f33:=Tryz.func133.trans (congrArg some (by kernel_rfl))
 f34:=Tryz.func184.trans (congrArg some (by kernel_rfl))
 f35:=Tryz.func185.trans (congrArg some (by kernel_rfl))
 f36:=Tryz.func186.trans (congrArg some (by kernel_rfl))
 f37:=Tryz.func187.trans (congrArg some (by kernel_rfl))
 f38:=Tryz.func188.trans (congrArg some (by kernel_rfl))
 f39:=Tryz.func219.trans (congrArg some (by kernel_rfl))
 f40:=Tryz.func220.trans (congrArg some (by kernel_rfl))
 t0:=Tryz.underlying0
 a0:=Tryz.isAgg0
 z0:=Tryz.sizeOf0
 v0:=Tryz.zeroValue0
 i0:=by kernel_rfl
 t2:=Tryz.underlying2
 a2:=Tryz.isAgg2
 z2:=Tryz.sizeOf2
 v2:=Tryz.zeroValue2
 i2:=by kernel_rfl
 t3:=Tryz.underlying3
 a3:=Tryz.isAgg3
 z3:=Tryz.sizeOf3
 v3:=Tryz.zeroValue3
 i3:=by kernel_rfl
 t4:=Tryz.underlying4
 a4:=Tryz.isAgg4
 z4:=Tryz.sizeOf4
 v4:=Tryz.zeroValue4
 i4:=by kernel_rfl
 t5:=Tryz.underlying5
 a5:=Tryz.isAgg5
 z5:=Tryz.sizeOf5
 v5:=Tryz.zeroValue5
 i5:=by kernel_rfl
 t9:=Tryz.underlying9
 a9:=Tryz.isAgg9
 z9:=Tryz.sizeOf9
 v9:=Tryz.zeroValue9
 i9:=by kernel_rfl
 t20:=Tryz.underlying20
 a20:=Tryz.isAgg20
 z20:=Tryz.sizeOf20
 v20:=Tryz.zeroValue20
 i20:=by kernel_rfl
 t21:=Tryz.underlying21
 a21:=Tryz.isAgg21
 z21:=Tryz.sizeOf21
 v21:=Tryz.zeroValue21
 i21:=by kernel_rfl
 t22:=Tryz.underlying23
 a22:=Tryz.isAgg23
 z22:=Tryz.sizeOf23
 v22:=Tryz.zeroValue23
 i22:=by kernel_rfl
 t24:=Tryz.underlying123
 a24:=Tryz.isAgg123
 z24:=Tryz.sizeOf123
 v24:=Tryz.zeroValue123
 i24:=by kernel_rfl
 t25:=Tryz.underlying124
 a25:=Tryz.isAgg124
 z25:=Tryz.sizeOf124
 v25:=Tryz.zeroValue124
 i25:=by kernel_rfl
 t34:=Tryz.underlying220
 a34:=Tryz.isAgg220
 z34:=Tryz.sizeOf220
 v34:=Tryz.zeroValue220
 i34:=by kernel_rfl
 c34:=by kernel_rfl
 t36:=Tryz.underlying222
 a36:=Tryz.isAgg222
 z36:=Tryz.sizeOf222
 v36:=Tryz.zeroValue222
 i36:=by kernel_rfl
 t37:=Tryz.underlying174
 a37:=Tryz.isAgg174
 z37:=Tryz.sizeOf174
 v37:=Tryz.zeroValue174
 i37:=by kernel_rfl
 t39:=Tryz.underlying223
 a39:=Tryz.isAgg223
 z39:=Tryz.sizeOf223
 v39:=Tryz.zeroValue223
 i39:=by kernel_rfl
 t44:=Tryz.underlying267
 a44:=Tryz.isAgg267
 z44:=Tryz.sizeOf267
 v44:=Tryz.zeroValue267
 i44:=by kernel_rfl
 t47:=Tryz.underlying217
 a47:=Tryz.isAgg217
 z47:=Tryz.sizeOf217
 v47:=Tryz.zeroValue217
 i47:=by kernel_rfl
 t48:=Tryz.underlying287
 a48:=Tryz.isAgg287
 z48:=Tryz.sizeOf287
 v48:=Tryz.zeroValue287
 i48:=by kernel_rfl
 t50:=Tryz.underlying289
 a50:=Tryz.isAgg289
 z50:=Tryz.sizeOf289
 v50:=Tryz.zeroValue289
 i50:=by kernel_rfl
 t52:=Tryz.underlying211
 a52:=Tryz.isAgg211
 z52:=Tryz.sizeOf211
 v52:=Tryz.zeroValue211
 i52:=by kernel_rfl
 t55:=Tryz.underlying214
 a55:=Tryz.isAgg214
 z55:=Tryz.sizeOf214
 v55:=Tryz.zeroValue214
 i55:=by kernel_rfl
 t59:=Tryz.underlying254
 a59:=Tryz.isAgg254
 z59:=Tryz.sizeOf254
 v59:=Tryz.zeroValue254
 i59:=by kernel_rfl
 t60:=Tryz.underlying255
 a60:=Tryz.isAgg255
 z60:=Tryz.sizeOf255
 v60:=Tryz.zeroValue255
 i60:=by kernel_rfl
 t61:=Tryz.underlying256
 a61:=Tryz.isAgg256
 z61:=Tryz.sizeOf256
 t65:=Tryz.underlying299
 a65:=Tryz.isAgg299
 z65:=Tryz.sizeOf299
 v65:=Tryz.zeroValue299
 i65:=by kernel_rfl
 t66:=Tryz.underlying300
 a66:=Tryz.isAgg300
 z66:=Tryz.sizeOf300
 v66:=Tryz.zeroValue300
 i66:=by kernel_rfl
 t67:=Tryz.underlying178
 a67:=Tryz.isAgg178
 z67:=Tryz.sizeOf178
 v67:=Tryz.zeroValue178
 i67:=by kernel_rfl
 g0:=by kernel_rfl
 m0:=by kernel_rfl
 g1:=by kernel_rfl
 m1:=by kernel_rfl
 g2:=by kernel_rfl
 m2:=by kernel_rfl
 g3:=by kernel_rfl
 m3:=by kernel_rfl
 g4:=by kernel_rfl
 m4:=by kernel_rfl }
def Tryz.layJoin_ren:Go.Shelf.Ren:=⟨fun|156=>43|165=>79|166=>80|169=>81|240=>135|241=>136|276=>189|277=>190|n=>n,fun|31=>117|9=>9|3=>3|4=>4|0=>0|20=>20|72=>176|76=>128|70=>173|37=>174|75=>123|127=>217|164=>258|5=>5|80=>178|n=>n,fun|n=>n⟩
theorem Tryz.layJoin:Go.Proofs.Lays.n156 Tryz.prog Tryz.layJoin_ren:={
 mixed:=by kernel_rfl
 f156:=Tryz.func43.trans (congrArg some (by kernel_rfl))
 f165:=Tryz.func79.trans (congrArg some (by kernel_rfl))
 f166:=Tryz.func80.trans (congrArg some (by kernel_rfl))
 f169:=Tryz.func81.trans (congrArg some (by kernel_rfl))
 f240:=Tryz.func135.trans (congrArg some (by kernel_rfl))
 f241:=Tryz.func136.trans (congrArg some (by kernel_rfl))
 f276:=Tryz.func189.trans (congrArg some (by kernel_rfl))
 f277:=Tryz.func190.trans (congrArg some (by kernel_rfl))
 t0:=Tryz.underlying0
 a0:=Tryz.isAgg0
 z0:=Tryz.sizeOf0
 v0:=Tryz.zeroValue0
 t3:=Tryz.underlying3
 a3:=Tryz.isAgg3
 z3:=Tryz.sizeOf3
 v3:=Tryz.zeroValue3
 t4:=Tryz.underlying4
 a4:=Tryz.isAgg4
 z4:=Tryz.sizeOf4
 v4:=Tryz.zeroValue4
 t9:=Tryz.underlying9
 a9:=Tryz.isAgg9
 z9:=Tryz.sizeOf9
 v9:=Tryz.zeroValue9
 t20:=Tryz.underlying20
 a20:=Tryz.isAgg20
 z20:=Tryz.sizeOf20
 v20:=Tryz.zeroValue20
 t31:=Tryz.underlying117
 a31:=Tryz.isAgg117
 z31:=Tryz.sizeOf117
 v31:=Tryz.zeroValue117
 t37:=Tryz.underlying174
 a37:=Tryz.isAgg174
 z37:=Tryz.sizeOf174
 v37:=Tryz.zeroValue174
 t70:=Tryz.underlying173
 a70:=Tryz.isAgg173
 z70:=Tryz.sizeOf173
 v70:=Tryz.zeroValue173
 t72:=Tryz.underlying176
 a72:=Tryz.isAgg176
 z72:=Tryz.sizeOf176
 v72:=Tryz.zeroValue176
 t75:=Tryz.underlying123
 a75:=Tryz.isAgg123
 z75:=Tryz.sizeOf123
 v75:=Tryz.zeroValue123
 t76:=Tryz.underlying128
 a76:=Tryz.isAgg128
 z76:=Tryz.sizeOf128
 v76:=Tryz.zeroValue128
 t127:=Tryz.underlying217
 a127:=Tryz.isAgg217
 z127:=Tryz.sizeOf217
 v127:=Tryz.zeroValue217
 t164:=Tryz.underlying258
 a164:=Tryz.isAgg258
 z164:=Tryz.sizeOf258
 v164:=Tryz.zeroValue258 }
def Tryz.laySpl_ren:Go.Shelf.Ren:=⟨fun|146=>45|221=>82|268=>137|138=>138|143=>139|195=>191|197=>192|218=>193|219=>194|260=>221|217=>222|225=>223|224=>224|267=>225|266=>242|314=>243|n=>n,fun|9=>9|31=>117|3=>3|4=>4|0=>0|105=>262|21=>21|5=>5|46=>222|119=>301|139=>304|138=>303|146=>305|51=>255|n=>n,fun|1=>4|3=>7|4=>8|n=>n⟩
theorem Tryz.laySpl:Go.Proofs.Lays.n146 Tryz.prog Tryz.laySpl_ren:={
 mixed:=by kernel_rfl
 f138:=Tryz.func138.trans (congrArg some (by kernel_rfl))
 f143:=Tryz.func139.trans (congrArg some (by kernel_rfl))
 f146:=Tryz.func45.trans (congrArg some (by kernel_rfl))
 f195:=Tryz.func191.trans (congrArg some (by kernel_rfl))
 f197:=Tryz.func192.trans (congrArg some (by kernel_rfl))
 f217:=Tryz.func222.trans (congrArg some (by kernel_rfl))
 f218:=Tryz.func193.trans (congrArg some (by kernel_rfl))
 f219:=Tryz.func194.trans (congrArg some (by kernel_rfl))
 f221:=Tryz.func82.trans (congrArg some (by kernel_rfl))
 f224:=Tryz.func224.trans (congrArg some (by kernel_rfl))
 f225:=Tryz.func223.trans (congrArg some (by kernel_rfl))
 f260:=Tryz.func221.trans (congrArg some (by kernel_rfl))
 f266:=Tryz.func242.trans (congrArg some (by kernel_rfl))
 f267:=Tryz.func225.trans (congrArg some (by kernel_rfl))
 f268:=Tryz.func137.trans (congrArg some (by kernel_rfl))
 f314:=Tryz.func243.trans (congrArg some (by kernel_rfl))
 t0:=Tryz.underlying0
 a0:=Tryz.isAgg0
 z0:=Tryz.sizeOf0
 v0:=Tryz.zeroValue0
 t3:=Tryz.underlying3
 a3:=Tryz.isAgg3
 z3:=Tryz.sizeOf3
 v3:=Tryz.zeroValue3
 t4:=Tryz.underlying4
 a4:=Tryz.isAgg4
 z4:=Tryz.sizeOf4
 v4:=Tryz.zeroValue4
 t5:=Tryz.underlying5
 a5:=Tryz.isAgg5
 z5:=Tryz.sizeOf5
 v5:=Tryz.zeroValue5
 t9:=Tryz.underlying9
 a9:=Tryz.isAgg9
 z9:=Tryz.sizeOf9
 v9:=Tryz.zeroValue9
 t21:=Tryz.underlying21
 a21:=Tryz.isAgg21
 z21:=Tryz.sizeOf21
 v21:=Tryz.zeroValue21
 t31:=Tryz.underlying117
 a31:=Tryz.isAgg117
 z31:=Tryz.sizeOf117
 v31:=Tryz.zeroValue117
 t46:=Tryz.underlying222
 a46:=Tryz.isAgg222
 z46:=Tryz.sizeOf222
 v46:=Tryz.zeroValue222
 t51:=Tryz.underlying255
 a51:=Tryz.isAgg255
 z51:=Tryz.sizeOf255
 v51:=Tryz.zeroValue255
 t105:=Tryz.underlying262
 a105:=Tryz.isAgg262
 z105:=Tryz.sizeOf262
 v105:=Tryz.zeroValue262
 t119:=Tryz.underlying301
 a119:=Tryz.isAgg301
 z119:=Tryz.sizeOf301
 t138:=Tryz.underlying303
 a138:=Tryz.isAgg303
 z138:=Tryz.sizeOf303
 v138:=Tryz.zeroValue303
 t139:=Tryz.underlying304
 a139:=Tryz.isAgg304
 z139:=Tryz.sizeOf304
 v139:=Tryz.zeroValue304
 t146:=Tryz.underlying305
 a146:=Tryz.isAgg305
 z146:=Tryz.sizeOf305
 v146:=Tryz.zeroValue305
 g1:=by kernel_rfl
 g3:=by kernel_rfl
 g4:=by kernel_rfl }
end Go.Proofs
namespace Go.Proofs
open Go.Deep Go.Ab Go.RowKit Go.Lib Go.Sort
set_option maxHeartbeats 6400000 in
set_option maxRecDepth 100000 in
theorem Tryz.fut_in (u:Nat) (hu64:u<18446744073709551616) (w:World) (htab:Lib.TabIs Tryz.prog w "internal/strconv.uint64pow10" .u64 Lib.pow10Tab) :
  Calls Tryz.prog 77 #[.int .u64 u,.int .i64 10] w fun e w'=>e=.returned (.string ⟨(Lib.decDigits u).toArray⟩)∧∃k os,w'=grow (w.drewN k) os:=by
 have esm:∀args w,(callFunc 130 args).run Tryz.prog w=.ok (.enter 130 args) w:=enters_of Tryz.func130 (by kernel_rfl) rfl
 have end_:∀args w,(callFunc 131 args).run Tryz.prog w=.ok (.enter 131 args) w:=enters_of Tryz.func131 (by kernel_rfl) rfl
 have efb:∀args w,(callFunc 132 args).run Tryz.prog w=.ok (.enter 132 args) w:=enters_of Tryz.func132 (by kernel_rfl) rfl
 by_cases hs:u<100
 ·go_enter Tryz.func77,Tryz.ntmps77
  go_wp2_with (go_at_fn 130;refine (Tryz.internal_strconv_small u hs _).mono ?_;rintro e w' ⟨rfl,rfl⟩)
  go_ret
  exact ⟨rfl,0,#[],by simp [World.drewN_zero]⟩
 ·have hu1:1≤u:=by omega
  have hnd20:Lib.nDigits u≤20:=by have:=Lib.numDigits_eq u hu1 hu64;split at this<;>omega
  have hb3:Lib.nDigits u≤24:=by omega
  have hal:Tryz.prog.arrayLen 211=24:=by simp [Program.arrayLen,Tryz.underlying211]
  have hsl1:∀W,(Instr.sliceAt 211 (.pointer (some ⟨w.heap.size,0,none⟩)) none (some (.int .i64 (Lib.nDigits u:Int))) none).run Tryz.prog W=.ok (.slice (some ⟨w.heap.size,0,none⟩) (Lib.nDigits u) 24) W:=fun W=>by
   rw [run_sliceAt_array_h W 211 ⟨w.heap.size,0,none⟩ (by simp [Program.arrayLen,Program.elem,Tryz.underlying211]) .i64 (Lib.nDigits u:Int) (by omega) (by rw [hal];omega)]
   go_simp
  have hH0:=Lib.holds_zero0 w 211 (Lib.nDigits u) (by omega)
  have hfmt:=Tryz.internal_strconv_formatBase10 w.heap.size 0 24 u (Array.replicate (Lib.nDigits u) 0) (w.alloc (.cells Lib.zeros24 211)) hH0 (by rw [Array.size_replicate];exact Lib.lt_pow_nDigits u) hu64 (by rw [Array.size_replicate];omega)
  rw [Array.size_replicate] at hfmt
  have HH0:=Lib.hid hH0
  clear hH0 hal
  go_enter Tryz.func77,Tryz.ntmps77
  go_wp2_with (first
   | (go_at_fn 131;refine (Tryz.internal_strconv_numDigits u hu1 hu64 _ (Lib.tabIs_alloc htab _)).mono ?_;rintro e w' ⟨rfl,rfl⟩))
  go_at_fn 132
  refine hfmt.mono ?_
  rintro e w' ⟨rfl,k,v',dk,rfl,hF⟩
  have hal:Tryz.prog.arrayLen 211=24:=by simp [Program.arrayLen,Tryz.underlying211]
  have hcv:(convert 174 9 (.slice (some ⟨w.heap.size,0,none⟩) (Lib.nDigits u) 24)).run Tryz.prog ((putRow (fun (b:UInt8)=>Value.int .u8 (b.toNat:Int)) (w.alloc (.cells Lib.zeros24 211)) w.heap.size 0 dk).drewN k)=.ok (.string ⟨(Lib.decDigits u).toArray⟩) ((putRow (fun (b:UInt8)=>Value.int .u8 (b.toNat:Int)) (w.alloc (.cells Lib.zeros24 211)) w.heap.size 0 dk).drewN k):=by
   have h:=run_convert_bytes_back (P:=Tryz.prog) ((putRow (fun (b:UInt8)=>Value.int .u8 (b.toNat:Int)) (w.alloc (.cells Lib.zeros24 211)) w.heap.size 0 dk).drewN k) 174 9 5 ⟨w.heap.size,0,none⟩ 24 (Lib.decDigits u) Tryz.underlying174 Tryz.underlying5 Tryz.underlying9 (fun j hj=>by
    rw [Lib.row_is_numeral hF j hj,Lib.add_plain,World.cell?_drewN]
    exact cell?_putRow (fun (b:UInt8)=>Value.int .u8 (b.toNat:Int)) _ w.heap.size 0 _ dk HH0.out (by rw [hF.size,Array.size_replicate]) j (by rw [hF.size];rw [Lib.decDigits_length] at hj;exact hj))
   rw [Lib.decDigits_length] at h
   exact h
  go_wp2
  go_ret
  obtain ⟨os,eo⟩:=Lib.fin_at w (.cells Lib.zeros24 211) dk k 0
  exact ⟨rfl,k,os,eo⟩
set_option maxRecDepth 100000 in
theorem Tryz.fut_out (u:Nat) (hu64:u<18446744073709551616) (w:World) (htab:Lib.TabIs Tryz.prog w "internal/strconv.uint64pow10" .u64 Lib.pow10Tab) :
  Calls Tryz.prog 40 #[.int .u64 u,.int .i64 10] w fun e w'=>e=.returned (.string ⟨(Lib.decDigits u).toArray⟩)∧∃k os,w'=grow (w.drewN k) os:=by
 have efi:∀args w,(callFunc 77 args).run Tryz.prog w=.ok (.enter 77 args) w:=enters_of Tryz.func77 (by kernel_rfl) rfl
 go_enter Tryz.func40,Tryz.ntmps40
 go_wp2_with (go_at_fn 77;refine (Tryz.fut_in u hu64 _ htab).mono ?_;rintro e w' ⟨rfl,k,os,rfl⟩)
 go_ret
 exact ⟨rfl,k,os,rfl⟩
theorem Tryz.joinX:Builder.Extra Tryz.prog Tryz.layJoin_ren:=⟨⟨by kernel_rfl,by kernel_rfl⟩,Tryz.underlying5,Tryz.isAgg5,Tryz.sizeOf5,Tryz.zeroValue5,by kernel_rfl,by kernel_rfl,by kernel_rfl,by decide⟩
end Go.Proofs
namespace Go.Ab
open Go.Proofs Go.RowKit
def d9a (n b:Int):Option Str:=chk (decide (b=10)&&(decide (0≤n)&&decide (n<18446744073709551616))) (some (Lib.decDigits n.toNat))
theorem g3o {n b:Int} {y:Str} (hy:d9a n b=some y):a0j Tryz.prog 40 [.int .u64 n,.int .i64 b] [] (fun r H=>r=.str y∧H=[]):=by
 unfold d9a chk at hy
 cases hc:(decide (b=10)&&(decide (0≤n)&&decide (n<18446744073709551616))) with
 | false=>rw [hc] at hy;cases hy
 | true =>
  rw [hc] at hy
  obtain rfl:=Option.some.inj hy
  simp only [Bool.and_eq_true,decide_eq_true_eq] at hc
  obtain ⟨rfl,h0,h1⟩:=hc
  obtain ⟨u,rfl⟩:=Int.eq_ofNat_of_zero_le h0
  have hu:u<18446744073709551616:=by omega
  refine b4k (by kernel_rfl) fun g w vals hH hl hv=>?_
  rw [g1r hl,(hv 0 _ rfl).int_inv.1,(hv 1 _ rfl).int_inv.1]
  have ht:=(hH.tabs w (fun _ _=>rfl)).1 _ List.mem_cons_self (by kernel_rfl)
  refine (Tryz.fut_out u hu w ht).mono ?_
  rintro en w' ⟨rfl,k,os,rfl⟩
  have hlen:(Lib.decDigits u).length≤20:=by
   rw [Lib.decDigits_length]
   by_cases h:1≤u
   ·have:=Lib.numDigits_eq u h hu;split at this<;>omega
   ·obtain rfl:u=0:=by omega
    exact Nat.le_of_ble_eq_true (by kernel_rfl)
  exact ⟨_,rfl,fun g w'=>c4c _ (Nat.le_trans hlen (by decide)),k,os,rfl⟩
theorem g3n {s t:Str} {y:List Str} (hy:d43 s t=some y):a0j Tryz.prog 45 [.str s,.str t] [] (fun r H=>r=.sl (y.map V.str)∧H=[]):=by
 have h:=b9i Tryz.laySpl (by kernel_rfl) (by kernel_rfl) hy
 exact h
def c66 (xs:List Str) (sep:Str):Option Str:=chk (decide (xs.length≤140737488355328)&&decide ((Lib.join xs sep).length≤140737488355328)) (some (Lib.join xs sep))
theorem g3m {xs:List Str} {sep y:Str} (hy:c66 xs sep=some y):a0j Tryz.prog 43 [.sl (xs.map V.str),.str sep] [] (fun r H=>r=.str y∧H=[]):=by
 unfold c66 chk at hy
 cases hc:(decide (xs.length≤140737488355328)&&decide ((Lib.join xs sep).length≤140737488355328)) with
 | false=>rw [hc] at hy;cases hy
 | true =>
  rw [hc] at hy
  obtain rfl:=Option.some.inj hy
  simp only [Bool.and_eq_true,decide_eq_true_eq] at hc
  obtain ⟨h1,h2⟩:=hc
  refine a1f ⟨.str (Lib.join xs sep),[],[]⟩ (by kernel_rfl) fun g w vals hH hl hv=>?_
  obtain ⟨t,e1,e2,e3⟩:=(hv 1 _ rfl).str_inv
  have hrd:Rd g.S w (vals.getD 0 undef) (.sl (xs.map V.str)):=f4d (hv 0 _ rfl)
  rw [e84 hl,e1]
  generalize vals.getD 0 undef=v0 at hrd
  have fin:∀w':World,Below w.heap.size w w'→∃v g',Ending.returned (.string ⟨(Lib.join xs sep).toArray⟩)=.returned v∧a04 g [] w ⟨.str (Lib.join xs sep),[],[]⟩ g' w'∧a0s [] g g' ⟨[],[]⟩ ⟨.str (Lib.join xs sep),[],[]⟩∧VR g' w' v (.str (Lib.join xs sep)):=fun w' hb =>
   ⟨_,g,rfl,a04.grown _ [] hH.lt hb.os hb.tape hb.output hb.size (fun b h _=>hb.block b h),a0s.none _ _,c4c _ (Nat.le_trans h2 (by decide))⟩
  have none_:∀(a:Option Addr) (c:Nat),xs=[]→Calls Tryz.prog 43 #[.slice a 0 c,.string t] w fun en w'=>∃v g',en=.returned v∧a04 g [] w ⟨.str (Lib.join xs sep),[],[]⟩ g' w'∧a0s [] g g' ⟨[],[]⟩ ⟨.str (Lib.join xs sep),[],[]⟩∧VR g' w' v (.str (Lib.join xs sep)):=by
   rintro a c rfl
   refine (Any.strings_Join_none Tryz.layJoin Tryz.joinX a c t w).mono ?_
   rintro en w' ⟨rfl,rfl⟩
   exact fin w' (Below.refl _ _)
  generalize hvs:xs.map V.str=vs at hrd
  cases hrd with
  | nilsl=>exact none_ none 0 (List.map_eq_nil_iff.1 hvs)
  | slz a c=>exact none_ (some a) c (List.map_eq_nil_iff.1 hvs)
  | sl bb oo len cap k cur e fz _ hS hg hln hm hcp hb hk hr =>
   by_cases hz:xs=[]
   ·have:len=0:=by rw [←hln,←hvs,hz];rfl
    subst this
    exact none_ _ cap hz
   ·have hlen:len=xs.length:=by rw [←hln,←hvs,List.length_map]
    have hk1:k=1:=by
     obtain ⟨x,r,rfl⟩:=List.exists_cons_of_ne_nil hz
     have:=(hk (V.str x) (by rw [←hvs];simp)).1
     simpa [V.cells] using this.symm
    subst hk1
    have hpos:0<xs.length:=List.length_pos_iff.2 hz
    have hid:xs.map ((fun b:ByteArray=>b.data.toList)∘fun s:Str=>(⟨s.toArray⟩:ByteArray))=xs:=by
     simp [Function.comp_def]
    have hj:=Any.strings_Join Tryz.layJoin Tryz.joinX bb oo cap (xs.map fun s=>(⟨s.toArray⟩:ByteArray)) t w (fun j x hx=>by
     rw [List.getElem?_map] at hx
     obtain ⟨s,hs,rfl⟩:=Option.map_eq_some_iff.1 hx
     have hjl:j<xs.length:=(List.getElem?_eq_some_iff.1 hs).1
     have h0:=hr j 0 (V.str s) (V.str s) (by rw [←hvs,List.getElem?_map,hs];rfl) rfl
     obtain ⟨q,q1,q2,_⟩:=(VR.rd (g:=g) h0).str_inv
     have hq:q=⟨s.toArray⟩:=by
      apply ByteArray.ext
      apply Array.toList_inj.1
      rw [q2]
     have hlt:oo+j<cur.size:=by omega
     simp only [Nat.mul_one,Nat.add_zero] at q1
     rw [Array.getD_eq_getD_getElem?,Array.getElem?_eq_getElem hlt,Option.getD_some] at q1
     simp only [World.cell?,hg]
     rw [Array.getElem?_eq_getElem hlt,q1,hq];rfl) (by
      have:=(Array.getElem?_eq_some_iff.1 hg).1
      exact this) (by rw [List.length_map];exact h1) (by rw [List.length_map];omega) (by rw [List.map_map,e2,hid];exact h2)
    rw [List.length_map,List.map_map,e2,hid] at hj
    rw [hlen]
    refine Calls.mono hj ?_
    rintro en w' ⟨rfl,hb'⟩
    exact fin w' hb'
def d0r (xs:List Str) (sep:Str):Option Str:=c66 xs sep
theorem g9z {xs:List Str} {sep y:Str} (hy:d0r xs sep=some y):a0j Tryz.prog 43 [.osl 1000 1 0 xs.length,.str sep] [(1000,.arr 1 (xs.map V.str))] (fun r H=>r=.str y∧H=[(1000,.arr 1 (xs.map V.str))]):=by
 have h:=c3i (k:=1) (t:=none) (g3m hy)
 rw [List.length_map] at h
 exact h
def puE (s:Str) (b n:Int):Option (Int×Bool):=chk (decide (b=10)&&(decide (n=64)&&decide (s.length≤281474976710656))) (some (match Lib.parseUintB 64 s with
 | .ok u=>((u:Int),true)
 | .range=>(18446744073709551615,false)
 | _=>(0,false)))
theorem g3l {s:Str} {b n:Int} {y:Int×Bool} (hy:puE s b n=some y):a0j Tryz.prog 46 [.str s,.int .i64 b,.int .i64 n] [] (fun r H=>r=.tup [.int .u64 y.1,.ifc y.2]∧H=[]):=by
 unfold puE chk at hy
 cases hc:(decide (b=10)&&(decide (n=64)&&decide (s.length≤281474976710656))) with
 | false=>rw [hc] at hy;cases hy
 | true =>
  rw [hc] at hy
  obtain rfl:=Option.some.inj hy
  simp only [Bool.and_eq_true,decide_eq_true_eq] at hc
  obtain ⟨rfl,rfl,hlen⟩:=hc
  generalize hy:(match Lib.parseUintB 64 s with|.ok u=>((u:Int),true)|.range=>(18446744073709551615,false)|_=>(0,false))=y
  refine a1f ⟨.tup [.int .u64 y.1,.ifc y.2],[],[]⟩ (by kernel_rfl) fun g w vals hH hl hv=>?_
  obtain ⟨t,e1,e2,e3⟩:=(hv 0 _ rfl).str_inv
  rw [g1q hl,e1,(hv 1 _ rfl).int_inv.1,(hv 2 _ rfl).int_inv.1]
  have hts:t.data.toList.length=t.size:=Array.length_toList
  have hsz:t.size≤281474976710656:=by rw [←hts,e2];exact hlen
  have fin:∀(w':World) (k:Int) (z:Value),k=y.1→rng .u64 k→VR g w' z (.ifc y.2)→Below w.heap.size w w'→∃v g',Ending.returned (.tuple #[.int .u64 k,z])=.returned v∧a04 g [] w ⟨.tup [.int .u64 y.1,.ifc y.2],[],[]⟩ g' w'∧a0s [] g g' ⟨[],[]⟩ ⟨.tup [.int .u64 y.1,.ifc y.2],[],[]⟩∧VR g' w' v (.tup [.int .u64 y.1,.ifc y.2]):=by
   rintro w' k z rfl hr hz hb
   refine ⟨_,g,rfl,a04.grown _ [] hH.lt hb.os hb.tape hb.output hb.size (fun b h _=>hb.block b h),a0s.none _ _,.tup _ _ rfl fun i x hx=>?_⟩
   match i with
   | 0=>simp at hx;subst hx;exact .rd (.int _ _ (a11.2 hr))
   | 1=>simp at hx;subst hx;exact hz
   | i+2=>simp at hx
  have htab:=(hH.tabs w (fun _ _=>rfl)).2
  cases h:Lib.parseUintB 64 s with
  | ok u =>
   rw [h] at hy;cases hy
   have hu:=Lib.parseUintB_le h
   refine (Any.strconv_ParseUint_10_at64_ok Tryz.layPu t (by omega) u (by rw [e2];exact h) w).mono ?_
   rintro en w' ⟨rfl,hw⟩
   refine fin w' u _ rfl (by simp [rng];omega) (.rd .ifcn) ?_
   rcases hw with rfl|rfl
   ·exact Below.refl _ _
   ·exact Go.Joins.below_bytesWorld _ _ _ _ (Nat.le_refl _)
  | range =>
   rw [h] at hy;cases hy
   obtain ⟨tp,p,hvar⟩:=htab "strconv.ErrRange" (by simp [b77]) (by kernel_rfl)
   refine (Any.strconv_ParseUint_10_at64_range_var Tryz.layPu t hsz (by rw [e2];exact h) tp p w hvar).mono ?_
   rintro en w' ⟨N,rfl,_,_,hb⟩
   exact fin w' _ _ rfl (by simp [rng]) (.rd (.ifcs _ _)) hb
  | _ =>
   rw [h] at hy;cases hy
   obtain ⟨tp,p,hvar⟩:=htab "strconv.ErrSyntax" (by simp [b77]) (by kernel_rfl)
   refine (Any.strconv_ParseUint_10_at64_syntax_var Tryz.layPu t hsz (by rw [e2];exact h) tp p w hvar).mono ?_
   rintro en w' ⟨N,rfl,_,_,hb⟩
   exact fin w' 0 _ rfl (by simp [rng]) (.rd (.ifcs _ _)) hb
theorem g3k {n:Int} {y:Str} (hy:b8v n=some y):a0j Tryz.prog 41 [.int .i64 n] [] (fun r H=>r=.str y∧H=[]):=by
 obtain ⟨hn,rfl⟩:=c68 hy
 have hn':-9223372036854775808≤n∧n≤9223372036854775807:=hn
 refine b4k (by kernel_rfl) fun g w vals hH hl hv=>?_
 rw [f6a hl,(hv 0 _ rfl).int_inv.1]
 have ht:=(hH.tabs w (fun _ _=>rfl)).1 _ List.mem_cons_self (by kernel_rfl)
 refine (Tryz.strconv_Itoa n hn'.1 hn'.2 w ht).mono ?_
 rintro en w' ⟨rfl,k,os,rfl⟩
 exact ⟨_,rfl,fun g w'=>c4c _ (Nat.le_trans (Lib.itoa_length_le n hn'.1 hn'.2) (by decide)),k,os,rfl⟩
theorem g9y {s:Str} {y:Int} (hy:d27 s=some y):a0j Tryz.prog 47 [.str s] [] (fun r H=>r=.tup [.int .i64 y,.any]∧H=[]):=by
 obtain ⟨hlen,rfl⟩:=c7v hy
 refine a1f ⟨.tup [.int .i64 (a1a s),.any],[],[]⟩ (by kernel_rfl) fun g w vals hH hl hv=>?_
 obtain ⟨t,e1,e2,e3⟩:=(hv 0 _ rfl).str_inv
 rw [f6a hl,e1]
 have hts:t.data.toList.length=t.size:=Array.length_toList
 have hsz:t.size≤281474976710656:=by rw [←hts,e2];exact hlen
 have hr:=b2q s
 have fin:∀(w':World) (n:Int) (z:Value),n=a1a s→Below w.heap.size w w'→∃v g',Ending.returned (.tuple #[.int .i64 n,z])=.returned v∧a04 g [] w ⟨.tup [.int .i64 (a1a s),.any],[],[]⟩ g' w'∧a0s [] g g' ⟨[],[]⟩ ⟨.tup [.int .i64 (a1a s),.any],[],[]⟩∧VR g' w' v (.tup [.int .i64 (a1a s),.any]):=by
  rintro w' n z rfl hb
  refine ⟨_,g,rfl,a04.grown _ [] hH.lt hb.os hb.tape hb.output hb.size (fun b h _=>hb.block b h),a0s.none _ _,.tup _ _ rfl fun i x hx=>?_⟩
  match i with
  | 0=>simp at hx;subst hx;exact .rd (.int _ _ (a11.2 hr))
  | 1=>simp at hx;subst hx;exact .any _
  | i+2=>simp at hx
 have htab:=(hH.tabs w (fun _ _=>rfl)).2
 cases h:Lib.atoiAll s with
 | ok v =>
  refine (Tryz.strconv_Atoi_ok t (by omega) v (by rw [e2];exact h) w).mono ?_
  rintro en w' ⟨rfl,hw⟩
  refine fin w' v _ (by simp [a1a,h]) ?_
  rcases hw with rfl|⟨u,rfl⟩
  ·exact Below.refl _ _
  ·exact Go.Joins.below_bytesWorld _ _ _ _ (Nat.le_refl _)
 | range =>
  obtain ⟨tp,p,hvar⟩:=htab "strconv.ErrRange" (by simp [b77]) (by kernel_rfl)
  refine (Tryz.strconv_Atoi_range_var t hsz (by rw [e2];exact h) tp p w hvar).mono ?_
  rintro en w' ⟨N,rfl,_,_,hb⟩
  exact fin w' _ _ (by simp [a1a,h,e2]) hb
 | _ =>
  obtain ⟨tp,p,hvar⟩:=htab "strconv.ErrSyntax" (by simp [b77]) (by kernel_rfl)
  refine (Tryz.strconv_Atoi_syntax_var t hsz (by rw [e2,h];intro v hv;cases hv) (by rw [e2,h];intro hv;cases hv) tp p w hvar).mono ?_
  rintro en w' ⟨N,rfl,_,_,hb⟩
  exact fin w' 0 _ (by simp [a1a,h]) hb
theorem g3j {s:Str} {y:Int×Bool} (hy:a4i s=some y):a0j Tryz.prog 47 [.str s] [] (fun r H=>r=.tup [.int .i64 y.1,.ifc y.2]∧H=[]):=by
 obtain ⟨hlen,rfl⟩:=b2r hy
 refine a1f ⟨.tup [.int .i64 (a1a s),.ifc (a1i s)],[],[]⟩ (by kernel_rfl) fun g w vals hH hl hv=>?_
 obtain ⟨t,e1,e2,e3⟩:=(hv 0 _ rfl).str_inv
 rw [f6a hl,e1]
 have hts:t.data.toList.length=t.size:=Array.length_toList
 have hsz:t.size≤281474976710656:=by rw [←hts,e2];exact hlen
 have hr:=b2q s
 have fin:∀(w':World) (n:Int) (z:Value),n=a1a s→VR g w' z (.ifc (a1i s))→Below w.heap.size w w'→∃v g',Ending.returned (.tuple #[.int .i64 n,z])=.returned v∧a04 g [] w ⟨.tup [.int .i64 (a1a s),.ifc (a1i s)],[],[]⟩ g' w'∧a0s [] g g' ⟨[],[]⟩ ⟨.tup [.int .i64 (a1a s),.ifc (a1i s)],[],[]⟩∧VR g' w' v (.tup [.int .i64 (a1a s),.ifc (a1i s)]):=by
  rintro w' n z rfl hz hb
  refine ⟨_,g,rfl,a04.grown _ [] hH.lt hb.os hb.tape hb.output hb.size (fun b h _=>hb.block b h),a0s.none _ _,.tup _ _ rfl fun i x hx=>?_⟩
  match i with
  | 0=>simp at hx;subst hx;exact .rd (.int _ _ (a11.2 hr))
  | 1=>simp at hx;subst hx;exact hz
  | i+2=>simp at hx
 have htab:=(hH.tabs w (fun _ _=>rfl)).2
 cases h:Lib.atoiAll s with
 | ok v =>
  refine (Tryz.strconv_Atoi_ok t (by omega) v (by rw [e2];exact h) w).mono ?_
  rintro en w' ⟨rfl,hw⟩
  refine fin w' v _ (by simp [a1a,h]) (by simp only [a1i,h];exact .rd .ifcn) ?_
  rcases hw with rfl|⟨u,rfl⟩
  ·exact Below.refl _ _
  ·exact Go.Joins.below_bytesWorld _ _ _ _ (Nat.le_refl _)
 | range =>
  obtain ⟨tp,p,hvar⟩:=htab "strconv.ErrRange" (by simp [b77]) (by kernel_rfl)
  refine (Tryz.strconv_Atoi_range_var t hsz (by rw [e2];exact h) tp p w hvar).mono ?_
  rintro en w' ⟨N,rfl,_,_,hb⟩
  exact fin w' _ _ (by simp [a1a,h,e2]) (by simp only [a1i,h];exact .rd (.ifcs _ _)) hb
 | _ =>
  obtain ⟨tp,p,hvar⟩:=htab "strconv.ErrSyntax" (by simp [b77]) (by kernel_rfl)
  refine (Tryz.strconv_Atoi_syntax_var t hsz (by rw [e2,h];intro v hv;cases hv) (by rw [e2,h];intro hv;cases hv) tp p w hvar).mono ?_
  rintro en w' ⟨N,rfl,_,_,hb⟩
  exact fin w' 0 _ (by simp [a1a,h]) (by simp only [a1i,h];exact .rd (.ifcs _ _)) hb
set_option maxRecDepth 20000
theorem f7h {xs ys:List Int} (hy:b0u xs=some ys):a0j Tryz.prog 235 [.osl 1000 1 0 xs.length] [(1000,.arr 1 (xs.map (V.int .i64)))] (fun r H'=>r=.tup []∧H'=[(1000,.arr 1 (ys.map (V.int .i64)))]) :=
 b7q (by kernel_rfl) (fun blk off cap zs w h1 h2 h3=>Tryz.slices_Sort_int blk off cap zs w h1 h2 h3) (fun p cap w=>Tryz.slices_Sort_int_none p cap w) hy
theorem g3i {xs:List Int} {y:Nat×List Int} (hy:a4u xs=some y):a0j Tryz.prog 236 [.osl 1000 1 0 xs.length] [(1000,.arr 1 (xs.map (V.int .i64)))] (fun r H'=>r=.osl 1000 1 0 y.1∧H'=[(1000,.arr 1 (y.2.map (V.int .i64)))]) :=
 b2u (by kernel_rfl) (fun b off n c zs w h1 h2 h3 h4 h5=>Tryz.slices_Compact_int_cells b off n c zs w h1 h2 h3 h4 h5) (fun p cap w=>Tryz.slices_Compact_int_empty p cap w) hy
instance g3h {n b:Int}:WI (d9a n b) Tryz.prog 40 [.int .u64 n,.int .i64 b] [] (fun y=>.str y) (fun y=>[]):=⟨fun Q Q' h hQ=>by obtain ⟨y,hy,hq⟩:=h;exact (g3o hy).mono fun r H' e=>by rw [e.1,e.2];exact hQ y hq⟩
instance f0r {s t:Str}:WI (d43 s t) Tryz.prog 45 [.str s,.str t] [] (fun y=>.sl (y.map V.str)) (fun y=>[]):=⟨fun Q Q' h hQ=>by obtain ⟨y,hy,hq⟩:=h;exact (g3n hy).mono fun r H' e=>by rw [e.1,e.2];exact hQ y hq⟩
instance f7e {xs:List Str} {sep:Str}:WI (c66 xs sep) Tryz.prog 43 [.sl (xs.map V.str),.str sep] [] (fun y=>.str y) (fun y=>[]):=⟨fun Q Q' h hQ=>by obtain ⟨y,hy,hq⟩:=h;exact (g3m hy).mono fun r H' e=>by rw [e.1,e.2];exact hQ y hq⟩
instance g3g {s:Str} {b n:Int}:WI (puE s b n) Tryz.prog 46 [.str s,.int .i64 b,.int .i64 n] [] (fun y=>.tup [.int .u64 y.1,.ifc y.2]) (fun y=>[]):=⟨fun Q Q' h hQ=>by obtain ⟨y,hy,hq⟩:=h;exact (g3l hy).mono fun r H' e=>by rw [e.1,e.2];exact hQ y hq⟩
instance f7f {n:Int}:WI (b8v n) Tryz.prog 41 [.int .i64 n] [] (fun y=>.str y) (fun y=>[]):=⟨fun Q Q' h hQ=>by obtain ⟨y,hy,hq⟩:=h;exact (g3k hy).mono fun r H' e=>by rw [e.1,e.2];exact hQ y hq⟩
instance f7g {s:Str}:WI (d27 s) Tryz.prog 47 [.str s] [] (fun y=>.tup [.int .i64 y,.any]) (fun y=>[]):=⟨fun Q Q' h hQ=>by obtain ⟨y,hy,hq⟩:=h;exact (g9y hy).mono fun r H' e=>by rw [e.1,e.2];exact hQ y hq⟩
instance f0t {s:Str}:WI (a4i s) Tryz.prog 47 [.str s] [] (fun y=>.tup [.int .i64 y.1,.ifc y.2]) (fun y=>[]):=⟨fun Q Q' h hQ=>by obtain ⟨y,hy,hq⟩:=h;exact (g3j hy).mono fun r H' e=>by rw [e.1,e.2];exact hQ y hq⟩
end Go.Ab
