/- What the functions of this seat that lie on the laws' road compute (part SL), each for every input. By AI agents. -/
import Derived.Test.YtkochjkempnagaaGreatDoorProg
import Derived.KernelRfl
import Derived.Test.YtkochjkempnagaaGreatDoorAbRun
import Derived.Shelf.Strings.Builder1
import Derived.Shelf.Strings.Builder2
import Derived.Shelf.Strings.OnBuilder
import Derived.Shelf.Small.Bits
import Derived.Shelf.Small.Strs
import Derived.Shelf.Small.Wraps
import Derived.Shelf.Strings.BuilderF
import Derived.Shelf.Strings.BuilderK
import Derived.Shelf.Utf8.RuneCount
import Derived.Shelf.Strings.Builder2Cap
import Derived.Shelf.Strconv.Atoi
import Derived.Shelf.Strconv.Itoa0
import Derived.Shelf.Strconv.Itoa1
import Derived.Shelf.LaysM
import Derived.Shelf.Strconv.Itoa2
import Derived.Shelf.Strconv.Itoa3
import Derived.Shelf.Strconv.AtoiErrFast
import Derived.Shelf.Strconv.ParseIntEmpty
import Derived.Shelf.Strconv.AtoiFail
import Derived.Shelf.Strconv.Clone
import Derived.Shelf.Strconv.SyntaxError
import Derived.Shelf.LaysC
import Derived.Shelf.Strconv.ToError
import Derived.Shelf.Strconv.Lower
import Derived.Shelf.Strconv.ParseUint10
import Derived.Shelf.Strconv.ParseUint10Empty
import Derived.Shelf.Strconv.ParseUint10Any
import Derived.Shelf.Strconv.ParseInt10
import Derived.Shelf.Strconv.AtoiLong
import Derived.Shelf.Strconv.AtoiInnerAll
import Derived.Shelf.Strconv.RangeError
import Derived.Shelf.Strconv.ToErrorRange
import Derived.Shelf.Strconv.AtoiAll
import Derived.Shelf.Strconv.ErrVarAll
import Derived.Shelf.Strconv.ParseUintEmpty
import Derived.Shelf.Strings.Search1
import Derived.Shelf.Strings.Search2
import Derived.Shelf.Strings.Search3
import Derived.Shelf.Strings.Count
import Derived.Shelf.Strings.Shaped
import Derived.Shelf.Sort.Plain
import Derived.Shelf.Strings.Prefix
import Derived.Shelf.Strings.Split
import Derived.Shelf.Strings.SplitShaped
import Derived.Shelf.Unicode.Decode
import Derived.Shelf.Strings.RuneCount
import Derived.Shelf.Strings.Explode
import Derived.Shelf.Unicode.DecodeSlow
import Derived.Shelf.Unicode.DecodeAny
import Derived.Shelf.Strings.BuilderCap
import Derived.Shelf.Slices.Turned
import Derived.Ground.Names2Prog
import Derived.Shelf.Slices.CompactI
import Derived.Shelf.Slices.CompactS
import Derived.Shelf.Slices.SearchI
import Derived.Shelf.Slices.Cells
import Derived.Shelf.Slices.In.SortNone
import Derived.Shelf.Slices.Empties
import Derived.Ground.SlgnProg
import Derived.Shelf.SlicesE.Compact
import Derived.Ground.SlgfProg
import Derived.Shelf.SlicesE.IndexFunc
import Derived.Ground.NamesProg
import Derived.Deep.LoopGhost
set_option linter.all false
set_option linter.all false
namespace Go.Proofs
open Go.Shelf
def Tryz.lays137_ren:Go.Shelf.Ren:=⟨fun|137=>57|217=>103|266=>140|n=>n,fun|9=>9|5=>5|3=>3|n=>n,fun|n=>n⟩
theorem Tryz.lays137:Go.Proofs.Lays.n137 Tryz.prog Tryz.lays137_ren:={
 mixed:=by kernel_rfl
 f137:=Tryz.func57.trans (congrArg some (by kernel_rfl))
 f217:=Tryz.func103.trans (congrArg some (by kernel_rfl))
 f266:=Tryz.func140.trans (congrArg some (by kernel_rfl))
 t3:=Tryz.underlying3
 a3:=Tryz.isAgg3
 z3:=Tryz.sizeOf3
 v3:=Tryz.zeroValue3
 t5:=Tryz.underlying5
 a5:=Tryz.isAgg5
 z5:=Tryz.sizeOf5
 v5:=Tryz.zeroValue5
 t9:=Tryz.underlying9
 a9:=Tryz.isAgg9
 z9:=Tryz.sizeOf9
 v9:=Tryz.zeroValue9 }
open Go.RowKit in
theorem Tryz.strings_IndexByte (s:ByteArray) (c:Int) (w:World) :
  Calls Tryz.prog 57 #[.string s,.int .u8 c] w fun e w'=>e=.returned (.int .i64 (Lib.indexByte s.data.toList c.toNat.toUInt8))∧w'=w:=Any.strings_IndexByte Tryz.lays137 s c w
def Tryz.laysM171_ren:Go.Shelf.Ren:=⟨fun|171=>40|243=>85|246=>130|283=>168|284=>169|285=>170|286=>171|129=>101|317=>198|318=>199|319=>200|320=>201|337=>228|338=>229|n=>n,fun|3=>3|9=>9|2=>2|4=>4|171=>225|0=>0|53=>172|37=>90|5=>5|173=>227|212=>254|51=>170|20=>20|213=>255|46=>112|232=>286|233=>287|n=>n,fun|17=>4|18=>7|19=>8|n=>n⟩
theorem Tryz.laysM171:Go.Proofs.LaysM.n171 Tryz.prog Tryz.laysM171_ren:={
 mixed:=by kernel_rfl
 f129:=Tryz.func101.trans (congrArg some (by kernel_rfl))
 f171:=Tryz.func40.trans (congrArg some (by kernel_rfl))
 f243:=Tryz.func85.trans (congrArg some (by kernel_rfl))
 f246:=Tryz.func130.trans (congrArg some (by kernel_rfl))
 f283:=Tryz.func168.trans (congrArg some (by kernel_rfl))
 f284:=Tryz.func169.trans (congrArg some (by kernel_rfl))
 f285:=Tryz.func170.trans (congrArg some (by kernel_rfl))
 f286:=Tryz.func171.trans (congrArg some (by kernel_rfl))
 f317:=Tryz.func198.trans (congrArg some (by kernel_rfl))
 f318:=Tryz.func199.trans (congrArg some (by kernel_rfl))
 f319:=Tryz.func200.trans (congrArg some (by kernel_rfl))
 f320:=Tryz.func201.trans (congrArg some (by kernel_rfl))
 f337:=Tryz.func228.trans (congrArg some (by kernel_rfl))
 f338:=Tryz.func229.trans (congrArg some (by kernel_rfl))
 t0:=Tryz.underlying0
 a0:=Tryz.isAgg0
 z0:=Tryz.sizeOf0
 v0:=Tryz.zeroValue0
 t2:=Tryz.underlying2
 a2:=Tryz.isAgg2
 z2:=Tryz.sizeOf2
 v2:=Tryz.zeroValue2
 t3:=Tryz.underlying3
 a3:=Tryz.isAgg3
 z3:=Tryz.sizeOf3
 v3:=Tryz.zeroValue3
 t4:=Tryz.underlying4
 a4:=Tryz.isAgg4
 z4:=Tryz.sizeOf4
 v4:=Tryz.zeroValue4
 t5:=Tryz.underlying5
 a5:=Tryz.isAgg5
 z5:=Tryz.sizeOf5
 v5:=Tryz.zeroValue5
 t9:=Tryz.underlying9
 a9:=Tryz.isAgg9
 z9:=Tryz.sizeOf9
 v9:=Tryz.zeroValue9
 t20:=Tryz.underlying20
 a20:=Tryz.isAgg20
 z20:=Tryz.sizeOf20
 v20:=Tryz.zeroValue20
 t37:=Tryz.underlying90
 a37:=Tryz.isAgg90
 z37:=Tryz.sizeOf90
 v37:=Tryz.zeroValue90
 t46:=Tryz.underlying112
 a46:=Tryz.isAgg112
 z46:=Tryz.sizeOf112
 v46:=Tryz.zeroValue112
 t51:=Tryz.underlying170
 a51:=Tryz.isAgg170
 z51:=Tryz.sizeOf170
 v51:=Tryz.zeroValue170
 t53:=Tryz.underlying172
 a53:=Tryz.isAgg172
 z53:=Tryz.sizeOf172
 v53:=Tryz.zeroValue172
 t171:=Tryz.underlying225
 a171:=Tryz.isAgg225
 z171:=Tryz.sizeOf225
 v171:=Tryz.zeroValue225
 t173:=Tryz.underlying227
 a173:=Tryz.isAgg227
 z173:=Tryz.sizeOf227
 v173:=Tryz.zeroValue227
 t212:=Tryz.underlying254
 a212:=Tryz.isAgg254
 z212:=Tryz.sizeOf254
 v212:=Tryz.zeroValue254
 t213:=Tryz.underlying255
 a213:=Tryz.isAgg255
 z213:=Tryz.sizeOf255
 t232:=Tryz.underlying286
 a232:=Tryz.isAgg286
 z232:=Tryz.sizeOf286
 v232:=Tryz.zeroValue286
 t233:=Tryz.underlying287
 a233:=Tryz.isAgg287
 z233:=Tryz.sizeOf287
 v233:=Tryz.zeroValue287
 g17:=by kernel_rfl
 g18:=by kernel_rfl
 g19:=by kernel_rfl
 i0:=by kernel_rfl
 i2:=by kernel_rfl
 i3:=by kernel_rfl
 i4:=by kernel_rfl
 i5:=by kernel_rfl
 i9:=by kernel_rfl
 i20:=by kernel_rfl
 i37:=by kernel_rfl
 i46:=by kernel_rfl
 i51:=by kernel_rfl
 i53:=by kernel_rfl
 i171:=by kernel_rfl
 i173:=by kernel_rfl
 i212:=by kernel_rfl
 i232:=by kernel_rfl
 i233:=by kernel_rfl
 m17:=by kernel_rfl
 m18:=by kernel_rfl
 m19:=by kernel_rfl }
open Go.RowKit Go.Sort Go.Lib in
theorem Tryz.strconv_Itoa (n:Int) (h0:-9223372036854775808≤n) (h1:n≤9223372036854775807) (w:World) (htab:Lib.TabIs Tryz.prog w "internal/strconv.uint64pow10" .u64 Lib.pow10Tab) :
  Calls Tryz.prog 40 #[.int .i64 n] w fun e w'=>e=.returned (.string ⟨(Lib.itoa n).toArray⟩)∧∃k os,w'=grow (w.drewN k) os:=Any.strconv_Itoa Tryz.laysM171 n h0 h1 w htab
def Tryz.laysC172_ren:Go.Shelf.Ren:=⟨fun|172=>63|244=>111|245=>112|247=>150|279=>151|280=>152|281=>153|282=>154|287=>177|316=>178|171=>40|205=>179|321=>206|322=>207|243=>85|246=>130|283=>168|284=>169|285=>170|286=>171|129=>101|317=>198|318=>199|319=>200|320=>201|337=>228|338=>229|n=>n,fun|9=>9|3=>3|75=>94|76=>95|4=>4|5=>5|167=>206|37=>90|0=>0|85=>207|2=>2|168=>209|53=>172|175=>235|46=>112|210=>239|127=>158|145=>259|143=>257|21=>21|171=>225|173=>227|212=>254|51=>170|20=>20|213=>255|232=>286|233=>287|80=>102|n=>n,fun|15=>2|16=>3|17=>4|18=>7|19=>8|n=>n⟩
theorem Tryz.laysC172:Go.Proofs.LaysC.n172 Tryz.prog Tryz.laysC172_ren:={
 mixed:=by kernel_rfl
 f129:=Tryz.func101.trans (congrArg some (by kernel_rfl))
 f171:=Tryz.func40.trans (congrArg some (by kernel_rfl))
 f172:=Tryz.func63.trans (congrArg some (by kernel_rfl))
 f205:=Tryz.func179.trans (congrArg some (by kernel_rfl))
 f243:=Tryz.func85.trans (congrArg some (by kernel_rfl))
 f244:=Tryz.func111.trans (congrArg some (by kernel_rfl))
 f245:=Tryz.func112.trans (congrArg some (by kernel_rfl))
 f246:=Tryz.func130.trans (congrArg some (by kernel_rfl))
 f247:=Tryz.func150.trans (congrArg some (by kernel_rfl))
 f279:=Tryz.func151.trans (congrArg some (by kernel_rfl))
 f280:=Tryz.func152.trans (congrArg some (by kernel_rfl))
 f281:=Tryz.func153.trans (congrArg some (by kernel_rfl))
 f282:=Tryz.func154.trans (congrArg some (by kernel_rfl))
 f283:=Tryz.func168.trans (congrArg some (by kernel_rfl))
 f284:=Tryz.func169.trans (congrArg some (by kernel_rfl))
 f285:=Tryz.func170.trans (congrArg some (by kernel_rfl))
 f286:=Tryz.func171.trans (congrArg some (by kernel_rfl))
 f287:=Tryz.func177.trans (congrArg some (by kernel_rfl))
 f316:=Tryz.func178.trans (congrArg some (by kernel_rfl))
 f317:=Tryz.func198.trans (congrArg some (by kernel_rfl))
 f318:=Tryz.func199.trans (congrArg some (by kernel_rfl))
 f319:=Tryz.func200.trans (congrArg some (by kernel_rfl))
 f320:=Tryz.func201.trans (congrArg some (by kernel_rfl))
 f321:=Tryz.func206.trans (congrArg some (by kernel_rfl))
 f322:=Tryz.func207.trans (congrArg some (by kernel_rfl))
 f337:=Tryz.func228.trans (congrArg some (by kernel_rfl))
 f338:=Tryz.func229.trans (congrArg some (by kernel_rfl))
 t0:=Tryz.underlying0
 a0:=Tryz.isAgg0
 z0:=Tryz.sizeOf0
 v0:=Tryz.zeroValue0
 t2:=Tryz.underlying2
 a2:=Tryz.isAgg2
 z2:=Tryz.sizeOf2
 v2:=Tryz.zeroValue2
 t3:=Tryz.underlying3
 a3:=Tryz.isAgg3
 z3:=Tryz.sizeOf3
 v3:=Tryz.zeroValue3
 t4:=Tryz.underlying4
 a4:=Tryz.isAgg4
 z4:=Tryz.sizeOf4
 v4:=Tryz.zeroValue4
 t5:=Tryz.underlying5
 a5:=Tryz.isAgg5
 z5:=Tryz.sizeOf5
 v5:=Tryz.zeroValue5
 t9:=Tryz.underlying9
 a9:=Tryz.isAgg9
 z9:=Tryz.sizeOf9
 v9:=Tryz.zeroValue9
 t20:=Tryz.underlying20
 a20:=Tryz.isAgg20
 z20:=Tryz.sizeOf20
 v20:=Tryz.zeroValue20
 t21:=Tryz.underlying21
 a21:=Tryz.isAgg21
 z21:=Tryz.sizeOf21
 v21:=Tryz.zeroValue21
 t37:=Tryz.underlying90
 a37:=Tryz.isAgg90
 z37:=Tryz.sizeOf90
 v37:=Tryz.zeroValue90
 t46:=Tryz.underlying112
 a46:=Tryz.isAgg112
 z46:=Tryz.sizeOf112
 v46:=Tryz.zeroValue112
 t51:=Tryz.underlying170
 a51:=Tryz.isAgg170
 z51:=Tryz.sizeOf170
 v51:=Tryz.zeroValue170
 t53:=Tryz.underlying172
 a53:=Tryz.isAgg172
 z53:=Tryz.sizeOf172
 v53:=Tryz.zeroValue172
 t75:=Tryz.underlying94
 a75:=Tryz.isAgg94
 z75:=Tryz.sizeOf94
 v75:=Tryz.zeroValue94
 t76:=Tryz.underlying95
 a76:=Tryz.isAgg95
 z76:=Tryz.sizeOf95
 v76:=Tryz.zeroValue95
 t85:=Tryz.underlying207
 a85:=Tryz.isAgg207
 z85:=Tryz.sizeOf207
 v85:=Tryz.zeroValue207
 t127:=Tryz.underlying158
 a127:=Tryz.isAgg158
 z127:=Tryz.sizeOf158
 v127:=Tryz.zeroValue158
 t143:=Tryz.underlying257
 a143:=Tryz.isAgg257
 z143:=Tryz.sizeOf257
 v143:=Tryz.zeroValue257
 t145:=Tryz.underlying259
 a145:=Tryz.isAgg259
 z145:=Tryz.sizeOf259
 v145:=Tryz.zeroValue259
 t167:=Tryz.underlying206
 a167:=Tryz.isAgg206
 z167:=Tryz.sizeOf206
 v167:=Tryz.zeroValue206
 t168:=Tryz.underlying209
 a168:=Tryz.isAgg209
 z168:=Tryz.sizeOf209
 v168:=Tryz.zeroValue209
 t171:=Tryz.underlying225
 a171:=Tryz.isAgg225
 z171:=Tryz.sizeOf225
 v171:=Tryz.zeroValue225
 t173:=Tryz.underlying227
 a173:=Tryz.isAgg227
 z173:=Tryz.sizeOf227
 v173:=Tryz.zeroValue227
 t175:=Tryz.underlying235
 a175:=Tryz.isAgg235
 z175:=Tryz.sizeOf235
 v175:=Tryz.zeroValue235
 t210:=Tryz.underlying239
 a210:=Tryz.isAgg239
 z210:=Tryz.sizeOf239
 v210:=Tryz.zeroValue239
 t212:=Tryz.underlying254
 a212:=Tryz.isAgg254
 z212:=Tryz.sizeOf254
 v212:=Tryz.zeroValue254
 t213:=Tryz.underlying255
 a213:=Tryz.isAgg255
 z213:=Tryz.sizeOf255
 t232:=Tryz.underlying286
 a232:=Tryz.isAgg286
 z232:=Tryz.sizeOf286
 v232:=Tryz.zeroValue286
 t233:=Tryz.underlying287
 a233:=Tryz.isAgg287
 z233:=Tryz.sizeOf287
 v233:=Tryz.zeroValue287
 g15:=by kernel_rfl
 g16:=by kernel_rfl
 g17:=by kernel_rfl
 g18:=by kernel_rfl
 g19:=by kernel_rfl
 t80:=Tryz.underlying102
 a80:=Tryz.isAgg102
 z80:=Tryz.sizeOf102
 v80:=Tryz.zeroValue102
 i0:=by kernel_rfl
 i2:=by kernel_rfl
 i3:=by kernel_rfl
 i4:=by kernel_rfl
 i5:=by kernel_rfl
 i9:=by kernel_rfl
 i20:=by kernel_rfl
 i21:=by kernel_rfl
 i37:=by kernel_rfl
 i46:=by kernel_rfl
 i51:=by kernel_rfl
 i53:=by kernel_rfl
 i75:=by kernel_rfl
 i76:=by kernel_rfl
 i80:=by kernel_rfl
 i85:=by kernel_rfl
 i127:=by kernel_rfl
 i143:=by kernel_rfl
 i145:=by kernel_rfl
 i167:=by kernel_rfl
 i168:=by kernel_rfl
 i171:=by kernel_rfl
 i173:=by kernel_rfl
 i175:=by kernel_rfl
 i210:=by kernel_rfl
 i212:=by kernel_rfl
 i232:=by kernel_rfl
 i233:=by kernel_rfl
 m15:=by kernel_rfl
 m16:=by kernel_rfl
 m17:=by kernel_rfl
 m18:=by kernel_rfl
 m19:=by kernel_rfl
 c0:=by kernel_rfl
 c2:=by kernel_rfl
 c3:=by kernel_rfl
 c4:=by kernel_rfl
 c5:=by kernel_rfl
 c9:=by kernel_rfl
 c20:=by kernel_rfl
 c21:=by kernel_rfl
 c37:=by kernel_rfl
 c46:=by kernel_rfl
 c51:=by kernel_rfl
 c53:=by kernel_rfl
 c75:=by kernel_rfl
 c76:=by kernel_rfl
 c80:=by kernel_rfl
 c85:=by kernel_rfl
 c127:=by kernel_rfl
 c143:=by kernel_rfl
 c145:=by kernel_rfl
 c167:=by kernel_rfl
 c168:=by kernel_rfl
 c171:=by kernel_rfl
 c173:=by kernel_rfl
 c175:=by kernel_rfl
 c210:=by kernel_rfl
 c212:=by kernel_rfl
 c213:=by kernel_rfl
 c232:=by kernel_rfl
 c233:=by kernel_rfl }
open Go.RowKit in
theorem Tryz.strconv_Atoi_ok (s:ByteArray) (hmax:s.size≤9223372036854775806) (v:Int) (h:Lib.atoiAll s.data.toList=.ok v) (w:World) :
  Calls Tryz.prog 63 #[.string s] w fun e w'=>e=.returned (.tuple #[.int .i64 v,.nilIface])∧(w'=w∨∃t,w'=Lib.bytesWorld w 5 t):=Any.strconv_Atoi_ok Tryz.laysC172 s hmax v h w
open Go.RowKit in
theorem Tryz.strconv_Atoi_syntax_var (s:ByteArray) (hlim:s.size≤281474976710656) (h1:∀v,Lib.atoiAll s.data.toList≠.ok v) (h2:Lib.atoiAll s.data.toList≠.range) (tp:TypeId) (p:Value) (w:World) (hvar:w.var? Tryz.prog "strconv.ErrSyntax"=some #[.iface tp p]) :
  Calls Tryz.prog 63 #[.string s] w fun e w'=>∃N,e=.returned (.tuple #[.int .i64 0,.iface 209 (.pointer (some ⟨N,0,none⟩))])∧w.heap.size≤N∧w'.heap[N]?=some (.cells #[.string ⟨#[65,116,111,105]⟩,.string s,.iface tp p] 239 (0,0))∧Below w.heap.size w w':=Any.strconv_Atoi_syntax_var Tryz.laysC172 s hlim (by cases e:Lib.atoiAll s.data.toList<;>simp_all) tp p w hvar
open Go.RowKit in
theorem Tryz.strconv_Atoi_range_var (s:ByteArray) (hlim:s.size≤281474976710656) (h:Lib.atoiAll s.data.toList=.range) (tp:TypeId) (p:Value) (w:World) (hvar:w.var? Tryz.prog "strconv.ErrRange"=some #[.iface tp p]) :
  Calls Tryz.prog 63 #[.string s] w fun e w'=>∃N,e=.returned (.tuple #[.int .i64 (Lib.atoiSat s.data.toList),.iface 209 (.pointer (some ⟨N,0,none⟩))])∧w.heap.size≤N∧w'.heap[N]?=some (.cells #[.string ⟨#[65,116,111,105]⟩,.string s,.iface tp p] 239 (0,0))∧Below w.heap.size w w':=Any.strconv_Atoi_range_var Tryz.laysC172 s hlim h tp p w hvar
def Tryz.lays189_ren:Go.Shelf.Ren:=⟨fun|189=>165|125=>50|257=>195|128=>100|129=>101|294=>219|295=>220|296=>221|297=>222|298=>223|299=>224|216=>138|300=>225|301=>226|328=>232|329=>134|330=>135|331=>233|332=>234|215=>51|343=>235|n=>n,fun|28=>22|3=>3|46=>112|0=>0|51=>170|53=>172|4=>4|183=>164|182=>163|131=>98|5=>5|9=>9|218=>197|222=>135|228=>229|229=>230|n=>n,fun|n=>n⟩
theorem Tryz.lays189:Go.Proofs.Lays.n189 Tryz.prog Tryz.lays189_ren:={
 mixed:=by kernel_rfl
 f125:=Tryz.func50.trans (congrArg some (by kernel_rfl))
 f128:=Tryz.func100.trans (congrArg some (by kernel_rfl))
 f129:=Tryz.func101.trans (congrArg some (by kernel_rfl))
 f189:=Tryz.func165.trans (congrArg some (by kernel_rfl))
 f215:=Tryz.func51.trans (congrArg some (by kernel_rfl))
 f216:=Tryz.func138.trans (congrArg some (by kernel_rfl))
 f257:=Tryz.func195.trans (congrArg some (by kernel_rfl))
 f294:=Tryz.func219.trans (congrArg some (by kernel_rfl))
 f295:=Tryz.func220.trans (congrArg some (by kernel_rfl))
 f296:=Tryz.func221.trans (congrArg some (by kernel_rfl))
 f297:=Tryz.func222.trans (congrArg some (by kernel_rfl))
 f298:=Tryz.func223.trans (congrArg some (by kernel_rfl))
 f299:=Tryz.func224.trans (congrArg some (by kernel_rfl))
 f300:=Tryz.func225.trans (congrArg some (by kernel_rfl))
 f301:=Tryz.func226.trans (congrArg some (by kernel_rfl))
 f328:=Tryz.func232.trans (congrArg some (by kernel_rfl))
 f329:=Tryz.func134.trans (congrArg some (by kernel_rfl))
 f330:=Tryz.func135.trans (congrArg some (by kernel_rfl))
 f331:=Tryz.func233.trans (congrArg some (by kernel_rfl))
 f332:=Tryz.func234.trans (congrArg some (by kernel_rfl))
 f343:=Tryz.func235.trans (congrArg some (by kernel_rfl))
 t0:=Tryz.underlying0
 a0:=Tryz.isAgg0
 z0:=Tryz.sizeOf0
 v0:=Tryz.zeroValue0
 t3:=Tryz.underlying3
 a3:=Tryz.isAgg3
 z3:=Tryz.sizeOf3
 v3:=Tryz.zeroValue3
 t4:=Tryz.underlying4
 a4:=Tryz.isAgg4
 z4:=Tryz.sizeOf4
 v4:=Tryz.zeroValue4
 t5:=Tryz.underlying5
 a5:=Tryz.isAgg5
 z5:=Tryz.sizeOf5
 v5:=Tryz.zeroValue5
 t9:=Tryz.underlying9
 a9:=Tryz.isAgg9
 z9:=Tryz.sizeOf9
 v9:=Tryz.zeroValue9
 t28:=Tryz.underlying22
 a28:=Tryz.isAgg22
 z28:=Tryz.sizeOf22
 v28:=Tryz.zeroValue22
 t46:=Tryz.underlying112
 a46:=Tryz.isAgg112
 z46:=Tryz.sizeOf112
 v46:=Tryz.zeroValue112
 t51:=Tryz.underlying170
 a51:=Tryz.isAgg170
 z51:=Tryz.sizeOf170
 v51:=Tryz.zeroValue170
 t53:=Tryz.underlying172
 a53:=Tryz.isAgg172
 z53:=Tryz.sizeOf172
 v53:=Tryz.zeroValue172
 t131:=Tryz.underlying98
 a131:=Tryz.isAgg98
 z131:=Tryz.sizeOf98
 v131:=Tryz.zeroValue98
 t182:=Tryz.underlying163
 a182:=Tryz.isAgg163
 z182:=Tryz.sizeOf163
 v182:=Tryz.zeroValue163
 t183:=Tryz.underlying164
 a183:=Tryz.isAgg164
 z183:=Tryz.sizeOf164
 v183:=Tryz.zeroValue164
 t218:=Tryz.underlying197
 a218:=Tryz.isAgg197
 z218:=Tryz.sizeOf197
 v218:=Tryz.zeroValue197
 t222:=Tryz.underlying135
 a222:=Tryz.isAgg135
 z222:=Tryz.sizeOf135
 v222:=Tryz.zeroValue135
 t228:=Tryz.underlying229
 a228:=Tryz.isAgg229
 z228:=Tryz.sizeOf229
 v228:=Tryz.zeroValue229
 t229:=Tryz.underlying230
 a229:=Tryz.isAgg230
 z229:=Tryz.sizeOf230
 v229:=Tryz.zeroValue230 }
open Go.Sort Go.RowKit in
theorem Tryz.slices_Sort_int (blk off cap:Nat) (zs:List Int) (w:World) (hH:Holds (Value.int .i64) w blk off zs.toArray) (hblk:blk<w.heap.size) (hsz:zs.length<4611686018427387904) :
  Calls Tryz.prog 165 #[.slice (some ⟨blk,off,none⟩) zs.length cap] w fun e w' =>
   e=.returned (.tuple #[])∧∃n os,w'=grow (putRow (Value.int .i64) (Sort.ahead w n) blk off (zs.mergeSort fun x y=>decide (x≤y)).toArray) os:=Any.slices_Sort_int Tryz.lays189 blk off cap zs w hH hblk hsz
def Tryz.lays190_ren:Go.Shelf.Ren:=⟨fun|190=>116|125=>50|258=>157|128=>100|129=>101|302=>181|303=>182|304=>183|305=>184|306=>185|307=>186|308=>187|309=>188|310=>189|333=>209|329=>134|330=>135|334=>210|335=>211|336=>212|344=>231|n=>n,fun|31=>75|9=>9|3=>3|46=>112|0=>0|51=>170|53=>172|4=>4|183=>164|182=>163|131=>98|5=>5|218=>197|222=>135|228=>229|229=>230|n=>n,fun|n=>n⟩
theorem Tryz.lays190:Go.Proofs.Lays.n190 Tryz.prog Tryz.lays190_ren:={
 mixed:=by kernel_rfl
 f125:=Tryz.func50.trans (congrArg some (by kernel_rfl))
 f128:=Tryz.func100.trans (congrArg some (by kernel_rfl))
 f129:=Tryz.func101.trans (congrArg some (by kernel_rfl))
 f190:=Tryz.func116.trans (congrArg some (by kernel_rfl))
 f258:=Tryz.func157.trans (congrArg some (by kernel_rfl))
 f302:=Tryz.func181.trans (congrArg some (by kernel_rfl))
 f303:=Tryz.func182.trans (congrArg some (by kernel_rfl))
 f304:=Tryz.func183.trans (congrArg some (by kernel_rfl))
 f305:=Tryz.func184.trans (congrArg some (by kernel_rfl))
 f306:=Tryz.func185.trans (congrArg some (by kernel_rfl))
 f307:=Tryz.func186.trans (congrArg some (by kernel_rfl))
 f308:=Tryz.func187.trans (congrArg some (by kernel_rfl))
 f309:=Tryz.func188.trans (congrArg some (by kernel_rfl))
 f310:=Tryz.func189.trans (congrArg some (by kernel_rfl))
 f329:=Tryz.func134.trans (congrArg some (by kernel_rfl))
 f330:=Tryz.func135.trans (congrArg some (by kernel_rfl))
 f333:=Tryz.func209.trans (congrArg some (by kernel_rfl))
 f334:=Tryz.func210.trans (congrArg some (by kernel_rfl))
 f335:=Tryz.func211.trans (congrArg some (by kernel_rfl))
 f336:=Tryz.func212.trans (congrArg some (by kernel_rfl))
 f344:=Tryz.func231.trans (congrArg some (by kernel_rfl))
 t0:=Tryz.underlying0
 a0:=Tryz.isAgg0
 z0:=Tryz.sizeOf0
 v0:=Tryz.zeroValue0
 t3:=Tryz.underlying3
 a3:=Tryz.isAgg3
 z3:=Tryz.sizeOf3
 v3:=Tryz.zeroValue3
 t4:=Tryz.underlying4
 a4:=Tryz.isAgg4
 z4:=Tryz.sizeOf4
 v4:=Tryz.zeroValue4
 t5:=Tryz.underlying5
 a5:=Tryz.isAgg5
 z5:=Tryz.sizeOf5
 v5:=Tryz.zeroValue5
 t9:=Tryz.underlying9
 a9:=Tryz.isAgg9
 z9:=Tryz.sizeOf9
 v9:=Tryz.zeroValue9
 t31:=Tryz.underlying75
 a31:=Tryz.isAgg75
 z31:=Tryz.sizeOf75
 v31:=Tryz.zeroValue75
 t46:=Tryz.underlying112
 a46:=Tryz.isAgg112
 z46:=Tryz.sizeOf112
 v46:=Tryz.zeroValue112
 t51:=Tryz.underlying170
 a51:=Tryz.isAgg170
 z51:=Tryz.sizeOf170
 v51:=Tryz.zeroValue170
 t53:=Tryz.underlying172
 a53:=Tryz.isAgg172
 z53:=Tryz.sizeOf172
 v53:=Tryz.zeroValue172
 t131:=Tryz.underlying98
 a131:=Tryz.isAgg98
 z131:=Tryz.sizeOf98
 v131:=Tryz.zeroValue98
 t182:=Tryz.underlying163
 a182:=Tryz.isAgg163
 z182:=Tryz.sizeOf163
 v182:=Tryz.zeroValue163
 t183:=Tryz.underlying164
 a183:=Tryz.isAgg164
 z183:=Tryz.sizeOf164
 v183:=Tryz.zeroValue164
 t218:=Tryz.underlying197
 a218:=Tryz.isAgg197
 z218:=Tryz.sizeOf197
 v218:=Tryz.zeroValue197
 t222:=Tryz.underlying135
 a222:=Tryz.isAgg135
 z222:=Tryz.sizeOf135
 v222:=Tryz.zeroValue135
 t228:=Tryz.underlying229
 a228:=Tryz.isAgg229
 z228:=Tryz.sizeOf229
 v228:=Tryz.zeroValue229
 t229:=Tryz.underlying230
 a229:=Tryz.isAgg230
 z229:=Tryz.sizeOf230
 v229:=Tryz.zeroValue230 }
open Go.Sort Go.RowKit in
theorem Tryz.slices_Sort_string (blk off cap:Nat) (ss:List (List UInt8)) (w:World) (hH:Holds encStr w blk off ss.toArray) (hblk:blk<w.heap.size) (hsz:ss.length<4611686018427387904) :
  Calls Tryz.prog 116 #[.slice (some ⟨blk,off,none⟩) ss.length cap] w fun e w' =>
   e=.returned (.tuple #[])∧∃n os,w'=grow (putRow encStr (Sort.ahead w n) blk off (ss.mergeSort fun x y=>decide (x≤y)).toArray) os:=Any.slices_Sort_string Tryz.lays190 blk off cap ss w hH hblk hsz
def Tryz.laysNm220_ren:Go.Shelf.Ren:=⟨fun|20=>166|n=>n,fun|22=>22|3=>3|4=>4|0=>0|n=>n,fun|n=>n⟩
theorem Tryz.laysNm220:Go.Proofs.Lays2.n20 Tryz.prog Tryz.laysNm220_ren:={
 mixed:=by kernel_rfl
 f20:=Tryz.func166.trans (congrArg some (by kernel_rfl))
 t0:=Tryz.underlying0
 a0:=Tryz.isAgg0
 z0:=Tryz.sizeOf0
 v0:=Tryz.zeroValue0
 t3:=Tryz.underlying3
 a3:=Tryz.isAgg3
 z3:=Tryz.sizeOf3
 v3:=Tryz.zeroValue3
 t4:=Tryz.underlying4
 a4:=Tryz.isAgg4
 z4:=Tryz.sizeOf4
 v4:=Tryz.zeroValue4
 t22:=Tryz.underlying22
 a22:=Tryz.isAgg22
 z22:=Tryz.sizeOf22
 v22:=Tryz.zeroValue22
 i3:=by kernel_rfl }
open Go.RowKit Go.Lib Go.Sort in
theorem Tryz.slices_Compact_int_empty (a:Option Addr) (cap:Nat) (w:World) :
  Calls Tryz.prog 166 #[.slice a 0 cap] w fun e w'=>e=.returned (.slice a 0 cap)∧w'=w:=Any.slices_Compact_int_empty Tryz.laysNm220 a cap w
def Tryz.lays194_ren:Go.Shelf.Ren:=⟨fun|194=>73|n=>n,fun|31=>75|9=>9|3=>3|4=>4|0=>0|n=>n,fun|n=>n⟩
theorem Tryz.lays194:Go.Proofs.Lays.n194 Tryz.prog Tryz.lays194_ren:={
 mixed:=by kernel_rfl
 f194:=Tryz.func73.trans (congrArg some (by kernel_rfl))
 t0:=Tryz.underlying0
 a0:=Tryz.isAgg0
 z0:=Tryz.sizeOf0
 v0:=Tryz.zeroValue0
 t3:=Tryz.underlying3
 a3:=Tryz.isAgg3
 z3:=Tryz.sizeOf3
 v3:=Tryz.zeroValue3
 t4:=Tryz.underlying4
 a4:=Tryz.isAgg4
 z4:=Tryz.sizeOf4
 v4:=Tryz.zeroValue4
 t9:=Tryz.underlying9
 a9:=Tryz.isAgg9
 z9:=Tryz.sizeOf9
 v9:=Tryz.zeroValue9
 t31:=Tryz.underlying75
 a31:=Tryz.isAgg75
 z31:=Tryz.sizeOf75
 v31:=Tryz.zeroValue75 }
open Go.RowKit Go.Lib Go.Sort in
theorem Tryz.slices_Compact_string (blk off cap:Nat) (zs:List (List UInt8)) (w:World) (hH:Holds encStr w blk off zs.toArray) (hsz:zs.length≤9223372036854775807) (hcap:zs.length≤cap) :
  Calls Tryz.prog 73 #[.slice (some ⟨blk,off,none⟩) zs.length cap] w fun e w'=>e=.returned (.slice (some ⟨blk,off,none⟩) (Lib.compact zs).length cap)∧∃q,w'=putRow encStr (Sort.ahead w q) blk off (Lib.compact zs++List.replicate (zs.length - (Lib.compact zs).length) []).toArray:=Any.slices_Compact_string Tryz.lays194 blk off cap zs w hH hsz hcap
open Go.RowKit Go.Lib Go.Sort in
theorem Tryz.slices_Compact_string_empty (a:Option Addr) (cap:Nat) (w:World) :
  Calls Tryz.prog 73 #[.slice a 0 cap] w fun e w'=>e=.returned (.slice a 0 cap)∧w'=w:=Any.slices_Compact_string_empty Tryz.lays194 a cap w
open Go.RowKit Go.Lib Go.Sort in
theorem Tryz.slices_Compact_int_cells (b off n c:Nat) (zs:List Int) (w:World) (hz:n≤zs.length) (hbig:n≤9223372036854775807) (hcap:n≤c) (hc:∀j,j<zs.length→w.cell? ⟨b,off+j,none⟩=some (.int .i64 (zs.getD j 0))) (hf:∀j,j<n→w.frozen? ⟨b,off+j,none⟩=false) :
  Calls Tryz.prog 166 #[.slice (some ⟨b,off,none⟩) n c] w fun e w'=>e=.returned (.slice (some ⟨b,off,none⟩) (Lib.compact (zs.take n)).length c)∧∃q,w'=(w.drewN q).setCells b off ((Lib.compact (zs.take n)++List.replicate (n - (Lib.compact (zs.take n)).length) 0).map (Value.int .i64)):=Any.slices_Compact_int_cells Tryz.laysNm220 b off n c zs w hz hbig hcap hc hf
open Go.RowKit Go.Sort in
theorem Tryz.slices_Sort_string_none (p:Option Addr) (cap:Nat) (w:World) :
  Calls Tryz.prog 116 #[.slice p 0 cap] w fun e w'=>e=.returned (.tuple #[])∧w'=w:=Any.slices_Sort_string_none Tryz.lays190 p cap w
open Go.RowKit Go.Sort in
theorem Tryz.slices_Sort_int_none (p:Option Addr) (cap:Nat) (w:World) :
  Calls Tryz.prog 165 #[.slice p 0 cap] w fun e w'=>e=.returned (.tuple #[])∧w'=w:=Any.slices_Sort_int_none Tryz.lays189 p cap w
def Tryz.layJoin_ren:Go.Shelf.Ren:=⟨fun|156=>114|165=>156|166=>36|169=>41|240=>81|241=>180|276=>122|277=>208|n=>n,fun|31=>75|9=>9|3=>3|4=>4|0=>0|20=>20|72=>92|76=>95|70=>89|37=>90|75=>94|127=>158|164=>186|5=>5|80=>102|n=>n,fun|n=>n⟩
theorem Tryz.layJoin:Go.Proofs.Lays.n156 Tryz.prog Tryz.layJoin_ren:={
 mixed:=by kernel_rfl
 f156:=Tryz.func114.trans (congrArg some (by kernel_rfl))
 f165:=Tryz.func156.trans (congrArg some (by kernel_rfl))
 f166:=Tryz.func36.trans (congrArg some (by kernel_rfl))
 f169:=Tryz.func41.trans (congrArg some (by kernel_rfl))
 f240:=Tryz.func81.trans (congrArg some (by kernel_rfl))
 f241:=Tryz.func180.trans (congrArg some (by kernel_rfl))
 f276:=Tryz.func122.trans (congrArg some (by kernel_rfl))
 f277:=Tryz.func208.trans (congrArg some (by kernel_rfl))
 t0:=Tryz.underlying0
 a0:=Tryz.isAgg0
 z0:=Tryz.sizeOf0
 v0:=Tryz.zeroValue0
 t3:=Tryz.underlying3
 a3:=Tryz.isAgg3
 z3:=Tryz.sizeOf3
 v3:=Tryz.zeroValue3
 t4:=Tryz.underlying4
 a4:=Tryz.isAgg4
 z4:=Tryz.sizeOf4
 v4:=Tryz.zeroValue4
 t9:=Tryz.underlying9
 a9:=Tryz.isAgg9
 z9:=Tryz.sizeOf9
 v9:=Tryz.zeroValue9
 t20:=Tryz.underlying20
 a20:=Tryz.isAgg20
 z20:=Tryz.sizeOf20
 v20:=Tryz.zeroValue20
 t31:=Tryz.underlying75
 a31:=Tryz.isAgg75
 z31:=Tryz.sizeOf75
 v31:=Tryz.zeroValue75
 t37:=Tryz.underlying90
 a37:=Tryz.isAgg90
 z37:=Tryz.sizeOf90
 v37:=Tryz.zeroValue90
 t70:=Tryz.underlying89
 a70:=Tryz.isAgg89
 z70:=Tryz.sizeOf89
 v70:=Tryz.zeroValue89
 t72:=Tryz.underlying92
 a72:=Tryz.isAgg92
 z72:=Tryz.sizeOf92
 v72:=Tryz.zeroValue92
 t75:=Tryz.underlying94
 a75:=Tryz.isAgg94
 z75:=Tryz.sizeOf94
 v75:=Tryz.zeroValue94
 t76:=Tryz.underlying95
 a76:=Tryz.isAgg95
 z76:=Tryz.sizeOf95
 v76:=Tryz.zeroValue95
 t127:=Tryz.underlying158
 a127:=Tryz.isAgg158
 z127:=Tryz.sizeOf158
 v127:=Tryz.zeroValue158
 t164:=Tryz.underlying186
 a164:=Tryz.isAgg186
 z164:=Tryz.sizeOf186
 v164:=Tryz.zeroValue186 }
def Tryz.laySpl_ren:Go.Shelf.Ren:=⟨fun|146=>58|221=>104|268=>141|138=>142|143=>143|195=>173|197=>174|218=>175|219=>176|260=>202|217=>103|225=>203|224=>204|267=>205|266=>140|314=>230|n=>n,fun|9=>9|31=>75|3=>3|4=>4|0=>0|105=>233|21=>21|5=>5|46=>112|119=>277|139=>280|138=>279|146=>281|51=>170|n=>n,fun|1=>1|3=>5|4=>6|n=>n⟩
theorem Tryz.laySpl:Go.Proofs.Lays.n146 Tryz.prog Tryz.laySpl_ren:={
 mixed:=by kernel_rfl
 f138:=Tryz.func142.trans (congrArg some (by kernel_rfl))
 f143:=Tryz.func143.trans (congrArg some (by kernel_rfl))
 f146:=Tryz.func58.trans (congrArg some (by kernel_rfl))
 f195:=Tryz.func173.trans (congrArg some (by kernel_rfl))
 f197:=Tryz.func174.trans (congrArg some (by kernel_rfl))
 f217:=Tryz.func103.trans (congrArg some (by kernel_rfl))
 f218:=Tryz.func175.trans (congrArg some (by kernel_rfl))
 f219:=Tryz.func176.trans (congrArg some (by kernel_rfl))
 f221:=Tryz.func104.trans (congrArg some (by kernel_rfl))
 f224:=Tryz.func204.trans (congrArg some (by kernel_rfl))
 f225:=Tryz.func203.trans (congrArg some (by kernel_rfl))
 f260:=Tryz.func202.trans (congrArg some (by kernel_rfl))
 f266:=Tryz.func140.trans (congrArg some (by kernel_rfl))
 f267:=Tryz.func205.trans (congrArg some (by kernel_rfl))
 f268:=Tryz.func141.trans (congrArg some (by kernel_rfl))
 f314:=Tryz.func230.trans (congrArg some (by kernel_rfl))
 t0:=Tryz.underlying0
 a0:=Tryz.isAgg0
 z0:=Tryz.sizeOf0
 v0:=Tryz.zeroValue0
 t3:=Tryz.underlying3
 a3:=Tryz.isAgg3
 z3:=Tryz.sizeOf3
 v3:=Tryz.zeroValue3
 t4:=Tryz.underlying4
 a4:=Tryz.isAgg4
 z4:=Tryz.sizeOf4
 v4:=Tryz.zeroValue4
 t5:=Tryz.underlying5
 a5:=Tryz.isAgg5
 z5:=Tryz.sizeOf5
 v5:=Tryz.zeroValue5
 t9:=Tryz.underlying9
 a9:=Tryz.isAgg9
 z9:=Tryz.sizeOf9
 v9:=Tryz.zeroValue9
 t21:=Tryz.underlying21
 a21:=Tryz.isAgg21
 z21:=Tryz.sizeOf21
 v21:=Tryz.zeroValue21
 t31:=Tryz.underlying75
 a31:=Tryz.isAgg75
 z31:=Tryz.sizeOf75
 v31:=Tryz.zeroValue75
 t46:=Tryz.underlying112
 a46:=Tryz.isAgg112
 z46:=Tryz.sizeOf112
 v46:=Tryz.zeroValue112
 t51:=Tryz.underlying170
 a51:=Tryz.isAgg170
 z51:=Tryz.sizeOf170
 v51:=Tryz.zeroValue170
 t105:=Tryz.underlying233
 a105:=Tryz.isAgg233
 z105:=Tryz.sizeOf233
 v105:=Tryz.zeroValue233
 t119:=Tryz.underlying277
 a119:=Tryz.isAgg277
 z119:=Tryz.sizeOf277
 t138:=Tryz.underlying279
 a138:=Tryz.isAgg279
 z138:=Tryz.sizeOf279
 v138:=Tryz.zeroValue279
 t139:=Tryz.underlying280
 a139:=Tryz.isAgg280
 z139:=Tryz.sizeOf280
 v139:=Tryz.zeroValue280
 t146:=Tryz.underlying281
 a146:=Tryz.isAgg281
 z146:=Tryz.sizeOf281
 v146:=Tryz.zeroValue281
 g1:=by kernel_rfl
 g3:=by kernel_rfl
 g4:=by kernel_rfl }
end Go.Proofs
namespace Go.Proofs
open Go.Deep Go.Ab Go.RowKit Go.Lib Go.Sort
theorem Tryz.joinX:Builder.Extra Tryz.prog Tryz.layJoin_ren:=⟨⟨by kernel_rfl,by kernel_rfl⟩,Tryz.underlying5,Tryz.isAgg5,Tryz.sizeOf5,Tryz.zeroValue5,by kernel_rfl,by kernel_rfl,by kernel_rfl,by decide⟩
end Go.Proofs
namespace Go.Ab
open Go.Proofs Go.RowKit
theorem W_66 {s t:Str} {y:List Str} (hy:splI s t=some y):ACall Tryz.prog 58 [.str s,.str t] [] (fun r H=>r=.sl (y.map V.str)∧H=[]):=by
 have h:=acall_split Tryz.laySpl (by kernel_rfl) (by kernel_rfl) hy
 exact h
def joinI (xs:List Str) (sep:Str):Option Str:=chk (decide (xs.length≤140737488355328)&&decide ((Lib.join xs sep).length≤140737488355328)) (some (Lib.join xs sep))
theorem W_67 {xs:List Str} {sep y:Str} (hy:joinI xs sep=some y):ACall Tryz.prog 114 [.sl (xs.map V.str),.str sep] [] (fun r H=>r=.str y∧H=[]):=by
 unfold joinI chk at hy
 cases hc:(decide (xs.length≤140737488355328)&&decide ((Lib.join xs sep).length≤140737488355328)) with
 | false=>rw [hc] at hy;cases hy
 | true =>
  rw [hc] at hy
  obtain rfl:=Option.some.inj hy
  simp only [Bool.and_eq_true,decide_eq_true_eq] at hc
  obtain ⟨h1,h2⟩:=hc
  refine acall_step ⟨.str (Lib.join xs sep),[],[]⟩ (by kernel_rfl) fun g w vals hH hl hv=>?_
  obtain ⟨t,e1,e2,e3⟩:=(hv 1 _ rfl).str_inv
  have hrd:Rd g.S w (vals.getD 0 undef) (.sl (xs.map V.str)):=sl_rd (hv 0 _ rfl)
  rw [arr2' hl,e1]
  generalize vals.getD 0 undef=v0 at hrd
  have fin:∀w':World,Below w.heap.size w w'→∃v g',Ending.returned (.string ⟨(Lib.join xs sep).toArray⟩)=.returned v∧StepOK g [] w ⟨.str (Lib.join xs sep),[],[]⟩ g' w'∧Fresh [] g g' ⟨[],[]⟩ ⟨.str (Lib.join xs sep),[],[]⟩∧VR g' w' v (.str (Lib.join xs sep)):=fun w' hb =>
   ⟨_,g,rfl,StepOK.grown _ [] hH.lt hb.os hb.tape hb.output hb.size (fun b h _=>hb.block b h),Fresh.none _ _,str_vr _ (Nat.le_trans h2 (by decide))⟩
  have none_:∀(a:Option Addr) (c:Nat),xs=[]→Calls Tryz.prog 114 #[.slice a 0 c,.string t] w fun en w'=>∃v g',en=.returned v∧StepOK g [] w ⟨.str (Lib.join xs sep),[],[]⟩ g' w'∧Fresh [] g g' ⟨[],[]⟩ ⟨.str (Lib.join xs sep),[],[]⟩∧VR g' w' v (.str (Lib.join xs sep)):=by
   rintro a c rfl
   refine (Any.strings_Join_none Tryz.layJoin Tryz.joinX a c t w).mono ?_
   rintro en w' ⟨rfl,rfl⟩
   exact fin w' (Below.refl _ _)
  generalize hvs:xs.map V.str=vs at hrd
  cases hrd with
  | nilsl=>exact none_ none 0 (List.map_eq_nil_iff.1 hvs)
  | slz a c=>exact none_ (some a) c (List.map_eq_nil_iff.1 hvs)
  | sl bb oo len cap k cur e fz _ hS hg hln hm hcp hb hk hr =>
   by_cases hz:xs=[]
   ·have:len=0:=by rw [←hln,←hvs,hz];rfl
    subst this
    exact none_ _ cap hz
   ·have hlen:len=xs.length:=by rw [←hln,←hvs,List.length_map]
    have hk1:k=1:=by
     obtain ⟨x,r,rfl⟩:=List.exists_cons_of_ne_nil hz
     have:=(hk (V.str x) (by rw [←hvs];simp)).1
     simpa [V.cells] using this.symm
    subst hk1
    have hpos:0<xs.length:=List.length_pos_iff.2 hz
    have hid:xs.map ((fun b:ByteArray=>b.data.toList)∘fun s:Str=>(⟨s.toArray⟩:ByteArray))=xs:=by
     simp [Function.comp_def]
    have hj:=Any.strings_Join Tryz.layJoin Tryz.joinX bb oo cap (xs.map fun s=>(⟨s.toArray⟩:ByteArray)) t w (fun j x hx=>by
     rw [List.getElem?_map] at hx
     obtain ⟨s,hs,rfl⟩:=Option.map_eq_some_iff.1 hx
     have hjl:j<xs.length:=(List.getElem?_eq_some_iff.1 hs).1
     have h0:=hr j 0 (V.str s) (V.str s) (by rw [←hvs,List.getElem?_map,hs];rfl) rfl
     obtain ⟨q,q1,q2,_⟩:=(VR.rd (g:=g) h0).str_inv
     have hq:q=⟨s.toArray⟩:=by
      apply ByteArray.ext
      apply Array.toList_inj.1
      rw [q2]
     have hlt:oo+j<cur.size:=by omega
     simp only [Nat.mul_one,Nat.add_zero] at q1
     rw [Array.getD_eq_getD_getElem?,Array.getElem?_eq_getElem hlt,Option.getD_some] at q1
     simp only [World.cell?,hg]
     rw [Array.getElem?_eq_getElem hlt,q1,hq];rfl) (by
      have:=(Array.getElem?_eq_some_iff.1 hg).1
      exact this) (by rw [List.length_map];exact h1) (by rw [List.length_map];omega) (by rw [List.map_map,e2,hid];exact h2)
    rw [List.length_map,List.map_map,e2,hid] at hj
    rw [hlen]
    refine Calls.mono hj ?_
    rintro en w' ⟨rfl,hb'⟩
    exact fin w' hb'
theorem W_5o {n:Int} {y:Str} (hy:itoaI n=some y):ACall Tryz.prog 40 [.int .i64 n] [] (fun r H=>r=.str y∧H=[]):=by
 obtain ⟨hn,rfl⟩:=itoaI_inv hy
 have hn':-9223372036854775808≤n∧n≤9223372036854775807:=hn
 refine acall_grow (by kernel_rfl) fun g w vals hH hl hv=>?_
 rw [arr1 hl,(hv 0 _ rfl).int_inv.1]
 have ht:=(hH.tabs w (fun _ _=>rfl)).1 _ List.mem_cons_self (by kernel_rfl)
 refine (Tryz.strconv_Itoa n hn'.1 hn'.2 w ht).mono ?_
 rintro en w' ⟨rfl,k,os,rfl⟩
 exact ⟨_,rfl,fun g w'=>str_vr _ (Nat.le_trans (Lib.itoa_length_le n hn'.1 hn'.2) (by decide)),k,os,rfl⟩
theorem W_68 {s:Str} {y:Int} (hy:atoiI s=some y):ACall Tryz.prog 63 [.str s] [] (fun r H=>r=.tup [.int .i64 y,.any]∧H=[]):=by
 obtain ⟨hlen,rfl⟩:=atoiI_inv hy
 refine acall_step ⟨.tup [.int .i64 (atoiV s),.any],[],[]⟩ (by kernel_rfl) fun g w vals hH hl hv=>?_
 obtain ⟨t,e1,e2,e3⟩:=(hv 0 _ rfl).str_inv
 rw [arr1 hl,e1]
 have hts:t.data.toList.length=t.size:=Array.length_toList
 have hsz:t.size≤281474976710656:=by rw [←hts,e2];exact hlen
 have hr:=atoiV_rng s
 have fin:∀(w':World) (n:Int) (z:Value),n=atoiV s→Below w.heap.size w w'→∃v g',Ending.returned (.tuple #[.int .i64 n,z])=.returned v∧StepOK g [] w ⟨.tup [.int .i64 (atoiV s),.any],[],[]⟩ g' w'∧Fresh [] g g' ⟨[],[]⟩ ⟨.tup [.int .i64 (atoiV s),.any],[],[]⟩∧VR g' w' v (.tup [.int .i64 (atoiV s),.any]):=by
  rintro w' n z rfl hb
  refine ⟨_,g,rfl,StepOK.grown _ [] hH.lt hb.os hb.tape hb.output hb.size (fun b h _=>hb.block b h),Fresh.none _ _,.tup _ _ rfl fun i x hx=>?_⟩
  match i with
  | 0=>simp at hx;subst hx;exact .rd (.int _ _ (rng_iff.2 hr))
  | 1=>simp at hx;subst hx;exact .any _
  | i+2=>simp at hx
 have htab:=(hH.tabs w (fun _ _=>rfl)).2
 cases h:Lib.atoiAll s with
 | ok v =>
  refine (Tryz.strconv_Atoi_ok t (by omega) v (by rw [e2];exact h) w).mono ?_
  rintro en w' ⟨rfl,hw⟩
  refine fin w' v _ (by simp [atoiV,h]) ?_
  rcases hw with rfl|⟨u,rfl⟩
  ·exact Below.refl _ _
  ·exact Go.Joins.below_bytesWorld _ _ _ _ (Nat.le_refl _)
 | range =>
  obtain ⟨tp,p,hvar⟩:=htab "strconv.ErrRange" (by simp [errs0]) (by kernel_rfl)
  refine (Tryz.strconv_Atoi_range_var t hsz (by rw [e2];exact h) tp p w hvar).mono ?_
  rintro en w' ⟨N,rfl,_,_,hb⟩
  exact fin w' _ _ (by simp [atoiV,h,e2]) hb
 | _ =>
  obtain ⟨tp,p,hvar⟩:=htab "strconv.ErrSyntax" (by simp [errs0]) (by kernel_rfl)
  refine (Tryz.strconv_Atoi_syntax_var t hsz (by rw [e2,h];intro v hv;cases hv) (by rw [e2,h];intro hv;cases hv) tp p w hvar).mono ?_
  rintro en w' ⟨N,rfl,_,_,hb⟩
  exact fin w' 0 _ (by simp [atoiV,h]) hb
theorem W_69 {s:Str} {y:Int×Bool} (hy:atoiE s=some y):ACall Tryz.prog 63 [.str s] [] (fun r H=>r=.tup [.int .i64 y.1,.ifc y.2]∧H=[]):=by
 obtain ⟨hlen,rfl⟩:=atoiE_inv hy
 refine acall_step ⟨.tup [.int .i64 (atoiV s),.ifc (atoiB s)],[],[]⟩ (by kernel_rfl) fun g w vals hH hl hv=>?_
 obtain ⟨t,e1,e2,e3⟩:=(hv 0 _ rfl).str_inv
 rw [arr1 hl,e1]
 have hts:t.data.toList.length=t.size:=Array.length_toList
 have hsz:t.size≤281474976710656:=by rw [←hts,e2];exact hlen
 have hr:=atoiV_rng s
 have fin:∀(w':World) (n:Int) (z:Value),n=atoiV s→VR g w' z (.ifc (atoiB s))→Below w.heap.size w w'→∃v g',Ending.returned (.tuple #[.int .i64 n,z])=.returned v∧StepOK g [] w ⟨.tup [.int .i64 (atoiV s),.ifc (atoiB s)],[],[]⟩ g' w'∧Fresh [] g g' ⟨[],[]⟩ ⟨.tup [.int .i64 (atoiV s),.ifc (atoiB s)],[],[]⟩∧VR g' w' v (.tup [.int .i64 (atoiV s),.ifc (atoiB s)]):=by
  rintro w' n z rfl hz hb
  refine ⟨_,g,rfl,StepOK.grown _ [] hH.lt hb.os hb.tape hb.output hb.size (fun b h _=>hb.block b h),Fresh.none _ _,.tup _ _ rfl fun i x hx=>?_⟩
  match i with
  | 0=>simp at hx;subst hx;exact .rd (.int _ _ (rng_iff.2 hr))
  | 1=>simp at hx;subst hx;exact hz
  | i+2=>simp at hx
 have htab:=(hH.tabs w (fun _ _=>rfl)).2
 cases h:Lib.atoiAll s with
 | ok v =>
  refine (Tryz.strconv_Atoi_ok t (by omega) v (by rw [e2];exact h) w).mono ?_
  rintro en w' ⟨rfl,hw⟩
  refine fin w' v _ (by simp [atoiV,h]) (by simp only [atoiB,h];exact .rd .ifcn) ?_
  rcases hw with rfl|⟨u,rfl⟩
  ·exact Below.refl _ _
  ·exact Go.Joins.below_bytesWorld _ _ _ _ (Nat.le_refl _)
 | range =>
  obtain ⟨tp,p,hvar⟩:=htab "strconv.ErrRange" (by simp [errs0]) (by kernel_rfl)
  refine (Tryz.strconv_Atoi_range_var t hsz (by rw [e2];exact h) tp p w hvar).mono ?_
  rintro en w' ⟨N,rfl,_,_,hb⟩
  exact fin w' _ _ (by simp [atoiV,h,e2]) (by simp only [atoiB,h];exact .rd (.ifcs _ _)) hb
 | _ =>
  obtain ⟨tp,p,hvar⟩:=htab "strconv.ErrSyntax" (by simp [errs0]) (by kernel_rfl)
  refine (Tryz.strconv_Atoi_syntax_var t hsz (by rw [e2,h];intro v hv;cases hv) (by rw [e2,h];intro hv;cases hv) tp p w hvar).mono ?_
  rintro en w' ⟨N,rfl,_,_,hb⟩
  exact fin w' 0 _ (by simp [atoiV,h]) (by simp only [atoiB,h];exact .rd (.ifcs _ _)) hb
set_option maxRecDepth 20000
theorem cc_used (b:Nat) (w:World) (h0:w.cell? ⟨b,0,none⟩=some (.pointer (some ⟨b,0,none⟩))) :
  Calls Tryz.prog 81 #[.pointer (some ⟨b,0,none⟩)] w fun e w'=>e=.returned (.tuple #[])∧w'=w:=by
 obtain ⟨j,hj,hjs⟩:=Option.map_eq_some_iff.1 (show (Tryz.prog.info? 92).map (·.size)=some 2 by kernel_rfl)
 go_enter Tryz.func81,Tryz.ntmps81
 go_wp2
 rw [Lib.run_neq_ptr_same w _ Tryz.underlying89 hj]
 go_wp2
 go_end0
 exact ⟨rfl,rfl⟩
theorem cc_fresh (b:Nat) (w:World) (h0:w.cell? ⟨b,0,none⟩=some (.pointer none)) (hsh:w.shape? b=some (92,2)) (hfz:w.frozen? ⟨b,0,none⟩=false) :
  Calls Tryz.prog 81 #[.pointer (some ⟨b,0,none⟩)] w fun e w'=>e=.returned (.tuple #[])∧w'=w.setCell ⟨b,0,none⟩ (.pointer (some ⟨b,0,none⟩)):=by
 obtain ⟨j,hj,hjs⟩:=Option.map_eq_some_iff.1 (show (Tryz.prog.info? 92).map (·.size)=some 2 by kernel_rfl)
 go_enter Tryz.func81,Tryz.ntmps81
 go_wp2
 rw [Lib.run_to_unsafe w ⟨b,0,none⟩ Tryz.underlying89 Tryz.underlying186 hj (by rw [hjs];decide) hsh (Nat.zero_lt_succ 1)]
 simp only [Result.andThen]
 rw [Oper.upon_value]
 go_wp2
 rw [run_callFunc_extern Tryz.func122 (by kernel_rfl) (by kernel_rfl) (by kernel_rfl) (e:=Extern.AbiNoEscape.same) (by kernel_rfl)]
 rw [Lib.run_noEscape]
 simp only [Result.andThen]
 rw [Oper.upon_value]
 go_wp2
 rw [Lib.run_from_unsafe w ⟨b,0,none⟩ Tryz.underlying186 Tryz.underlying89 hj hsh (by kernel_rfl)]
 simp only [Result.andThen]
 rw [Oper.upon_value]
 go_wp2
 go_end0
 exact ⟨rfl,rfl⟩
theorem c_copyCheck (x:V):ACall Tryz.prog 81 [.ptr 1000 0] [(1000,.cells [.bptr 1000,x] (some 92))]
  (fun r H=>r=.tup []∧H=[(1000,.cells [.bptr 1000,x] (some 92))]):=by
 refine acall_step ⟨.tup [],[],[(1000,.cells [.bptr 1000,x] (some 92))]⟩ (by kernel_rfl) fun g w vals hH hl hv=>?_
 rw [arr1 hl]
 have h0:=(hv 0 _ rfl).ptr_inv
 rw [h0]
 obtain ⟨hn,cur,e,fz,h1,h2,⟨h3,h4⟩,h5⟩:=hH.obj 1000 _ rfl
 have h4:e=92:=by simpa [tyOK,tyUV] using h4
 subst h4
 simp only [List.length_cons,List.length_nil,Nat.zero_add,Nat.reduceAdd] at h2
 have hc0:w.cell? ⟨g.ρ 1000,0,none⟩=some (cur.getD 0 undef):=by
  simp [World.cell?,h1,Array.getD_eq_getD_getElem?,h2]
 have hp0:=h5 0 _ rfl
 rcases hp0.bptr_inv with hv0|hv0
 ·rw [hv0] at hc0
  refine (cc_fresh (g.ρ 1000) w hc0 (by simp [World.shape?,h1,h2]) ?_).mono ?_
  ·have:=h3.at (i:=0) (by omega)
   simp only [World.frozen?,h1]
   exact this
  rintro en w' ⟨rfl,rfl⟩
  have hlt:g.ρ 1000<w.heap.size:=(Array.getElem?_eq_some_iff.1 h1).1
  have hother:∀b,b≠g.ρ 1000→(w.setCell ⟨g.ρ 1000,0,none⟩ (.pointer (some ⟨g.ρ 1000,0,none⟩))).heap[b]?=w.heap[b]?:=by
   intro b hb
   simp only [World.setCell,Array.getElem?_modify]
   rw [if_neg fun e=>hb e.symm]
  have hkeep:Keep g.S w (w.setCell ⟨g.ρ 1000,0,none⟩ (.pointer (some ⟨g.ρ 1000,0,none⟩))):=Keep.upd hH (n:=1000) rfl hn hother
  refine ⟨_,g,rfl,StepOK.upd _ 1000 _ _ hH rfl hn rfl rfl rfl (by simp [World.setCell]) hother ?_,Fresh.upd _,.tup _ _ rfl fun i x hx=>by simp at hx⟩
  refine ⟨hn,cur.setIfInBounds 0 (.pointer (some ⟨g.ρ 1000,0,none⟩)),_,fz,?_,by simp [h2],⟨by simpa using h3,rfl⟩,fun i c hc=>?_⟩
  ·simp [World.setCell,Array.getElem?_modify,h1]
  ·match i with
   | 0=>simp at hc;subst hc;simp [Array.getD_eq_getD_getElem?,h2];exact .bself 1000
   | 1 =>
    simp at hc;subst hc
    have:=(h5 1 x rfl).mono (g':=g) hkeep (fun _ h=>h) fun id _=>Gh.agree.refl _ _
    have e1:(cur.setIfInBounds 0 (.pointer (some ⟨g.ρ 1000,0,none⟩))).getD 1 undef=cur.getD 1 undef:=by
     simp [Array.getD_eq_getD_getElem?,Array.getElem?_setIfInBounds]
    rw [e1];exact this
   | i+2=>simp at hc
 ·rw [hv0] at hc0
  refine (cc_used (g.ρ 1000) w hc0).mono ?_
  rintro en w' ⟨rfl,rfl⟩
  refine ⟨_,g,rfl,StepOK.upd _ 1000 _ _ hH rfl hn rfl rfl rfl rfl (fun _ _=>rfl) (hH.obj 1000 _ rfl),Fresh.upd _,.tup _ _ rfl fun i x hx=>by simp at hx⟩
def m_strings_Builder_WriteString:MC :=
 (.seq (.reg [⟨.mv (.c (.int .i64 0)),(some 4),none⟩,
 ⟨.mv (.c .nili),(some 5),none⟩])
 (.seq (.reg [⟨.mv (.t 0),(some 6),none⟩,
 ⟨.call (.f 81) [(.t 6)] [1000] [],(some 7),none⟩])
 (.seq (.reg [⟨.mv (.t 0),(some 8),none⟩,
 ⟨.mv (.t 0),(some 9),none⟩,
 ⟨.nck (.t 9),(some 10),none⟩,
 ⟨.fad 1 (.t 10),(some 11),none⟩,
 ⟨.ld none (.t 11),(some 12),none⟩,
 ⟨.mv (.t 1),(some 13),none⟩,
 ⟨.app 1 1 (.t 12) (.t 13) (some 5),(some 14),none⟩,
 ⟨.nck (.t 8),(some 15),none⟩,
 ⟨.fad 1 (.t 15),(some 16),none⟩,
 ⟨.st 1 (.t 16) (.t 14),none,none⟩])
 (.seq (.note (.ren 14 1002) (.reg [⟨.mv (.t 1),(some 17),none⟩,
 ⟨.len true (.t 17),(some 18),none⟩,
 ⟨.mv (.t 18),(some 4),none⟩,
 ⟨.mv (.c .nili),(some 5),none⟩]))
 .ret))))
theorem ok_strings_Builder_WriteString:m_strings_Builder_WriteString.ok Tryz.prog Tryz.f36.ntmps (Tryz.f36.body.getD .skip)=true:=by kernel_rfl
theorem c_WriteString {bs s:List UInt8} (hlen:bs.length+s.length≤140737488355328):ACall Tryz.prog 36 [.ptr 1000 0,.str s]
  [(1000,.cells [.bptr 1000,.osl 1001 1 0 bs.length] (some 92)),(1001,.arr 1 (bs.map byteV) (some 5))]
  (fun r H=>r=.tup [.int .i64 s.length,.nili]∧H=[(1000,.cells [.bptr 1000,.osl 1002 1 0 (bs.length+s.length)] (some 92)),(1002,.arr 1 ((bs++s).map byteV) (some 5))]):=by
 refine acall_mach [1000,1002] [.t 4,.t 5] Tryz.func36 rfl (by kernel_rfl) (by kernel_rfl) ok_strings_Builder_WriteString (by kernel_rfl) rfl rfl fun M hf=>?_
 unfold m_strings_Builder_WriteString
 simp only [go_sem,Nat.reduceBEq,Nat.reduceAdd,Nat.reduceLeDiff,Nat.reduceSub]
 refine sCall_of (c_copyCheck _) rfl rfl ?_
 rw [M.lok_eq]
 simp only [go_sem,Nat.reduceBEq,Nat.reduceAdd,Nat.reduceLeDiff,Nat.reduceSub]
 exact ⟨by omega,by omega⟩
theorem bs_some (b g o cap:Nat) (p:Value) (cur:Array Value) (fz:Nat×Nat) (l:List UInt8) (w:World) (T:TypeId) (fb:Nat×Nat) (hbk:w.heap[b]?=some (.cells #[p,.slice (some ⟨g,o,none⟩) l.length cap] T fb)) (hg:w.heap[g]?=some (.cells cur 5 fz)) (h0:l≠[])
  (hcap:l.length≤cap) (hn:o+l.length≤cur.size) (h63:l.length≤9223372036854775807) (hcell:∀j x,l[j]?=some x→w.cell? ((⟨g,o,none⟩:Addr).add j)=some (.int .u8 x.toNat)) :
  Calls Tryz.prog 41 #[.pointer (some ⟨b,0,none⟩)] w fun e w'=>e=.returned (.string ⟨l.toArray⟩)∧w'=w.drew.freeze ⟨g,o,none⟩ l.length:=by
 have hl0:l.length≠0:=by simpa using h0
 have c1:w.drew.cell? ⟨b,1,none⟩=some (.slice (some ⟨g,o,none⟩) l.length cap):=by
  have:w.drew.heap[b]?=some (.cells #[p,.slice (some ⟨g,o,none⟩) l.length cap] T fb):=hbk
  simp [World.cell?,this]
 have hSD:(Builtin.unsafeSliceData_ #[90] 158 #[.slice (some ⟨g,o,none⟩) l.length cap]).run Tryz.prog w.drew=.ok (.pointer (some ⟨g,o,none⟩)) w.drew :=
  Lib.run_unsafeSliceData_row _ _ _ _ _ _ (by omega)
 have hUS:(Builtin.unsafeString_ #[158,3] 9 #[.pointer (some ⟨g,o,none⟩),.int .i64 l.length]).run Tryz.prog w.drew=.ok (.string ⟨l.toArray⟩) (w.drew.freeze ⟨g,o,none⟩ l.length):=by
  refine run_unsafeString_at w.drew 158 3 9 5 Tryz.underlying158 (by kernel_rfl) g o cur.size (by have hg':w.drew.heap[g]?=some (.cells cur 5 fz):=hg;simp [World.shape?,hg']) l h0 hn h63 hcell
 clear hcell hn h63 h0
 have mixed:Tryz.prog.follows .mixedOrders=true:=by kernel_rfl
 go_enter Tryz.func41,Tryz.ntmps41
 go_wp2
 go_region_o
 all_goals (go_wp2;go_ret;exact ⟨rfl,rfl⟩)
theorem bs_nil (b:Nat) (p:Value) (w:World) (T:TypeId) (fb:Nat×Nat) (hbk:w.heap[b]?=some (.cells #[p,.slice none 0 0] T fb)) :
  Calls Tryz.prog 41 #[.pointer (some ⟨b,0,none⟩)] w fun e w'=>e=.returned (.string ⟨#[]⟩)∧w'=w.drew:=by
 have hUS:∀(W:World) (q:Option Addr),(Builtin.unsafeString_ #[158,3] 9 #[.pointer q,.int .i64 0]).run Tryz.prog W=.ok (.string .empty) W:=fun W q=>Lib.run_unsafeString_none W _ _ _ q
 have c1:w.drew.cell? ⟨b,1,none⟩=some (.slice none 0 0):=by
  have:w.drew.heap[b]?=some (.cells #[p,.slice none 0 0] T fb):=hbk
  simp [World.cell?,this]
 have hSD:(Builtin.unsafeSliceData_ #[90] 158 #[.slice none 0 0]).run Tryz.prog w.drew=.ok (.pointer none) w.drew:=rfl
 have mixed:Tryz.prog.follows .mixedOrders=true:=by kernel_rfl
 go_enter Tryz.func41,Tryz.ntmps41
 go_wp2
 go_region_o
 all_goals (go_wp2;go_ret;exact ⟨rfl,rfl⟩)
theorem bs_room (b g o cap:Nat) (p:Value) (w:World) (T:TypeId) (fb:Nat×Nat) (hc0:cap≠0) (hbk:w.heap[b]?=some (.cells #[p,.slice (some ⟨g,o,none⟩) 0 cap] T fb)) :
  Calls Tryz.prog 41 #[.pointer (some ⟨b,0,none⟩)] w fun e w'=>e=.returned (.string ⟨#[]⟩)∧w'=w.drew:=by
 have hUS:∀(W:World) (q:Option Addr),(Builtin.unsafeString_ #[158,3] 9 #[.pointer q,.int .i64 0]).run Tryz.prog W=.ok (.string .empty) W:=fun W q=>Lib.run_unsafeString_none W _ _ _ q
 have c1:w.drew.cell? ⟨b,1,none⟩=some (.slice (some ⟨g,o,none⟩) 0 cap):=by
  have:w.drew.heap[b]?=some (.cells #[p,.slice (some ⟨g,o,none⟩) 0 cap] T fb):=hbk
  simp [World.cell?,this]
 have hSD:(Builtin.unsafeSliceData_ #[90] 158 #[.slice (some ⟨g,o,none⟩) 0 cap]).run Tryz.prog w.drew=.ok (.pointer (some ⟨g,o,none⟩)) w.drew :=
  Lib.run_unsafeSliceData_row _ _ _ _ _ _ hc0
 clear hc0
 have mixed:Tryz.prog.follows .mixedOrders=true:=by kernel_rfl
 go_enter Tryz.func41,Tryz.ntmps41
 go_wp2
 go_region_o
 all_goals (go_wp2;go_ret;exact ⟨rfl,rfl⟩)
theorem bs_noroom (b g o:Nat) (p:Value) (w:World) (T:TypeId) (fb fz:Nat×Nat) (cur:Array Value) (e:TypeId) (hg:w.heap[g]?=some (.cells cur e fz)) (hbk:w.heap[b]?=some (.cells #[p,.slice (some ⟨g,o,none⟩) 0 0] T fb)) :
  Calls Tryz.prog 41 #[.pointer (some ⟨b,0,none⟩)] w fun e w'=>e=.returned (.string ⟨#[]⟩)∧w'=w.drew.alloc (.view ⟨g,o,none⟩ 5):=by
 have hUS:∀(W:World) (q:Option Addr),(Builtin.unsafeString_ #[158,3] 9 #[.pointer q,.int .i64 0]).run Tryz.prog W=.ok (.string .empty) W:=fun W q=>Lib.run_unsafeString_none W _ _ _ q
 have hlt:b<w.heap.size:=(Array.getElem?_eq_some_iff.1 hbk).1
 have c1:w.drew.cell? ⟨b,1,none⟩=some (.slice (some ⟨g,o,none⟩) 0 0):=by
  have:w.drew.heap[b]?=some (.cells #[p,.slice (some ⟨g,o,none⟩) 0 0] T fb):=hbk
  simp [World.cell?,this]
 have hSD:(Builtin.unsafeSliceData_ #[90] 158 #[.slice (some ⟨g,o,none⟩) 0 0]).run Tryz.prog w.drew=.ok (.pointer (some ⟨w.drew.heap.size,0,none⟩)) (w.drew.alloc (.view ⟨g,o,none⟩ 5)) :=
  Lib.run_unsafeSliceData_zero w.drew _ _ 5 Tryz.underlying158 ⟨g,o,none⟩ 0 (e,cur.size) (by have hg':w.drew.heap[g]?=some (.cells cur e fz):=hg;simp [World.shape?,hg'])
 have c2:(w.drew.alloc (.view ⟨g,o,none⟩ 5)).cell? ⟨b,1,none⟩=some (.slice (some ⟨g,o,none⟩) 0 0):=by
  have:(w.drew.alloc (.view ⟨g,o,none⟩ 5)).heap[b]?=some (.cells #[p,.slice (some ⟨g,o,none⟩) 0 0] T fb):=by
   simp only [World.alloc,World.drew]
   rw [Array.getElem?_push,if_neg (by omega)];exact hbk
  simp [World.cell?,this]
 have c0:w.cell? ⟨b,1,none⟩=some (.slice (some ⟨g,o,none⟩) 0 0):=by simp [World.cell?,hbk]
 clear hbk hg
 have mixed:Tryz.prog.follows .mixedOrders=true:=by kernel_rfl
 go_enter Tryz.func41,Tryz.ntmps41
 go_wp2
 go_region_o
 all_goals (go_wp2;go_ret;exact ⟨rfl,rfl⟩)
theorem c_String {p:V} {bs:List UInt8}:ACall Tryz.prog 41 [.ptr 1000 0]
  [(1000,.cells [p,.osl 1001 1 0 bs.length] (some 92)),(1001,.arr 1 (bs.map byteV) (some 5))] (fun r H=>r=.str bs∧H=[]):=by
 refine acall_step ⟨.str bs,[1000,1001],[]⟩ (by kernel_rfl) fun g w vals hH hl hv=>?_
 rw [arr1 hl,(hv 0 _ rfl).ptr_inv]
 obtain ⟨hn,cur,e,fz,h1,h2,⟨h3,h4⟩,h5⟩:=hH.obj 1000 _ rfl
 simp only [List.length_cons,List.length_nil,Nat.zero_add,Nat.reduceAdd] at h2
 have hcur:cur=#[cur.getD 0 undef,cur.getD 1 undef]:=arr2 h2
 have hv1:=h5 1 _ rfl
 rw [hcur] at h1
 have hrow:=hH.obj 1001 _ rfl
 have hlen:∀rb:Nat,rb=rb→True:=fun _ _=>trivial
 have fin:∀(en:Ending) (w':World),(en=.returned (.string ⟨bs.toArray⟩)∧(w'=w.drew∨(∃a t,w'=w.drew.alloc (.view a t))∨∃o n,¬g.nil 1001∧w'=w.drew.freeze ⟨g.ρ 1001,o,none⟩ n))→bs.length≤9223372036854775807 →
   ∃v g',en=.returned v∧StepOK g [(1000,.cells [p,.osl 1001 1 0 bs.length] (some 92)),(1001,.arr 1 (bs.map byteV) (some 5))] w ⟨.str bs,[1000,1001],[]⟩ g' w' ∧
    Fresh [(1000,.cells [p,.osl 1001 1 0 bs.length] (some 92)),(1001,.arr 1 (bs.map byteV) (some 5))] g g' ⟨[],[(1000,.cells [p,.osl 1001 1 0 bs.length] (some 92)),(1001,.arr 1 (bs.map byteV) (some 5))]⟩ ⟨.str bs,[1000,1001],[]⟩∧VR g' w' v (.str bs):=by
  rintro en w' ⟨rfl,hw⟩ hb
  refine ⟨_,g,rfl,?_,Fresh.none _ _,str_vr bs hb⟩
  rcases hw with rfl|⟨a,t,rfl⟩|⟨o,n,hnn,rfl⟩
  ·exact StepOK.grown _ _ hH.lt rfl rfl rfl (Nat.le_refl _) fun _ _ _=>rfl
  ·refine StepOK.grown _ _ hH.lt rfl rfl rfl (by show w.heap.size≤(w.heap.push _).size;simp) fun b hb _=>?_
   simp only [World.alloc,World.drew]
   rw [Array.getElem?_push,if_neg (by omega)]
  ·unfold World.freeze
   split
   ·exact StepOK.grown _ _ hH.lt rfl rfl rfl (Nat.le_refl _) fun _ _ _=>rfl
   ·refine StepOK.grown _ _ hH.lt rfl rfl rfl (by show w.heap.size≤(w.heap.modify _ _).size;simp) fun b hb hne=>?_
    have:=hne 1001 _ (by simp) rfl hnn
    simp only [World.drew,Array.getElem?_modify]
    rw [if_neg this]
 rcases hv1.osl_inv with ⟨hnil,ev,hn0⟩|⟨hnn,o',cc,ev,ho',hcap,hlc,hm⟩
 ·rw [ev] at h1
  have hb0:bs=[]:=List.eq_nil_of_length_eq_zero hn0
  subst hb0
  exact (bs_nil (g.ρ 1000) _ w e fz h1).mono fun en w' ⟨h6,h7⟩=>fin en w' ⟨h6,.inl h7⟩ (by simp)
 ·rcases hrow with ⟨hnil,_⟩|⟨_,hp,⟨rc,re,rf,k1,k2,⟨k3,k4⟩,k5⟩,k6,k7,k8⟩
  ·exact absurd hnil hnn
  have k4:re=5:=by simpa [tyOK,tyUV] using k4
  subst k4
  rw [ev] at h1
  by_cases hb0:bs=[]
  ·subst hb0
   by_cases hc0:cc=0
   ·subst hc0
    exact (bs_noroom (g.ρ 1000) (g.ρ 1001) o' _ w e fz rf rc _ k1 h1).mono fun en w' ⟨h6,h7⟩=>fin en w' ⟨h6,.inr (.inl ⟨_,_,h7⟩)⟩ (by simp)
   ·exact (bs_room (g.ρ 1000) (g.ρ 1001) o' cc _ w e fz hc0 h1).mono fun en w' ⟨h6,h7⟩=>fin en w' ⟨h6,.inl h7⟩ (by simp)
  ·have hbl:bs.length≠0:=by simpa using hb0
   have ho:o'=g.base 1001:=by
    rcases ho' with h|h
    ·omega
    ·simpa using h
   have h63:bs.length≤9223372036854775807:=maxLen_le (by omega)
   refine (bs_some (g.ρ 1000) (g.ρ 1001) o' cc _ rc rf bs w e fz h1 k1 hb0 hlc (by simp at k6;rw [k2,ho];omega) h63 ?_).mono fun en w' ⟨h6,h7⟩=>fin en w' ⟨h6,.inr (.inr ⟨_,_,hnn,h7⟩)⟩ h63
   intro j x hx
   have hrd:=k5 j 0 (byteV x) (byteV x) (by simp [hx]) rfl
   simp only [Nat.mul_one,Nat.add_zero] at hrd
   have hlt:g.base 1001+j<rc.size:=by
    have:=(List.getElem?_eq_some_iff.1 hx).1
    simp at k6;rw [k2];omega
   have hc:rc[g.base 1001+j]?=some (.int .u8 x.toNat):=by
    have h8:rc.getD (g.base 1001+j) undef=.int .u8 x.toNat:=by
     generalize rc.getD (g.base 1001+j) undef=u at hrd
     cases hrd;rfl
    rw [←h8];simp [Array.getD_eq_getD_getElem?,hlt]
   rw [Addr.add_lit]
   simp only [World.cell?,k1,ho,hc]
   rfl
theorem W_4n {bs s y:Str} (hy:bws bs s=some y):ACall Tryz.prog 36 [.ptr 1000 0,.str s] [(1000,.cells [.bptr 1000,.osl 1001 1 0 bs.length] (some 92)),(1001,.arr 1 (bs.map byteV) (some 5))]
  (fun r H=>r=.tup [.int .i64 s.length,.nili]∧H=[(1000,.cells [.bptr 1000,.osl 1002 1 0 y.length] (some 92)),(1002,.arr 1 (y.map byteV) (some 5))]):=by
 obtain ⟨h,rfl⟩:=bws_inv hy
 rw [List.length_append]
 exact c_WriteString h
theorem W_6a {bs y:Str} (hy:bstr bs=some y):ACall Tryz.prog 41 [.ptr 1000 0] [(1000,.cells [.bptr 1000,.osl 1001 1 0 bs.length] (some 92)),(1001,.arr 1 (bs.map byteV) (some 5))] (fun r H=>r=.str y∧H=[]):=by
 cases hy
 exact c_String
theorem W_5p {xs ys:List Int} (hy:sortI xs=some ys):ACall Tryz.prog 165 [.osl 1000 1 0 xs.length] [(1000,.arr 1 (xs.map (V.int .i64)))] (fun r H'=>r=.tup []∧H'=[(1000,.arr 1 (ys.map (V.int .i64)))]) :=
 acall_sortI' (by kernel_rfl) (fun blk off cap zs w h1 h2 h3=>Tryz.slices_Sort_int blk off cap zs w h1 h2 h3) (fun p cap w=>Tryz.slices_Sort_int_none p cap w) hy
theorem W_5q {xs:List Int} {y:Nat×List Int} (hy:compactI xs=some y):ACall Tryz.prog 166 [.osl 1000 1 0 xs.length] [(1000,.arr 1 (xs.map (V.int .i64)))] (fun r H'=>r=.osl 1000 1 0 y.1∧H'=[(1000,.arr 1 (y.2.map (V.int .i64)))]) :=
 acall_compactI' (by kernel_rfl) (fun b off n c zs w h1 h2 h3 h4 h5=>Tryz.slices_Compact_int_cells b off n c zs w h1 h2 h3 h4 h5) (fun p cap w=>Tryz.slices_Compact_int_empty p cap w) hy
theorem W_6b {xs ys:List Str} (hy:sortS xs=some ys):ACall Tryz.prog 116 [.osl 1000 1 0 xs.length] [(1000,.arr 1 (xs.map V.str))] (fun r H'=>r=.tup []∧H'=[(1000,.arr 1 (ys.map V.str))]) :=
 acall_sortS (by kernel_rfl) (fun blk off cap zs w h1 h2 h3=>Tryz.slices_Sort_string blk off cap zs w h1 h2 h3) (fun p cap w=>Tryz.slices_Sort_string_none p cap w) hy
theorem W_6c {xs:List Str} {y:Nat×List Str} (hy:compactS xs=some y):ACall Tryz.prog 73 [.osl 1000 1 0 xs.length] [(1000,.arr 1 (xs.map V.str))] (fun r H'=>r=.osl 1000 1 0 y.1∧H'=[(1000,.arr 1 (y.2.map V.str))]) :=
 acall_compactS (by kernel_rfl) (fun blk off cap zs w h1 h2 h3=>Tryz.slices_Compact_string blk off cap zs w h1 h2 h3) (fun p cap w=>Tryz.slices_Compact_string_empty p cap w) hy
instance Wi_split {s t:Str}:WI (splI s t) Tryz.prog 58 [.str s,.str t] [] (fun y=>.sl (y.map V.str)) (fun y=>[]):=⟨fun Q Q' h hQ=>by obtain ⟨y,hy,hq⟩:=h;exact (W_66 hy).mono fun r H' e=>by rw [e.1,e.2];exact hQ y hq⟩
instance Wi_join {xs:List Str} {sep:Str}:WI (joinI xs sep) Tryz.prog 114 [.sl (xs.map V.str),.str sep] [] (fun y=>.str y) (fun y=>[]):=⟨fun Q Q' h hQ=>by obtain ⟨y,hy,hq⟩:=h;exact (W_67 hy).mono fun r H' e=>by rw [e.1,e.2];exact hQ y hq⟩
instance Wi_itoa {n:Int}:WI (itoaI n) Tryz.prog 40 [.int .i64 n] [] (fun y=>.str y) (fun y=>[]):=⟨fun Q Q' h hQ=>by obtain ⟨y,hy,hq⟩:=h;exact (W_5o hy).mono fun r H' e=>by rw [e.1,e.2];exact hQ y hq⟩
instance Wi_atoi {s:Str}:WI (atoiI s) Tryz.prog 63 [.str s] [] (fun y=>.tup [.int .i64 y,.any]) (fun y=>[]):=⟨fun Q Q' h hQ=>by obtain ⟨y,hy,hq⟩:=h;exact (W_68 hy).mono fun r H' e=>by rw [e.1,e.2];exact hQ y hq⟩
instance Wi_atoiE {s:Str}:WI (atoiE s) Tryz.prog 63 [.str s] [] (fun y=>.tup [.int .i64 y.1,.ifc y.2]) (fun y=>[]):=⟨fun Q Q' h hQ=>by obtain ⟨y,hy,hq⟩:=h;exact (W_69 hy).mono fun r H' e=>by rw [e.1,e.2];exact hQ y hq⟩
end Go.Ab
