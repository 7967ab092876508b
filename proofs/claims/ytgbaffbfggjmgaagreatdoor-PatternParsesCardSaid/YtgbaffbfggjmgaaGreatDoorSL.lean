/- What the functions of this seat that lie on the laws' road compute (part SL), each for every input. By AI agents. -/
import Derived.Test.YtgbaffbfggjmgaaGreatDoorProg
import Derived.KernelRfl
import Derived.Test.YtgbaffbfggjmgaaGreatDoorAbSlib
import Derived.Test.YtgbaffbfggjmgaaGreatDoorAbStr
import Derived.Shelf.Strings.Builder1
import Derived.Shelf.Strings.Trim
import Derived.Shelf.Small.Utf8
import Derived.Shelf.Small.Strs
import Derived.Shelf.Small.Wraps
import Derived.Shelf.Strings.BuilderF
import Derived.Shelf.Strconv.Atoi
import Derived.Shelf.Strconv.Itoa0
import Derived.Shelf.Strconv.Itoa1
import Derived.Shelf.LaysM
import Derived.Shelf.Strconv.Itoa2
import Derived.Shelf.Strconv.Itoa3
import Derived.Shelf.Strconv.AtoiErrFast
import Derived.Shelf.Strconv.ParseIntEmpty
import Derived.Shelf.Strconv.AtoiFail
import Derived.Shelf.Strconv.Clone
import Derived.Shelf.Strconv.SyntaxError
import Derived.Shelf.LaysC
import Derived.Shelf.Strconv.ToError
import Derived.Shelf.Strconv.Lower
import Derived.Shelf.Strconv.ParseUint10
import Derived.Shelf.Strconv.ParseUint10Empty
import Derived.Shelf.Strconv.ParseUint10Any
import Derived.Shelf.Strconv.ParseInt10
import Derived.Shelf.Strconv.AtoiLong
import Derived.Shelf.Strconv.AtoiInnerAll
import Derived.Shelf.Strconv.RangeError
import Derived.Shelf.Strconv.ToErrorRange
import Derived.Shelf.Strconv.AtoiAll
import Derived.Shelf.Strconv.ErrVarAll
import Derived.Shelf.Strconv.ParseUintEmpty
import Derived.Shelf.Strings.Search1
import Derived.Shelf.Strings.Prefix
import Derived.Shelf.Unicode.Decode
import Derived.Shelf.Strings.Runes
import Derived.Shelf.Strings.AsciiSet
import Derived.Shelf.Unicode.DecodeSlow
import Derived.Shelf.Unicode.DecodeAny
import Derived.Shelf.Strings.SlTrimAscii
import Derived.Ground.NamesProg
import Derived.Shelf.Pu.Lays
import Derived.Ground.MpProg
import Derived.Deep.LoopGhost
import Derived.Test.YtgbaffbfggjmgaaGreatDoorAbPu
import Derived.LaidLaws
set_option linter.all false
set_option linter.all false
namespace Go.Proofs
open Go.Shelf
def Tryz.laysM171_ren:Go.Shelf.Ren:=⟨fun|171=>66|243=>80|246=>92|283=>99|284=>100|285=>101|286=>102|129=>112|317=>111|318=>113|319=>114|320=>115|337=>122|338=>123|n=>n,fun|3=>3|9=>9|2=>2|4=>4|171=>111|0=>0|53=>112|37=>43|5=>5|173=>115|212=>120|51=>121|20=>20|213=>122|46=>97|232=>138|233=>139|n=>n,fun|17=>0|18=>2|19=>3|n=>n⟩
theorem Tryz.laysM171:Go.Proofs.LaysM.n171 Tryz.prog Tryz.laysM171_ren:={
 mixed:=by kernel_rfl
 f129:=Tryz.func112.trans (congrArg some (by kernel_rfl))
 f171:=Tryz.func66.trans (congrArg some (by kernel_rfl))
 f243:=Tryz.func80.trans (congrArg some (by kernel_rfl))
 f246:=Tryz.func92.trans (congrArg some (by kernel_rfl))
 f283:=Tryz.func99.trans (congrArg some (by kernel_rfl))
 f284:=Tryz.func100.trans (congrArg some (by kernel_rfl))
 f285:=Tryz.func101.trans (congrArg some (by kernel_rfl))
 f286:=Tryz.func102.trans (congrArg some (by kernel_rfl))
 f317:=Tryz.func111.trans (congrArg some (by kernel_rfl))
 f318:=Tryz.func113.trans (congrArg some (by kernel_rfl))
 f319:=Tryz.func114.trans (congrArg some (by kernel_rfl))
 f320:=Tryz.func115.trans (congrArg some (by kernel_rfl))
 f337:=Tryz.func122.trans (congrArg some (by kernel_rfl))
 f338:=Tryz.func123.trans (congrArg some (by kernel_rfl))
 t0:=Tryz.underlying0
 a0:=Tryz.isAgg0
 z0:=Tryz.sizeOf0
 v0:=Tryz.zeroValue0
 t2:=Tryz.underlying2
 a2:=Tryz.isAgg2
 z2:=Tryz.sizeOf2
 v2:=Tryz.zeroValue2
 t3:=Tryz.underlying3
 a3:=Tryz.isAgg3
 z3:=Tryz.sizeOf3
 v3:=Tryz.zeroValue3
 t4:=Tryz.underlying4
 a4:=Tryz.isAgg4
 z4:=Tryz.sizeOf4
 v4:=Tryz.zeroValue4
 t5:=Tryz.underlying5
 a5:=Tryz.isAgg5
 z5:=Tryz.sizeOf5
 v5:=Tryz.zeroValue5
 t9:=Tryz.underlying9
 a9:=Tryz.isAgg9
 z9:=Tryz.sizeOf9
 v9:=Tryz.zeroValue9
 t20:=Tryz.underlying20
 a20:=Tryz.isAgg20
 z20:=Tryz.sizeOf20
 v20:=Tryz.zeroValue20
 t37:=Tryz.underlying43
 a37:=Tryz.isAgg43
 z37:=Tryz.sizeOf43
 v37:=Tryz.zeroValue43
 t46:=Tryz.underlying97
 a46:=Tryz.isAgg97
 z46:=Tryz.sizeOf97
 v46:=Tryz.zeroValue97
 t51:=Tryz.underlying121
 a51:=Tryz.isAgg121
 z51:=Tryz.sizeOf121
 v51:=Tryz.zeroValue121
 t53:=Tryz.underlying112
 a53:=Tryz.isAgg112
 z53:=Tryz.sizeOf112
 v53:=Tryz.zeroValue112
 t171:=Tryz.underlying111
 a171:=Tryz.isAgg111
 z171:=Tryz.sizeOf111
 v171:=Tryz.zeroValue111
 t173:=Tryz.underlying115
 a173:=Tryz.isAgg115
 z173:=Tryz.sizeOf115
 v173:=Tryz.zeroValue115
 t212:=Tryz.underlying120
 a212:=Tryz.isAgg120
 z212:=Tryz.sizeOf120
 v212:=Tryz.zeroValue120
 t213:=Tryz.underlying122
 a213:=Tryz.isAgg122
 z213:=Tryz.sizeOf122
 t232:=Tryz.underlying138
 a232:=Tryz.isAgg138
 z232:=Tryz.sizeOf138
 v232:=Tryz.zeroValue138
 t233:=Tryz.underlying139
 a233:=Tryz.isAgg139
 z233:=Tryz.sizeOf139
 v233:=Tryz.zeroValue139
 g17:=by kernel_rfl
 g18:=by kernel_rfl
 g19:=by kernel_rfl
 i0:=by kernel_rfl
 i2:=by kernel_rfl
 i3:=by kernel_rfl
 i4:=by kernel_rfl
 i5:=by kernel_rfl
 i9:=by kernel_rfl
 i20:=by kernel_rfl
 i37:=by kernel_rfl
 i46:=by kernel_rfl
 i51:=by kernel_rfl
 i53:=by kernel_rfl
 i171:=by kernel_rfl
 i173:=by kernel_rfl
 i212:=by kernel_rfl
 i232:=by kernel_rfl
 i233:=by kernel_rfl
 m17:=by kernel_rfl
 m18:=by kernel_rfl
 m19:=by kernel_rfl }
open Go.RowKit Go.Sort Go.Lib in
theorem Tryz.strconv_Itoa (n:Int) (h0:-9223372036854775808≤n) (h1:n≤9223372036854775807) (w:World) (htab:Lib.TabIs Tryz.prog w "internal/strconv.uint64pow10" .u64 Lib.pow10Tab) :
  Calls Tryz.prog 66 #[.int .i64 n] w fun e w'=>e=.returned (.string ⟨(Lib.itoa n).toArray⟩)∧∃k os,w'=grow (w.drewN k) os:=Any.strconv_Itoa Tryz.laysM171 n h0 h1 w htab
def Tryz.laysC172_ren:Go.Shelf.Ren:=⟨fun|172=>118|244=>130|245=>125|247=>140|279=>133|280=>134|281=>135|282=>136|287=>124|316=>141|171=>66|205=>142|321=>131|322=>132|243=>80|246=>92|283=>99|284=>100|285=>101|286=>102|129=>112|317=>111|318=>113|319=>114|320=>115|337=>122|338=>123|n=>n,fun|9=>9|3=>3|75=>79|76=>81|4=>4|5=>5|167=>140|37=>43|0=>0|85=>149|2=>2|168=>142|53=>112|175=>125|46=>97|210=>153|127=>84|145=>158|143=>156|21=>21|171=>111|173=>115|212=>120|51=>121|20=>20|213=>122|232=>138|233=>139|80=>67|n=>n,fun|15=>4|16=>5|17=>0|18=>2|19=>3|n=>n⟩
theorem Tryz.laysC172:Go.Proofs.LaysC.n172 Tryz.prog Tryz.laysC172_ren:={
 mixed:=by kernel_rfl
 f129:=Tryz.func112.trans (congrArg some (by kernel_rfl))
 f171:=Tryz.func66.trans (congrArg some (by kernel_rfl))
 f172:=Tryz.func118.trans (congrArg some (by kernel_rfl))
 f205:=Tryz.func142.trans (congrArg some (by kernel_rfl))
 f243:=Tryz.func80.trans (congrArg some (by kernel_rfl))
 f244:=Tryz.func130.trans (congrArg some (by kernel_rfl))
 f245:=Tryz.func125.trans (congrArg some (by kernel_rfl))
 f246:=Tryz.func92.trans (congrArg some (by kernel_rfl))
 f247:=Tryz.func140.trans (congrArg some (by kernel_rfl))
 f279:=Tryz.func133.trans (congrArg some (by kernel_rfl))
 f280:=Tryz.func134.trans (congrArg some (by kernel_rfl))
 f281:=Tryz.func135.trans (congrArg some (by kernel_rfl))
 f282:=Tryz.func136.trans (congrArg some (by kernel_rfl))
 f283:=Tryz.func99.trans (congrArg some (by kernel_rfl))
 f284:=Tryz.func100.trans (congrArg some (by kernel_rfl))
 f285:=Tryz.func101.trans (congrArg some (by kernel_rfl))
 f286:=Tryz.func102.trans (congrArg some (by kernel_rfl))
 f287:=Tryz.func124.trans (congrArg some (by kernel_rfl))
 f316:=Tryz.func141.trans (congrArg some (by kernel_rfl))
 f317:=Tryz.func111.trans (congrArg some (by kernel_rfl))
 f318:=Tryz.func113.trans (congrArg some (by kernel_rfl))
 f319:=Tryz.func114.trans (congrArg some (by kernel_rfl))
 f320:=Tryz.func115.trans (congrArg some (by kernel_rfl))
 f321:=Tryz.func131.trans (congrArg some (by kernel_rfl))
 f322:=Tryz.func132.trans (congrArg some (by kernel_rfl))
 f337:=Tryz.func122.trans (congrArg some (by kernel_rfl))
 f338:=Tryz.func123.trans (congrArg some (by kernel_rfl))
 t0:=Tryz.underlying0
 a0:=Tryz.isAgg0
 z0:=Tryz.sizeOf0
 v0:=Tryz.zeroValue0
 t2:=Tryz.underlying2
 a2:=Tryz.isAgg2
 z2:=Tryz.sizeOf2
 v2:=Tryz.zeroValue2
 t3:=Tryz.underlying3
 a3:=Tryz.isAgg3
 z3:=Tryz.sizeOf3
 v3:=Tryz.zeroValue3
 t4:=Tryz.underlying4
 a4:=Tryz.isAgg4
 z4:=Tryz.sizeOf4
 v4:=Tryz.zeroValue4
 t5:=Tryz.underlying5
 a5:=Tryz.isAgg5
 z5:=Tryz.sizeOf5
 v5:=Tryz.zeroValue5
 t9:=Tryz.underlying9
 a9:=Tryz.isAgg9
 z9:=Tryz.sizeOf9
 v9:=Tryz.zeroValue9
 t20:=Tryz.underlying20
 a20:=Tryz.isAgg20
 z20:=Tryz.sizeOf20
 v20:=Tryz.zeroValue20
 t21:=Tryz.underlying21
 a21:=Tryz.isAgg21
 z21:=Tryz.sizeOf21
 v21:=Tryz.zeroValue21
 t37:=Tryz.underlying43
 a37:=Tryz.isAgg43
 z37:=Tryz.sizeOf43
 v37:=Tryz.zeroValue43
 t46:=Tryz.underlying97
 a46:=Tryz.isAgg97
 z46:=Tryz.sizeOf97
 v46:=Tryz.zeroValue97
 t51:=Tryz.underlying121
 a51:=Tryz.isAgg121
 z51:=Tryz.sizeOf121
 v51:=Tryz.zeroValue121
 t53:=Tryz.underlying112
 a53:=Tryz.isAgg112
 z53:=Tryz.sizeOf112
 v53:=Tryz.zeroValue112
 t75:=Tryz.underlying79
 a75:=Tryz.isAgg79
 z75:=Tryz.sizeOf79
 v75:=Tryz.zeroValue79
 t76:=Tryz.underlying81
 a76:=Tryz.isAgg81
 z76:=Tryz.sizeOf81
 v76:=Tryz.zeroValue81
 t85:=Tryz.underlying149
 a85:=Tryz.isAgg149
 z85:=Tryz.sizeOf149
 v85:=Tryz.zeroValue149
 t127:=Tryz.underlying84
 a127:=Tryz.isAgg84
 z127:=Tryz.sizeOf84
 v127:=Tryz.zeroValue84
 t143:=Tryz.underlying156
 a143:=Tryz.isAgg156
 z143:=Tryz.sizeOf156
 v143:=Tryz.zeroValue156
 t145:=Tryz.underlying158
 a145:=Tryz.isAgg158
 z145:=Tryz.sizeOf158
 v145:=Tryz.zeroValue158
 t167:=Tryz.underlying140
 a167:=Tryz.isAgg140
 z167:=Tryz.sizeOf140
 v167:=Tryz.zeroValue140
 t168:=Tryz.underlying142
 a168:=Tryz.isAgg142
 z168:=Tryz.sizeOf142
 v168:=Tryz.zeroValue142
 t171:=Tryz.underlying111
 a171:=Tryz.isAgg111
 z171:=Tryz.sizeOf111
 v171:=Tryz.zeroValue111
 t173:=Tryz.underlying115
 a173:=Tryz.isAgg115
 z173:=Tryz.sizeOf115
 v173:=Tryz.zeroValue115
 t175:=Tryz.underlying125
 a175:=Tryz.isAgg125
 z175:=Tryz.sizeOf125
 v175:=Tryz.zeroValue125
 t210:=Tryz.underlying153
 a210:=Tryz.isAgg153
 z210:=Tryz.sizeOf153
 v210:=Tryz.zeroValue153
 t212:=Tryz.underlying120
 a212:=Tryz.isAgg120
 z212:=Tryz.sizeOf120
 v212:=Tryz.zeroValue120
 t213:=Tryz.underlying122
 a213:=Tryz.isAgg122
 z213:=Tryz.sizeOf122
 t232:=Tryz.underlying138
 a232:=Tryz.isAgg138
 z232:=Tryz.sizeOf138
 v232:=Tryz.zeroValue138
 t233:=Tryz.underlying139
 a233:=Tryz.isAgg139
 z233:=Tryz.sizeOf139
 v233:=Tryz.zeroValue139
 g15:=by kernel_rfl
 g16:=by kernel_rfl
 g17:=by kernel_rfl
 g18:=by kernel_rfl
 g19:=by kernel_rfl
 t80:=Tryz.underlying67
 a80:=Tryz.isAgg67
 z80:=Tryz.sizeOf67
 v80:=Tryz.zeroValue67
 i0:=by kernel_rfl
 i2:=by kernel_rfl
 i3:=by kernel_rfl
 i4:=by kernel_rfl
 i5:=by kernel_rfl
 i9:=by kernel_rfl
 i20:=by kernel_rfl
 i21:=by kernel_rfl
 i37:=by kernel_rfl
 i46:=by kernel_rfl
 i51:=by kernel_rfl
 i53:=by kernel_rfl
 i75:=by kernel_rfl
 i76:=by kernel_rfl
 i80:=by kernel_rfl
 i85:=by kernel_rfl
 i127:=by kernel_rfl
 i143:=by kernel_rfl
 i145:=by kernel_rfl
 i167:=by kernel_rfl
 i168:=by kernel_rfl
 i171:=by kernel_rfl
 i173:=by kernel_rfl
 i175:=by kernel_rfl
 i210:=by kernel_rfl
 i212:=by kernel_rfl
 i232:=by kernel_rfl
 i233:=by kernel_rfl
 m15:=by kernel_rfl
 m16:=by kernel_rfl
 m17:=by kernel_rfl
 m18:=by kernel_rfl
 m19:=by kernel_rfl
 c0:=by kernel_rfl
 c2:=by kernel_rfl
 c3:=by kernel_rfl
 c4:=by kernel_rfl
 c5:=by kernel_rfl
 c9:=by kernel_rfl
 c20:=by kernel_rfl
 c21:=by kernel_rfl
 c37:=by kernel_rfl
 c46:=by kernel_rfl
 c51:=by kernel_rfl
 c53:=by kernel_rfl
 c75:=by kernel_rfl
 c76:=by kernel_rfl
 c80:=by kernel_rfl
 c85:=by kernel_rfl
 c127:=by kernel_rfl
 c143:=by kernel_rfl
 c145:=by kernel_rfl
 c167:=by kernel_rfl
 c168:=by kernel_rfl
 c171:=by kernel_rfl
 c173:=by kernel_rfl
 c175:=by kernel_rfl
 c210:=by kernel_rfl
 c212:=by kernel_rfl
 c213:=by kernel_rfl
 c232:=by kernel_rfl
 c233:=by kernel_rfl }
open Go.RowKit in
theorem Tryz.strconv_Atoi_ok (s:ByteArray) (hmax:s.size≤9223372036854775806) (v:Int) (h:Lib.atoiAll s.data.toList=.ok v) (w:World) :
  Calls Tryz.prog 118 #[.string s] w fun e w'=>e=.returned (.tuple #[.int .i64 v,.nilIface])∧(w'=w∨∃t,w'=Lib.bytesWorld w 5 t):=Any.strconv_Atoi_ok Tryz.laysC172 s hmax v h w
open Go.RowKit in
theorem Tryz.strconv_Atoi_syntax_var (s:ByteArray) (hlim:s.size≤281474976710656) (h1:∀v,Lib.atoiAll s.data.toList≠.ok v) (h2:Lib.atoiAll s.data.toList≠.range) (tp:TypeId) (p:Value) (w:World) (hvar:w.var? Tryz.prog "strconv.ErrSyntax"=some #[.iface tp p]) :
  Calls Tryz.prog 118 #[.string s] w fun e w'=>∃N,e=.returned (.tuple #[.int .i64 0,.iface 142 (.pointer (some ⟨N,0,none⟩))])∧w.heap.size≤N∧w'.heap[N]?=some (.cells #[.string ⟨#[65,116,111,105]⟩,.string s,.iface tp p] 153 (0,0))∧Below w.heap.size w w':=Any.strconv_Atoi_syntax_var Tryz.laysC172 s hlim (by cases e:Lib.atoiAll s.data.toList<;>simp_all) tp p w hvar
open Go.RowKit in
theorem Tryz.strconv_Atoi_range_var (s:ByteArray) (hlim:s.size≤281474976710656) (h:Lib.atoiAll s.data.toList=.range) (tp:TypeId) (p:Value) (w:World) (hvar:w.var? Tryz.prog "strconv.ErrRange"=some #[.iface tp p]) :
  Calls Tryz.prog 118 #[.string s] w fun e w'=>∃N,e=.returned (.tuple #[.int .i64 (Lib.atoiSat s.data.toList),.iface 142 (.pointer (some ⟨N,0,none⟩))])∧w.heap.size≤N∧w'.heap[N]?=some (.cells #[.string ⟨#[65,116,111,105]⟩,.string s,.iface tp p] 153 (0,0))∧Below w.heap.size w w':=Any.strconv_Atoi_range_var Tryz.laysC172 s hlim h tp p w hvar
def Tryz.lays217_ren:Go.Shelf.Ren:=⟨fun|217=>98|266=>110|n=>n,fun|9=>9|5=>5|3=>3|n=>n,fun|n=>n⟩
theorem Tryz.lays217:Go.Proofs.Lays.n217 Tryz.prog Tryz.lays217_ren:={
 mixed:=by kernel_rfl
 f217:=Tryz.func98.trans (congrArg some (by kernel_rfl))
 f266:=Tryz.func110.trans (congrArg some (by kernel_rfl))
 t3:=Tryz.underlying3
 a3:=Tryz.isAgg3
 z3:=Tryz.sizeOf3
 v3:=Tryz.zeroValue3
 t5:=Tryz.underlying5
 a5:=Tryz.isAgg5
 z5:=Tryz.sizeOf5
 v5:=Tryz.zeroValue5
 t9:=Tryz.underlying9
 a9:=Tryz.isAgg9
 z9:=Tryz.sizeOf9
 v9:=Tryz.zeroValue9 }
open Go.RowKit Go.Lib in
theorem Tryz.stringslite_IndexByte (s:ByteArray) (c:Int) (w:World) :
  Calls Tryz.prog 98 #[.string s,.int .u8 c] w fun e w'=>e=.returned (.int .i64 (Lib.indexByte s.data.toList c.toNat.toUInt8))∧w'=w:=Any.stringslite_IndexByte Tryz.lays217 s c w
def Tryz.layTrl_ren:Go.Shelf.Ren:=⟨fun|161=>117|231=>126|227=>127|233=>128|235=>129|228=>137|197=>138|151=>139|260=>143|152=>144|137=>90|119=>145|224=>146|225=>147|217=>98|266=>110|n=>n,fun|9=>9|4=>4|3=>3|5=>5|117=>134|116=>133|0=>0|124=>137|105=>146|21=>21|119=>159|46=>97|139=>162|138=>161|n=>n,fun|3=>6|4=>7|n=>n⟩
theorem Tryz.layTrl:Go.Proofs.Lays.n161 Tryz.prog Tryz.layTrl_ren:={
 mixed:=by kernel_rfl
 f119:=Tryz.func145.trans (congrArg some (by kernel_rfl))
 f137:=Tryz.func90.trans (congrArg some (by kernel_rfl))
 f151:=Tryz.func139.trans (congrArg some (by kernel_rfl))
 f152:=Tryz.func144.trans (congrArg some (by kernel_rfl))
 f161:=Tryz.func117.trans (congrArg some (by kernel_rfl))
 f197:=Tryz.func138.trans (congrArg some (by kernel_rfl))
 f217:=Tryz.func98.trans (congrArg some (by kernel_rfl))
 f224:=Tryz.func146.trans (congrArg some (by kernel_rfl))
 f225:=Tryz.func147.trans (congrArg some (by kernel_rfl))
 f227:=Tryz.func127.trans (congrArg some (by kernel_rfl))
 f228:=Tryz.func137.trans (congrArg some (by kernel_rfl))
 f231:=Tryz.func126.trans (congrArg some (by kernel_rfl))
 f233:=Tryz.func128.trans (congrArg some (by kernel_rfl))
 f235:=Tryz.func129.trans (congrArg some (by kernel_rfl))
 f260:=Tryz.func143.trans (congrArg some (by kernel_rfl))
 f266:=Tryz.func110.trans (congrArg some (by kernel_rfl))
 t0:=Tryz.underlying0
 a0:=Tryz.isAgg0
 z0:=Tryz.sizeOf0
 v0:=Tryz.zeroValue0
 t3:=Tryz.underlying3
 a3:=Tryz.isAgg3
 z3:=Tryz.sizeOf3
 v3:=Tryz.zeroValue3
 t4:=Tryz.underlying4
 a4:=Tryz.isAgg4
 z4:=Tryz.sizeOf4
 v4:=Tryz.zeroValue4
 t5:=Tryz.underlying5
 a5:=Tryz.isAgg5
 z5:=Tryz.sizeOf5
 v5:=Tryz.zeroValue5
 t9:=Tryz.underlying9
 a9:=Tryz.isAgg9
 z9:=Tryz.sizeOf9
 v9:=Tryz.zeroValue9
 t21:=Tryz.underlying21
 a21:=Tryz.isAgg21
 z21:=Tryz.sizeOf21
 v21:=Tryz.zeroValue21
 t46:=Tryz.underlying97
 a46:=Tryz.isAgg97
 z46:=Tryz.sizeOf97
 v46:=Tryz.zeroValue97
 t105:=Tryz.underlying146
 a105:=Tryz.isAgg146
 z105:=Tryz.sizeOf146
 v105:=Tryz.zeroValue146
 t116:=Tryz.underlying133
 a116:=Tryz.isAgg133
 z116:=Tryz.sizeOf133
 t117:=Tryz.underlying134
 a117:=Tryz.isAgg134
 z117:=Tryz.sizeOf134
 v117:=Tryz.zeroValue134
 t119:=Tryz.underlying159
 a119:=Tryz.isAgg159
 z119:=Tryz.sizeOf159
 t124:=Tryz.underlying137
 a124:=Tryz.isAgg137
 z124:=Tryz.sizeOf137
 v124:=Tryz.zeroValue137
 t138:=Tryz.underlying161
 a138:=Tryz.isAgg161
 z138:=Tryz.sizeOf161
 v138:=Tryz.zeroValue161
 t139:=Tryz.underlying162
 a139:=Tryz.isAgg162
 z139:=Tryz.sizeOf162
 v139:=Tryz.zeroValue162
 g3:=by kernel_rfl
 g4:=by kernel_rfl }
def Tryz.layPu_ren:Go.Shelf.Ren:=⟨fun|14=>116|16=>124|17=>125|19=>131|20=>132|21=>133|22=>134|23=>135|24=>136|25=>141|27=>66|26=>142|28=>80|29=>92|30=>99|31=>100|32=>101|33=>102|35=>112|34=>111|36=>113|37=>114|38=>115|39=>122|40=>123|n=>n,fun|9=>9|3=>3|22=>112|24=>79|25=>125|4=>4|34=>140|5=>5|36=>97|37=>43|0=>0|39=>142|21=>21|44=>153|47=>84|50=>158|48=>156|2=>2|52=>111|55=>115|59=>120|60=>121|20=>20|61=>122|65=>138|66=>139|67=>67|n=>n,fun|0=>4|1=>5|2=>0|3=>2|4=>3|n=>n⟩
theorem Tryz.layPu:Go.Proofs.LaysPu.n14 Tryz.prog Tryz.layPu_ren:={
 mixed:=by kernel_rfl
 f14:=Tryz.func116.trans (congrArg some (by kernel_rfl))
 f16:=Tryz.func124.trans (congrArg some (by kernel_rfl))
 f17:=Tryz.func125.trans (congrArg some (by kernel_rfl))
 f19:=Tryz.func131.trans (congrArg some (by kernel_rfl))
 f20:=Tryz.func132.trans (congrArg some (by kernel_rfl))
 f21:=Tryz.func133.trans (congrArg some (by kernel_rfl))
 f22:=Tryz.func134.trans (congrArg some (by kernel_rfl))
 f23:=Tryz.func135.trans (congrArg some (by kernel_rfl))
 f24:=Tryz.func136.trans (congrArg some (by kernel_rfl))
 f25:=Tryz.func141.trans (congrArg some (by kernel_rfl))
 f26:=Tryz.func142.trans (congrArg some (by kernel_rfl))
 f27:=Tryz.func66.trans (congrArg some (by kernel_rfl))
 f28:=Tryz.func80.trans (congrArg some (by kernel_rfl))
 f29:=Tryz.func92.trans (congrArg some (by kernel_rfl))
 f30:=Tryz.func99.trans (congrArg some (by kernel_rfl))
 f31:=Tryz.func100.trans (congrArg some (by kernel_rfl))
 f32:=Tryz.func101.trans (congrArg some (by kernel_rfl))
 f33:=Tryz.func102.trans (congrArg some (by kernel_rfl))
 f34:=Tryz.func111.trans (congrArg some (by kernel_rfl))
 f35:=Tryz.func112.trans (congrArg some (by kernel_rfl))
 f36:=Tryz.func113.trans (congrArg some (by kernel_rfl))
 f37:=Tryz.func114.trans (congrArg some (by kernel_rfl))
 f38:=Tryz.func115.trans (congrArg some (by kernel_rfl))
 f39:=Tryz.func122.trans (congrArg some (by kernel_rfl))
 f40:=Tryz.func123.trans (congrArg some (by kernel_rfl))
 t0:=Tryz.underlying0
 a0:=Tryz.isAgg0
 z0:=Tryz.sizeOf0
 v0:=Tryz.zeroValue0
 i0:=by kernel_rfl
 t2:=Tryz.underlying2
 a2:=Tryz.isAgg2
 z2:=Tryz.sizeOf2
 v2:=Tryz.zeroValue2
 i2:=by kernel_rfl
 t3:=Tryz.underlying3
 a3:=Tryz.isAgg3
 z3:=Tryz.sizeOf3
 v3:=Tryz.zeroValue3
 i3:=by kernel_rfl
 t4:=Tryz.underlying4
 a4:=Tryz.isAgg4
 z4:=Tryz.sizeOf4
 v4:=Tryz.zeroValue4
 i4:=by kernel_rfl
 t5:=Tryz.underlying5
 a5:=Tryz.isAgg5
 z5:=Tryz.sizeOf5
 v5:=Tryz.zeroValue5
 i5:=by kernel_rfl
 t9:=Tryz.underlying9
 a9:=Tryz.isAgg9
 z9:=Tryz.sizeOf9
 v9:=Tryz.zeroValue9
 i9:=by kernel_rfl
 t20:=Tryz.underlying20
 a20:=Tryz.isAgg20
 z20:=Tryz.sizeOf20
 v20:=Tryz.zeroValue20
 i20:=by kernel_rfl
 t21:=Tryz.underlying21
 a21:=Tryz.isAgg21
 z21:=Tryz.sizeOf21
 v21:=Tryz.zeroValue21
 i21:=by kernel_rfl
 t22:=Tryz.underlying112
 a22:=Tryz.isAgg112
 z22:=Tryz.sizeOf112
 v22:=Tryz.zeroValue112
 i22:=by kernel_rfl
 t24:=Tryz.underlying79
 a24:=Tryz.isAgg79
 z24:=Tryz.sizeOf79
 v24:=Tryz.zeroValue79
 i24:=by kernel_rfl
 t25:=Tryz.underlying125
 a25:=Tryz.isAgg125
 z25:=Tryz.sizeOf125
 v25:=Tryz.zeroValue125
 i25:=by kernel_rfl
 t34:=Tryz.underlying140
 a34:=Tryz.isAgg140
 z34:=Tryz.sizeOf140
 v34:=Tryz.zeroValue140
 i34:=by kernel_rfl
 c34:=by kernel_rfl
 t36:=Tryz.underlying97
 a36:=Tryz.isAgg97
 z36:=Tryz.sizeOf97
 v36:=Tryz.zeroValue97
 i36:=by kernel_rfl
 t37:=Tryz.underlying43
 a37:=Tryz.isAgg43
 z37:=Tryz.sizeOf43
 v37:=Tryz.zeroValue43
 i37:=by kernel_rfl
 t39:=Tryz.underlying142
 a39:=Tryz.isAgg142
 z39:=Tryz.sizeOf142
 v39:=Tryz.zeroValue142
 i39:=by kernel_rfl
 t44:=Tryz.underlying153
 a44:=Tryz.isAgg153
 z44:=Tryz.sizeOf153
 v44:=Tryz.zeroValue153
 i44:=by kernel_rfl
 t47:=Tryz.underlying84
 a47:=Tryz.isAgg84
 z47:=Tryz.sizeOf84
 v47:=Tryz.zeroValue84
 i47:=by kernel_rfl
 t48:=Tryz.underlying156
 a48:=Tryz.isAgg156
 z48:=Tryz.sizeOf156
 v48:=Tryz.zeroValue156
 i48:=by kernel_rfl
 t50:=Tryz.underlying158
 a50:=Tryz.isAgg158
 z50:=Tryz.sizeOf158
 v50:=Tryz.zeroValue158
 i50:=by kernel_rfl
 t52:=Tryz.underlying111
 a52:=Tryz.isAgg111
 z52:=Tryz.sizeOf111
 v52:=Tryz.zeroValue111
 i52:=by kernel_rfl
 t55:=Tryz.underlying115
 a55:=Tryz.isAgg115
 z55:=Tryz.sizeOf115
 v55:=Tryz.zeroValue115
 i55:=by kernel_rfl
 t59:=Tryz.underlying120
 a59:=Tryz.isAgg120
 z59:=Tryz.sizeOf120
 v59:=Tryz.zeroValue120
 i59:=by kernel_rfl
 t60:=Tryz.underlying121
 a60:=Tryz.isAgg121
 z60:=Tryz.sizeOf121
 v60:=Tryz.zeroValue121
 i60:=by kernel_rfl
 t61:=Tryz.underlying122
 a61:=Tryz.isAgg122
 z61:=Tryz.sizeOf122
 t65:=Tryz.underlying138
 a65:=Tryz.isAgg138
 z65:=Tryz.sizeOf138
 v65:=Tryz.zeroValue138
 i65:=by kernel_rfl
 t66:=Tryz.underlying139
 a66:=Tryz.isAgg139
 z66:=Tryz.sizeOf139
 v66:=Tryz.zeroValue139
 i66:=by kernel_rfl
 t67:=Tryz.underlying67
 a67:=Tryz.isAgg67
 z67:=Tryz.sizeOf67
 v67:=Tryz.zeroValue67
 i67:=by kernel_rfl
 g0:=by kernel_rfl
 m0:=by kernel_rfl
 g1:=by kernel_rfl
 m1:=by kernel_rfl
 g2:=by kernel_rfl
 m2:=by kernel_rfl
 g3:=by kernel_rfl
 m3:=by kernel_rfl
 g4:=by kernel_rfl
 m4:=by kernel_rfl }
end Go.Proofs
namespace Go.Proofs
open Go.Deep Go.Ab Go.RowKit Go.Lib Go.Sort
end Go.Proofs
namespace Go.Ab
open Go.Proofs Go.RowKit
theorem W_5v {n:Int} {y:Str} (hy:itoaI n=some y):ACall Tryz.prog 66 [.int .i64 n] [] (fun r H=>r=.str y∧H=[]):=by
 obtain ⟨hn,rfl⟩:=itoaI_inv hy
 have hn':-9223372036854775808≤n∧n≤9223372036854775807:=hn
 refine acall_grow (by kernel_rfl) fun g w vals hH hl hv=>?_
 rw [arr1 hl,(hv 0 _ rfl).int_inv.1]
 have ht:=(hH.tabs w (fun _ _=>rfl)).1 _ List.mem_cons_self (by kernel_rfl)
 refine (Tryz.strconv_Itoa n hn'.1 hn'.2 w ht).mono ?_
 rintro en w' ⟨rfl,k,os,rfl⟩
 exact ⟨_,rfl,fun g w'=>str_vr _ (Nat.le_trans (Lib.itoa_length_le n hn'.1 hn'.2) (by decide)),k,os,rfl⟩
theorem W_5w {s:Str} {y:Int×Bool} (hy:atoiE s=some y):ACall Tryz.prog 118 [.str s] [] (fun r H=>r=.tup [.int .i64 y.1,.ifc y.2]∧H=[]):=by
 obtain ⟨hlen,rfl⟩:=atoiE_inv hy
 refine acall_step ⟨.tup [.int .i64 (atoiV s),.ifc (atoiB s)],[],[]⟩ (by kernel_rfl) fun g w vals hH hl hv=>?_
 obtain ⟨t,e1,e2,e3⟩:=(hv 0 _ rfl).str_inv
 rw [arr1 hl,e1]
 have hts:t.data.toList.length=t.size:=Array.length_toList
 have hsz:t.size≤281474976710656:=by rw [←hts,e2];exact hlen
 have hr:=atoiV_rng s
 have fin:∀(w':World) (n:Int) (z:Value),n=atoiV s→VR g w' z (.ifc (atoiB s))→Below w.heap.size w w'→∃v g',Ending.returned (.tuple #[.int .i64 n,z])=.returned v∧StepOK g [] w ⟨.tup [.int .i64 (atoiV s),.ifc (atoiB s)],[],[]⟩ g' w'∧Fresh [] g g' ⟨[],[]⟩ ⟨.tup [.int .i64 (atoiV s),.ifc (atoiB s)],[],[]⟩∧VR g' w' v (.tup [.int .i64 (atoiV s),.ifc (atoiB s)]):=by
  rintro w' n z rfl hz hb
  refine ⟨_,g,rfl,StepOK.grown _ [] hH.lt hb.os hb.tape hb.output hb.size (fun b h _=>hb.block b h),Fresh.none _ _,.tup _ _ rfl fun i x hx=>?_⟩
  match i with
  | 0=>simp at hx;subst hx;exact .rd (.int _ _ (rng_iff.2 hr))
  | 1=>simp at hx;subst hx;exact hz
  | i+2=>simp at hx
 have htab:=(hH.tabs w (fun _ _=>rfl)).2
 cases h:Lib.atoiAll s with
 | ok v =>
  refine (Tryz.strconv_Atoi_ok t (by omega) v (by rw [e2];exact h) w).mono ?_
  rintro en w' ⟨rfl,hw⟩
  refine fin w' v _ (by simp [atoiV,h]) (by simp only [atoiB,h];exact .rd .ifcn) ?_
  rcases hw with rfl|⟨u,rfl⟩
  ·exact Below.refl _ _
  ·exact Go.Joins.below_bytesWorld _ _ _ _ (Nat.le_refl _)
 | range =>
  obtain ⟨tp,p,hvar⟩:=htab "strconv.ErrRange" (by simp [errs0]) (by kernel_rfl)
  refine (Tryz.strconv_Atoi_range_var t hsz (by rw [e2];exact h) tp p w hvar).mono ?_
  rintro en w' ⟨N,rfl,_,_,hb⟩
  exact fin w' _ _ (by simp [atoiV,h,e2]) (by simp only [atoiB,h];exact .rd (.ifcs _ _)) hb
 | _ =>
  obtain ⟨tp,p,hvar⟩:=htab "strconv.ErrSyntax" (by simp [errs0]) (by kernel_rfl)
  refine (Tryz.strconv_Atoi_syntax_var t hsz (by rw [e2,h];intro v hv;cases hv) (by rw [e2,h];intro hv;cases hv) tp p w hvar).mono ?_
  rintro en w' ⟨N,rfl,_,_,hb⟩
  exact fin w' 0 _ (by simp [atoiV,h]) (by simp only [atoiB,h];exact .rd (.ifcs _ _)) hb
set_option maxRecDepth 20000
theorem cc_used (b:Nat) (w:World) (h0:w.cell? ⟨b,0,none⟩=some (.pointer (some ⟨b,0,none⟩))) :
  Calls Tryz.prog 79 #[.pointer (some ⟨b,0,none⟩)] w fun e w'=>e=.returned (.tuple #[])∧w'=w:=by
 obtain ⟨j,hj,hjs⟩:=Option.map_eq_some_iff.1 (show (Tryz.prog.info? 65).map (·.size)=some 2 by kernel_rfl)
 go_enter Tryz.func79,Tryz.ntmps79
 go_wp2
 rw [Lib.run_neq_ptr_same w _ Tryz.underlying63 hj]
 go_wp2
 go_end0
 exact ⟨rfl,rfl⟩
theorem cc_fresh (b:Nat) (w:World) (h0:w.cell? ⟨b,0,none⟩=some (.pointer none)) (hsh:w.shape? b=some (65,2)) (hfz:w.frozen? ⟨b,0,none⟩=false) :
  Calls Tryz.prog 79 #[.pointer (some ⟨b,0,none⟩)] w fun e w'=>e=.returned (.tuple #[])∧w'=w.setCell ⟨b,0,none⟩ (.pointer (some ⟨b,0,none⟩)):=by
 obtain ⟨j,hj,hjs⟩:=Option.map_eq_some_iff.1 (show (Tryz.prog.info? 65).map (·.size)=some 2 by kernel_rfl)
 go_enter Tryz.func79,Tryz.ntmps79
 go_wp2
 rw [Lib.run_to_unsafe w ⟨b,0,none⟩ Tryz.underlying63 Tryz.underlying105 hj (by rw [hjs];decide) hsh (Nat.zero_lt_succ 1)]
 simp only [Result.andThen]
 rw [Oper.upon_value]
 go_wp2
 rw [run_callFunc_extern Tryz.func91 (by kernel_rfl) (by kernel_rfl) (by kernel_rfl) (e:=Extern.AbiNoEscape.same) (by kernel_rfl)]
 rw [Lib.run_noEscape]
 simp only [Result.andThen]
 rw [Oper.upon_value]
 go_wp2
 rw [Lib.run_from_unsafe w ⟨b,0,none⟩ Tryz.underlying105 Tryz.underlying63 hj hsh (by kernel_rfl)]
 simp only [Result.andThen]
 rw [Oper.upon_value]
 go_wp2
 go_end0
 exact ⟨rfl,rfl⟩
theorem c_copyCheck (x:V):ACall Tryz.prog 79 [.ptr 1000 0] [(1000,.cells [.bptr 1000,x] (some 65))]
  (fun r H=>r=.tup []∧H=[(1000,.cells [.bptr 1000,x] (some 65))]):=by
 refine acall_step ⟨.tup [],[],[(1000,.cells [.bptr 1000,x] (some 65))]⟩ (by kernel_rfl) fun g w vals hH hl hv=>?_
 rw [arr1 hl]
 have h0:=(hv 0 _ rfl).ptr_inv
 rw [h0]
 obtain ⟨hn,cur,e,fz,h1,h2,⟨h3,h4⟩,h5⟩:=hH.obj 1000 _ rfl
 have h4:e=65:=by simpa [tyOK,tyUV] using h4
 subst h4
 simp only [List.length_cons,List.length_nil,Nat.zero_add,Nat.reduceAdd] at h2
 have hc0:w.cell? ⟨g.ρ 1000,0,none⟩=some (cur.getD 0 undef):=by
  simp [World.cell?,h1,Array.getD_eq_getD_getElem?,h2]
 have hp0:=h5 0 _ rfl
 rcases hp0.bptr_inv with hv0|hv0
 ·rw [hv0] at hc0
  refine (cc_fresh (g.ρ 1000) w hc0 (by simp [World.shape?,h1,h2]) ?_).mono ?_
  ·have:=h3.at (i:=0) (by omega)
   simp only [World.frozen?,h1]
   exact this
  rintro en w' ⟨rfl,rfl⟩
  have hlt:g.ρ 1000<w.heap.size:=(Array.getElem?_eq_some_iff.1 h1).1
  have hother:∀b,b≠g.ρ 1000→(w.setCell ⟨g.ρ 1000,0,none⟩ (.pointer (some ⟨g.ρ 1000,0,none⟩))).heap[b]?=w.heap[b]?:=by
   intro b hb
   simp only [World.setCell,Array.getElem?_modify]
   rw [if_neg fun e=>hb e.symm]
  have hkeep:Keep g.S w (w.setCell ⟨g.ρ 1000,0,none⟩ (.pointer (some ⟨g.ρ 1000,0,none⟩))):=Keep.upd hH (n:=1000) rfl hn hother
  refine ⟨_,g,rfl,StepOK.upd _ 1000 _ _ hH rfl hn rfl rfl rfl (by simp [World.setCell]) hother ?_,Fresh.upd _,.tup _ _ rfl fun i x hx=>by simp at hx⟩
  refine ⟨hn,cur.setIfInBounds 0 (.pointer (some ⟨g.ρ 1000,0,none⟩)),_,fz,?_,by simp [h2],⟨by simpa using h3,rfl⟩,fun i c hc=>?_⟩
  ·simp [World.setCell,Array.getElem?_modify,h1]
  ·match i with
   | 0=>simp at hc;subst hc;simp [Array.getD_eq_getD_getElem?,h2];exact .bself 1000
   | 1 =>
    simp at hc;subst hc
    have:=(h5 1 x rfl).mono (g':=g) hkeep (fun _ h=>h) fun id _=>Gh.agree.refl _ _
    have e1:(cur.setIfInBounds 0 (.pointer (some ⟨g.ρ 1000,0,none⟩))).getD 1 undef=cur.getD 1 undef:=by
     simp [Array.getD_eq_getD_getElem?,Array.getElem?_setIfInBounds]
    rw [e1];exact this
   | i+2=>simp at hc
 ·rw [hv0] at hc0
  refine (cc_used (g.ρ 1000) w hc0).mono ?_
  rintro en w' ⟨rfl,rfl⟩
  refine ⟨_,g,rfl,StepOK.upd _ 1000 _ _ hH rfl hn rfl rfl rfl rfl (fun _ _=>rfl) (hH.obj 1000 _ rfl),Fresh.upd _,.tup _ _ rfl fun i x hx=>by simp at hx⟩
def m_strings_Builder_WriteString:MC :=
 (.seq (.reg [⟨.mv (.c (.int .i64 0)),(some 4),none⟩,
 ⟨.mv (.c .nili),(some 5),none⟩])
 (.seq (.reg [⟨.mv (.t 0),(some 6),none⟩,
 ⟨.call (.f 79) [(.t 6)] [1000] [],(some 7),none⟩])
 (.seq (.reg [⟨.mv (.t 0),(some 8),none⟩,
 ⟨.mv (.t 0),(some 9),none⟩,
 ⟨.nck (.t 9),(some 10),none⟩,
 ⟨.fad 1 (.t 10),(some 11),none⟩,
 ⟨.ld none (.t 11),(some 12),none⟩,
 ⟨.mv (.t 1),(some 13),none⟩,
 ⟨.app 1 1 (.t 12) (.t 13) (some 5),(some 14),none⟩,
 ⟨.nck (.t 8),(some 15),none⟩,
 ⟨.fad 1 (.t 15),(some 16),none⟩,
 ⟨.st 1 (.t 16) (.t 14),none,none⟩])
 (.seq (.note (.ren 14 1002) (.reg [⟨.mv (.t 1),(some 17),none⟩,
 ⟨.len true (.t 17),(some 18),none⟩,
 ⟨.mv (.t 18),(some 4),none⟩,
 ⟨.mv (.c .nili),(some 5),none⟩]))
 .ret))))
theorem ok_strings_Builder_WriteString:m_strings_Builder_WriteString.ok Tryz.prog Tryz.f65.ntmps (Tryz.f65.body.getD .skip)=true:=by kernel_rfl
theorem c_WriteString {bs s:List UInt8} (hlen:bs.length+s.length≤140737488355328):ACall Tryz.prog 65 [.ptr 1000 0,.str s]
  [(1000,.cells [.bptr 1000,.osl 1001 1 0 bs.length] (some 65)),(1001,.arr 1 (bs.map byteV) (some 5))]
  (fun r H=>r=.tup [.int .i64 s.length,.nili]∧H=[(1000,.cells [.bptr 1000,.osl 1002 1 0 (bs.length+s.length)] (some 65)),(1002,.arr 1 ((bs++s).map byteV) (some 5))]):=by
 refine acall_mach [1000,1002] [.t 4,.t 5] Tryz.func65 rfl (by kernel_rfl) (by kernel_rfl) ok_strings_Builder_WriteString (by kernel_rfl) rfl rfl fun M hf=>?_
 unfold m_strings_Builder_WriteString
 simp only [go_sem,Nat.reduceBEq,Nat.reduceAdd,Nat.reduceLeDiff,Nat.reduceSub]
 refine sCall_of (c_copyCheck _) rfl rfl ?_
 rw [M.lok_eq]
 simp only [go_sem,Nat.reduceBEq,Nat.reduceAdd,Nat.reduceLeDiff,Nat.reduceSub]
 exact ⟨by omega,by omega⟩
theorem bs_some (b g o cap:Nat) (p:Value) (cur:Array Value) (fz:Nat×Nat) (l:List UInt8) (w:World) (T:TypeId) (fb:Nat×Nat) (hbk:w.heap[b]?=some (.cells #[p,.slice (some ⟨g,o,none⟩) l.length cap] T fb)) (hg:w.heap[g]?=some (.cells cur 5 fz)) (h0:l≠[])
  (hcap:l.length≤cap) (hn:o+l.length≤cur.size) (h63:l.length≤9223372036854775807) (hcell:∀j x,l[j]?=some x→w.cell? ((⟨g,o,none⟩:Addr).add j)=some (.int .u8 x.toNat)) :
  Calls Tryz.prog 49 #[.pointer (some ⟨b,0,none⟩)] w fun e w'=>e=.returned (.string ⟨l.toArray⟩)∧w'=w.drew.freeze ⟨g,o,none⟩ l.length:=by
 have hl0:l.length≠0:=by simpa using h0
 have c1:w.drew.cell? ⟨b,1,none⟩=some (.slice (some ⟨g,o,none⟩) l.length cap):=by
  have:w.drew.heap[b]?=some (.cells #[p,.slice (some ⟨g,o,none⟩) l.length cap] T fb):=hbk
  simp [World.cell?,this]
 have hSD:(Builtin.unsafeSliceData_ #[43] 84 #[.slice (some ⟨g,o,none⟩) l.length cap]).run Tryz.prog w.drew=.ok (.pointer (some ⟨g,o,none⟩)) w.drew :=
  Lib.run_unsafeSliceData_row _ _ _ _ _ _ (by omega)
 have hUS:(Builtin.unsafeString_ #[84,3] 9 #[.pointer (some ⟨g,o,none⟩),.int .i64 l.length]).run Tryz.prog w.drew=.ok (.string ⟨l.toArray⟩) (w.drew.freeze ⟨g,o,none⟩ l.length):=by
  refine run_unsafeString_at w.drew 84 3 9 5 Tryz.underlying84 (by kernel_rfl) g o cur.size (by have hg':w.drew.heap[g]?=some (.cells cur 5 fz):=hg;simp [World.shape?,hg']) l h0 hn h63 hcell
 clear hcell hn h63 h0
 have mixed:Tryz.prog.follows .mixedOrders=true:=by kernel_rfl
 go_enter Tryz.func49,Tryz.ntmps49
 go_wp2
 go_region_o
 all_goals (go_wp2;go_ret;exact ⟨rfl,rfl⟩)
theorem bs_nil (b:Nat) (p:Value) (w:World) (T:TypeId) (fb:Nat×Nat) (hbk:w.heap[b]?=some (.cells #[p,.slice none 0 0] T fb)) :
  Calls Tryz.prog 49 #[.pointer (some ⟨b,0,none⟩)] w fun e w'=>e=.returned (.string ⟨#[]⟩)∧w'=w.drew:=by
 have hUS:∀(W:World) (q:Option Addr),(Builtin.unsafeString_ #[84,3] 9 #[.pointer q,.int .i64 0]).run Tryz.prog W=.ok (.string .empty) W:=fun W q=>Lib.run_unsafeString_none W _ _ _ q
 have c1:w.drew.cell? ⟨b,1,none⟩=some (.slice none 0 0):=by
  have:w.drew.heap[b]?=some (.cells #[p,.slice none 0 0] T fb):=hbk
  simp [World.cell?,this]
 have hSD:(Builtin.unsafeSliceData_ #[43] 84 #[.slice none 0 0]).run Tryz.prog w.drew=.ok (.pointer none) w.drew:=rfl
 have mixed:Tryz.prog.follows .mixedOrders=true:=by kernel_rfl
 go_enter Tryz.func49,Tryz.ntmps49
 go_wp2
 go_region_o
 all_goals (go_wp2;go_ret;exact ⟨rfl,rfl⟩)
theorem bs_room (b g o cap:Nat) (p:Value) (w:World) (T:TypeId) (fb:Nat×Nat) (hc0:cap≠0) (hbk:w.heap[b]?=some (.cells #[p,.slice (some ⟨g,o,none⟩) 0 cap] T fb)) :
  Calls Tryz.prog 49 #[.pointer (some ⟨b,0,none⟩)] w fun e w'=>e=.returned (.string ⟨#[]⟩)∧w'=w.drew:=by
 have hUS:∀(W:World) (q:Option Addr),(Builtin.unsafeString_ #[84,3] 9 #[.pointer q,.int .i64 0]).run Tryz.prog W=.ok (.string .empty) W:=fun W q=>Lib.run_unsafeString_none W _ _ _ q
 have c1:w.drew.cell? ⟨b,1,none⟩=some (.slice (some ⟨g,o,none⟩) 0 cap):=by
  have:w.drew.heap[b]?=some (.cells #[p,.slice (some ⟨g,o,none⟩) 0 cap] T fb):=hbk
  simp [World.cell?,this]
 have hSD:(Builtin.unsafeSliceData_ #[43] 84 #[.slice (some ⟨g,o,none⟩) 0 cap]).run Tryz.prog w.drew=.ok (.pointer (some ⟨g,o,none⟩)) w.drew :=
  Lib.run_unsafeSliceData_row _ _ _ _ _ _ hc0
 clear hc0
 have mixed:Tryz.prog.follows .mixedOrders=true:=by kernel_rfl
 go_enter Tryz.func49,Tryz.ntmps49
 go_wp2
 go_region_o
 all_goals (go_wp2;go_ret;exact ⟨rfl,rfl⟩)
theorem bs_noroom (b g o:Nat) (p:Value) (w:World) (T:TypeId) (fb fz:Nat×Nat) (cur:Array Value) (e:TypeId) (hg:w.heap[g]?=some (.cells cur e fz)) (hbk:w.heap[b]?=some (.cells #[p,.slice (some ⟨g,o,none⟩) 0 0] T fb)) :
  Calls Tryz.prog 49 #[.pointer (some ⟨b,0,none⟩)] w fun e w'=>e=.returned (.string ⟨#[]⟩)∧w'=w.drew.alloc (.view ⟨g,o,none⟩ 5):=by
 have hUS:∀(W:World) (q:Option Addr),(Builtin.unsafeString_ #[84,3] 9 #[.pointer q,.int .i64 0]).run Tryz.prog W=.ok (.string .empty) W:=fun W q=>Lib.run_unsafeString_none W _ _ _ q
 have hlt:b<w.heap.size:=(Array.getElem?_eq_some_iff.1 hbk).1
 have c1:w.drew.cell? ⟨b,1,none⟩=some (.slice (some ⟨g,o,none⟩) 0 0):=by
  have:w.drew.heap[b]?=some (.cells #[p,.slice (some ⟨g,o,none⟩) 0 0] T fb):=hbk
  simp [World.cell?,this]
 have hSD:(Builtin.unsafeSliceData_ #[43] 84 #[.slice (some ⟨g,o,none⟩) 0 0]).run Tryz.prog w.drew=.ok (.pointer (some ⟨w.drew.heap.size,0,none⟩)) (w.drew.alloc (.view ⟨g,o,none⟩ 5)) :=
  Lib.run_unsafeSliceData_zero w.drew _ _ 5 Tryz.underlying84 ⟨g,o,none⟩ 0 (e,cur.size) (by have hg':w.drew.heap[g]?=some (.cells cur e fz):=hg;simp [World.shape?,hg'])
 have c2:(w.drew.alloc (.view ⟨g,o,none⟩ 5)).cell? ⟨b,1,none⟩=some (.slice (some ⟨g,o,none⟩) 0 0):=by
  have:(w.drew.alloc (.view ⟨g,o,none⟩ 5)).heap[b]?=some (.cells #[p,.slice (some ⟨g,o,none⟩) 0 0] T fb):=by
   simp only [World.alloc,World.drew]
   rw [Array.getElem?_push,if_neg (by omega)];exact hbk
  simp [World.cell?,this]
 have c0:w.cell? ⟨b,1,none⟩=some (.slice (some ⟨g,o,none⟩) 0 0):=by simp [World.cell?,hbk]
 clear hbk hg
 have mixed:Tryz.prog.follows .mixedOrders=true:=by kernel_rfl
 go_enter Tryz.func49,Tryz.ntmps49
 go_wp2
 go_region_o
 all_goals (go_wp2;go_ret;exact ⟨rfl,rfl⟩)
theorem c_String {p:V} {bs:List UInt8}:ACall Tryz.prog 49 [.ptr 1000 0]
  [(1000,.cells [p,.osl 1001 1 0 bs.length] (some 65)),(1001,.arr 1 (bs.map byteV) (some 5))] (fun r H=>r=.str bs∧H=[]):=by
 refine acall_step ⟨.str bs,[1000,1001],[]⟩ (by kernel_rfl) fun g w vals hH hl hv=>?_
 rw [arr1 hl,(hv 0 _ rfl).ptr_inv]
 obtain ⟨hn,cur,e,fz,h1,h2,⟨h3,h4⟩,h5⟩:=hH.obj 1000 _ rfl
 simp only [List.length_cons,List.length_nil,Nat.zero_add,Nat.reduceAdd] at h2
 have hcur:cur=#[cur.getD 0 undef,cur.getD 1 undef]:=arr2 h2
 have hv1:=h5 1 _ rfl
 rw [hcur] at h1
 have hrow:=hH.obj 1001 _ rfl
 have hlen:∀rb:Nat,rb=rb→True:=fun _ _=>trivial
 have fin:∀(en:Ending) (w':World),(en=.returned (.string ⟨bs.toArray⟩)∧(w'=w.drew∨(∃a t,w'=w.drew.alloc (.view a t))∨∃o n,¬g.nil 1001∧w'=w.drew.freeze ⟨g.ρ 1001,o,none⟩ n))→bs.length≤9223372036854775807 →
   ∃v g',en=.returned v∧StepOK g [(1000,.cells [p,.osl 1001 1 0 bs.length] (some 65)),(1001,.arr 1 (bs.map byteV) (some 5))] w ⟨.str bs,[1000,1001],[]⟩ g' w' ∧
    Fresh [(1000,.cells [p,.osl 1001 1 0 bs.length] (some 65)),(1001,.arr 1 (bs.map byteV) (some 5))] g g' ⟨[],[(1000,.cells [p,.osl 1001 1 0 bs.length] (some 65)),(1001,.arr 1 (bs.map byteV) (some 5))]⟩ ⟨.str bs,[1000,1001],[]⟩∧VR g' w' v (.str bs):=by
  rintro en w' ⟨rfl,hw⟩ hb
  refine ⟨_,g,rfl,?_,Fresh.none _ _,str_vr bs hb⟩
  rcases hw with rfl|⟨a,t,rfl⟩|⟨o,n,hnn,rfl⟩
  ·exact StepOK.grown _ _ hH.lt rfl rfl rfl (Nat.le_refl _) fun _ _ _=>rfl
  ·refine StepOK.grown _ _ hH.lt rfl rfl rfl (by show w.heap.size≤(w.heap.push _).size;simp) fun b hb _=>?_
   simp only [World.alloc,World.drew]
   rw [Array.getElem?_push,if_neg (by omega)]
  ·unfold World.freeze
   split
   ·exact StepOK.grown _ _ hH.lt rfl rfl rfl (Nat.le_refl _) fun _ _ _=>rfl
   ·refine StepOK.grown _ _ hH.lt rfl rfl rfl (by show w.heap.size≤(w.heap.modify _ _).size;simp) fun b hb hne=>?_
    have:=hne 1001 _ (by simp) rfl hnn
    simp only [World.drew,Array.getElem?_modify]
    rw [if_neg this]
 rcases hv1.osl_inv with ⟨hnil,ev,hn0⟩|⟨hnn,o',cc,ev,ho',hcap,hlc,hm⟩
 ·rw [ev] at h1
  have hb0:bs=[]:=List.eq_nil_of_length_eq_zero hn0
  subst hb0
  exact (bs_nil (g.ρ 1000) _ w e fz h1).mono fun en w' ⟨h6,h7⟩=>fin en w' ⟨h6,.inl h7⟩ (by simp)
 ·rcases hrow with ⟨hnil,_⟩|⟨_,hp,⟨rc,re,rf,k1,k2,⟨k3,k4⟩,k5⟩,k6,k7,k8⟩
  ·exact absurd hnil hnn
  have k4:re=5:=by simpa [tyOK,tyUV] using k4
  subst k4
  rw [ev] at h1
  by_cases hb0:bs=[]
  ·subst hb0
   by_cases hc0:cc=0
   ·subst hc0
    exact (bs_noroom (g.ρ 1000) (g.ρ 1001) o' _ w e fz rf rc _ k1 h1).mono fun en w' ⟨h6,h7⟩=>fin en w' ⟨h6,.inr (.inl ⟨_,_,h7⟩)⟩ (by simp)
   ·exact (bs_room (g.ρ 1000) (g.ρ 1001) o' cc _ w e fz hc0 h1).mono fun en w' ⟨h6,h7⟩=>fin en w' ⟨h6,.inl h7⟩ (by simp)
  ·have hbl:bs.length≠0:=by simpa using hb0
   have ho:o'=g.base 1001:=by
    rcases ho' with h|h
    ·omega
    ·simpa using h
   have h63:bs.length≤9223372036854775807:=maxLen_le (by omega)
   refine (bs_some (g.ρ 1000) (g.ρ 1001) o' cc _ rc rf bs w e fz h1 k1 hb0 hlc (by simp at k6;rw [k2,ho];omega) h63 ?_).mono fun en w' ⟨h6,h7⟩=>fin en w' ⟨h6,.inr (.inr ⟨_,_,hnn,h7⟩)⟩ h63
   intro j x hx
   have hrd:=k5 j 0 (byteV x) (byteV x) (by simp [hx]) rfl
   simp only [Nat.mul_one,Nat.add_zero] at hrd
   have hlt:g.base 1001+j<rc.size:=by
    have:=(List.getElem?_eq_some_iff.1 hx).1
    simp at k6;rw [k2];omega
   have hc:rc[g.base 1001+j]?=some (.int .u8 x.toNat):=by
    have h8:rc.getD (g.base 1001+j) undef=.int .u8 x.toNat:=by
     generalize rc.getD (g.base 1001+j) undef=u at hrd
     cases hrd;rfl
    rw [←h8];simp [Array.getD_eq_getD_getElem?,hlt]
   rw [Addr.add_lit]
   simp only [World.cell?,k1,ho,hc]
   rfl
theorem W_2i {bs s y:Str} (hy:bws bs s=some y):ACall Tryz.prog 65 [.ptr 1000 0,.str s] [(1000,.cells [.bptr 1000,.osl 1001 1 0 bs.length] (some 65)),(1001,.arr 1 (bs.map byteV) (some 5))]
  (fun r H=>r=.tup [.int .i64 s.length,.nili]∧H=[(1000,.cells [.bptr 1000,.osl 1002 1 0 y.length] (some 65)),(1002,.arr 1 (y.map byteV) (some 5))]):=by
 obtain ⟨h,rfl⟩:=bws_inv hy
 rw [List.length_append]
 exact c_WriteString h
def m_strings_Builder_WriteByte:MC :=
 (.seq (.reg [⟨.mv (.c .nili),(some 4),none⟩])
 (.seq (.reg [⟨.mv (.t 0),(some 5),none⟩,
 ⟨.call (.f 79) [(.t 5)] [1000] [],(some 6),none⟩])
 (.seq (.reg [⟨.mv (.t 0),(some 7),none⟩,
 ⟨.mv (.t 0),(some 8),none⟩,
 ⟨.nck (.t 8),(some 9),none⟩,
 ⟨.fad 1 (.t 9),(some 10),none⟩,
 ⟨.ld none (.t 10),(some 11),none⟩,
 ⟨.mv (.t 1),(some 12),none⟩,
 ⟨.bslice 1 [(.t 12)],(some 13),none⟩,
 ⟨.app 1 1 (.t 11) (.t 13) (some 5),(some 14),none⟩,
 ⟨.nck (.t 7),(some 15),none⟩,
 ⟨.fad 1 (.t 15),(some 16),none⟩,
 ⟨.st 1 (.t 16) (.t 14),none,none⟩])
 (.seq (.note (.ren 14 1002) (.reg [⟨.mv (.c .nili),(some 4),none⟩]))
 .ret))))
theorem ok_strings_Builder_WriteByte:m_strings_Builder_WriteByte.ok Tryz.prog Tryz.f64.ntmps (Tryz.f64.body.getD .skip)=true:=by kernel_rfl
theorem c_WriteByte {bs:List UInt8} {c:UInt8} (hlen:bs.length+1≤140737488355328):ACall Tryz.prog 64 [.ptr 1000 0,.int .u8 c.toNat]
  [(1000,.cells [.bptr 1000,.osl 1001 1 0 bs.length] (some 65)),(1001,.arr 1 (bs.map byteV) (some 5))]
  (fun r H=>r=.nili∧H=[(1000,.cells [.bptr 1000,.osl 1002 1 0 (bs.length+1)] (some 65)),(1002,.arr 1 ((bs++[c]).map byteV) (some 5))]):=by
 refine acall_mach [1000,1002] [.t 4] Tryz.func64 rfl (by kernel_rfl) (by kernel_rfl) ok_strings_Builder_WriteByte (by kernel_rfl) rfl rfl fun M hf=>?_
 unfold m_strings_Builder_WriteByte
 simp only [go_sem,Nat.reduceBEq,Nat.reduceAdd,Nat.reduceLeDiff,Nat.reduceSub]
 refine sCall_of (c_copyCheck _) rfl rfl ?_
 rw [M.lok_eq]
 simp only [go_sem,Nat.reduceBEq,Nat.reduceAdd,Nat.reduceLeDiff,Nat.reduceSub]
 exact ⟨by omega,rfl⟩
theorem W_2b {bs:Str} {c:UInt8} {y:Str} (hy:bwb bs c=some y):ACall Tryz.prog 64 [.ptr 1000 0,byteV c] [(1000,.cells [.bptr 1000,.osl 1001 1 0 bs.length] (some 65)),(1001,.arr 1 (bs.map byteV) (some 5))]
  (fun r H=>r=.nili∧H=[(1000,.cells [.bptr 1000,.osl 1002 1 0 y.length] (some 65)),(1002,.arr 1 (y.map byteV) (some 5))]):=by
 obtain ⟨h,rfl⟩:=bwb_inv hy
 rw [List.length_append]
 exact c_WriteByte h
theorem W_5x {bs y:Str} (hy:bstr bs=some y):ACall Tryz.prog 49 [.ptr 1000 0] [(1000,.cells [.bptr 1000,.osl 1001 1 0 bs.length] (some 65)),(1001,.arr 1 (bs.map byteV) (some 5))] (fun r H=>r=.str y∧H=[]):=by
 cases hy
 exact c_String
def puE (s:Str) (b n:Int):Option (Int×Bool):=bif Nat.beq s.length 2&&(decide (b=16)&&decide (n=8)) then (match hexN 0 s with
 | some u=>some ((u:Int),true)
 | none=>some (0,false)) else none
theorem hexD_le {c:UInt8} {d:Nat} (h:hexD c=some d):d≤15:=by
 unfold hexD at h
 split at h
 ·cases h;omega
 ·split at h
  ·cases h;omega
  ·cases h
theorem hexN_le:∀{s:List UInt8} {acc u:Nat},hexN acc s=some u→u+1≤(acc+1)*16^s.length
 | [],acc,u,h=>by cases h;simp
 | c::r,acc,u,h=>by
  simp only [hexN] at h
  cases hd:hexD c with
  | none=>rw [hd] at h;cases h
  | some d =>
   rw [hd] at h
   have h1:=hexD_le hd
   have h2:=hexN_le h
   have h3:(acc*16+d+1)*16^r.length≤((acc+1)*16)*16^r.length:=Nat.mul_le_mul_right _ (by omega)
   rw [List.length_cons,Nat.pow_succ,Nat.mul_comm (16^r.length) 16,←Nat.mul_assoc]
   exact Nat.le_trans h2 h3
theorem W_5y {s:Str} {b n:Int} {y:Int×Bool} (hy:puE s b n=some y):ACall Tryz.prog 116 [.str s,.int .i64 b,.int .i64 n] [] (fun r H=>r=.tup [.int .u64 y.1,.ifc y.2]∧H=[]):=by
 unfold puE at hy
 cases hc:(Nat.beq s.length 2&&(decide (b=16)&&decide (n=8))) with
 | false=>rw [hc] at hy;cases hy
 | true =>
  rw [hc] at hy
  simp only [Bool.and_eq_true,decide_eq_true_eq] at hc
  obtain ⟨hlen,rfl,rfl⟩:=hc
  have hlen:=Nat.eq_of_beq_eq_true hlen
  refine acall_step ⟨.tup [.int .u64 y.1,.ifc y.2],[],[]⟩ (by kernel_rfl) fun g w vals hH hl hv=>?_
  obtain ⟨t,e1,e2,e3⟩:=(hv 0 _ rfl).str_inv
  rw [arr3 hl,e1,(hv 1 _ rfl).int_inv.1,(hv 2 _ rfl).int_inv.1]
  have hts:t.data.toList.length=t.size:=Array.length_toList
  have hsz:t.size=2:=by rw [←hts,e2];exact hlen
  have fin:∀(w':World) (k:Int) (z:Value),k=y.1→rng .u64 k→VR g w' z (.ifc y.2)→Below w.heap.size w w'→∃v g',Ending.returned (.tuple #[.int .u64 k,z])=.returned v∧StepOK g [] w ⟨.tup [.int .u64 y.1,.ifc y.2],[],[]⟩ g' w'∧Fresh [] g g' ⟨[],[]⟩ ⟨.tup [.int .u64 y.1,.ifc y.2],[],[]⟩∧VR g' w' v (.tup [.int .u64 y.1,.ifc y.2]):=by
   rintro w' k z rfl hr hz hb
   refine ⟨_,g,rfl,StepOK.grown _ [] hH.lt hb.os hb.tape hb.output hb.size (fun b h _=>hb.block b h),Fresh.none _ _,.tup _ _ rfl fun i x hx=>?_⟩
   match i with
   | 0=>simp at hx;subst hx;exact .rd (.int _ _ (rng_iff.2 hr))
   | 1=>simp at hx;subst hx;exact hz
   | i+2=>simp at hx
  cases h:hexN 0 s with
  | some u =>
   rw [h] at hy;cases hy
   have hu:=hexN_le h
   rw [hlen] at hu
   refine (AnyPu.pubUint_16_ok Tryz.layPu t hsz u (by rw [e2];exact h) w).mono ?_
   rintro en w' ⟨rfl,rfl⟩
   exact fin _ u _ rfl (by simp [rng];omega) (.rd .ifcn) (Go.Joins.below_bytesWorld _ _ _ _ (Nat.le_refl _))
  | none =>
   rw [h] at hy;cases hy
   have htab:=(hH.tabs w (fun _ _=>rfl)).2
   obtain ⟨tp,p,hvar⟩:=htab "strconv.ErrSyntax" (by simp [errs0]) (by kernel_rfl)
   refine (AnyPu.pubUint_16_no Tryz.layPu t hsz (by rw [e2];exact h) (.iface tp p) w (by have h0:=World.var?_cell Tryz.layPu.m0 hvar 0;simpa using h0) (Or.inr ⟨tp,p,rfl⟩)).mono ?_
   rintro en w' ⟨N,rfl,_,hb⟩
   exact fin w' 0 _ rfl (by simp [rng]) (.rd (.ifcs _ _)) hb
theorem W_5z {s c y:Str} (hy:trimLI s c=some y):ACall Tryz.prog 117 [.str s,.str c] [] (fun r H=>r=.str y∧H=[]):=by
 obtain ⟨hc,rfl⟩:=trimLI_inv hy
 refine acall_step ⟨.str (s.dropWhile (c.contains ·)),[],[]⟩ (by kernel_rfl) fun g w vals hH hl hv=>?_
 obtain ⟨t,e1,e2,e3⟩:=(hv 0 _ rfl).str_inv
 obtain ⟨u,f1,f2,f3⟩:=(hv 1 _ rfl).str_inv
 rw [arr2 hl,e1,f1]
 simp only [ascL,Bool.and_eq_true,List.all_eq_true,decide_eq_true_eq] at hc
 have hus:u.data.toList.length=u.size:=Array.length_toList
 refine (Any.strings_TrimLeft_laid Tryz.layTrl (by kernel_rfl) t u w (by rw [←hus,f2];omega) (fun j b hb=>hc.1 b (by rw [f2] at hb;exact List.mem_of_getElem? hb))).mono ?_
 rintro en w' ⟨rfl,hb⟩
 rw [e2,f2]
 have hlen:(s.dropWhile (c.contains ·)).length≤9223372036854775807:=by
  have h1:=dropWhile_le (c.contains ·) s
  have hts:t.data.toList.length=t.size:=Array.length_toList
  have h2:=maxLen_le e3
  rw [e2] at hts
  omega
 exact ⟨_,g,rfl,StepOK.grown _ [] hH.lt hb.os hb.tape hb.output hb.size (fun b h _=>hb.block b h),Fresh.none _ _,str_vr _ hlen⟩
end Go.Ab
