/- What the functions of this seat that lie on the laws' road compute (part SL), each for every input. By AI agents. -/
import Derived.Test.YtbmjlaknnpmgpaaDoorProg
import Derived.KernelRfl
import Derived.Test.YtbmjlaknnpmgpaaDoorAbSlib
import Derived.Test.YtbmjlaknnpmgpaaDoorAbStr
import Derived.Shelf.Strings.Builder1
import Derived.Shelf.Strings.Builder2
import Derived.Shelf.Strings.OnBuilder
import Derived.Shelf.Strings.BuilderF
import Derived.Shelf.Strings.BuilderK
import Derived.Shelf.Strings.Builder2Cap
import Derived.Shelf.Strconv.Atoi
import Derived.Shelf.Strconv.Itoa0
import Derived.Shelf.Strconv.Itoa1
import Derived.Shelf.LaysM
import Derived.Shelf.Strconv.Itoa2
import Derived.Shelf.Strconv.Itoa3
import Derived.Shelf.Strconv.AtoiErrFast
import Derived.Shelf.Strconv.ParseIntEmpty
import Derived.Shelf.Strconv.AtoiFail
import Derived.Shelf.Strconv.Clone
import Derived.Shelf.Strconv.SyntaxError
import Derived.Shelf.LaysC
import Derived.Shelf.Strconv.ToError
import Derived.Shelf.Strconv.Lower
import Derived.Shelf.Strconv.ParseUint10
import Derived.Shelf.Strconv.ParseUint10Empty
import Derived.Shelf.Strconv.ParseUint10Any
import Derived.Shelf.Strconv.ParseInt10
import Derived.Shelf.Strconv.AtoiLong
import Derived.Shelf.Strconv.AtoiInnerAll
import Derived.Shelf.Strconv.RangeError
import Derived.Shelf.Strconv.ToErrorRange
import Derived.Shelf.Strconv.AtoiAll
import Derived.Shelf.Strconv.ErrVarAll
import Derived.Shelf.Strconv.ParseUintEmpty
import Derived.Ground.MpProg
import Derived.Shelf.Pu.ParseUintPublic10
import Derived.Shelf.Pu.ErrVarParseUint
import Derived.Shelf.Strings.Search1
import Derived.Shelf.Strings.Search2
import Derived.Shelf.Strings.Search3
import Derived.Shelf.Strings.Count
import Derived.Shelf.Strings.Shaped
import Derived.Shelf.Strings.Split
import Derived.Shelf.Unicode.Decode
import Derived.Shelf.Unicode.DecodeSlow
import Derived.Shelf.Unicode.DecodeAny
import Derived.Shelf.Strings.BuilderCap
import Derived.Shelf.Pu.Lays
import Derived.Ground.NamesProg
import Derived.Deep.LoopGhost
import Derived.Test.YtbmjlaknnpmgpaaDoorAbGen
import Derived.Test.YtbmjlaknnpmgpaaDoorAbOwn
import Derived.Test.YtbmjlaknnpmgpaaDoorAbSpl
import Derived.Lib.ParseIntBCases
import Derived.LaidLaws
import Derived.Lib.AppendIntMem
import Derived.WalkKit
import Derived.BigCall
import Derived.BigGuard
set_option linter.all false
set_option linter.all false
namespace Go.Proofs
open Go.Shelf
def Tryd.lays283_ren:Go.Shelf.Ren:=⟨fun|283=>30|n=>n,fun|3=>3|9=>9|4=>4|n=>n,fun|n=>n⟩
theorem Tryd.lays283:Go.Proofs.Lays.n283 Tryd.prog Tryd.lays283_ren:={
 mixed:=by kernel_rfl
 f283:=Tryd.func30.trans (congrArg some (by kernel_rfl))
 t3:=Tryd.underlying3
 a3:=Tryd.isAgg3
 z3:=Tryd.sizeOf3
 v3:=Tryd.zeroValue3
 t4:=Tryd.underlying4
 a4:=Tryd.isAgg4
 z4:=Tryd.sizeOf4
 v4:=Tryd.zeroValue4
 t9:=Tryd.underlying9
 a9:=Tryd.isAgg9
 z9:=Tryd.sizeOf9
 v9:=Tryd.zeroValue9 }
open Go.Lib in
theorem Tryd.internal_strconv_small (i:Nat) (h:i<100) (w:World) :
  Calls Tryd.prog 30 #[.int .i64 i] w fun e w'=>e=.returned (.string ⟨(Lib.decDigits i).toArray⟩)∧w'=w:=Any.internal_strconv_small Tryd.lays283 i h w
def Tryd.laysM284_ren:Go.Shelf.Ren:=⟨fun|284=>31|129=>48|317=>47|318=>49|n=>n,fun|53=>22|3=>3|212=>83|0=>0|4=>4|46=>73|5=>5|9=>9|n=>n,fun|17=>0|n=>n⟩
theorem Tryd.laysM284:Go.Proofs.LaysM.n284 Tryd.prog Tryd.laysM284_ren:={
 mixed:=by kernel_rfl
 f129:=Tryd.func48.trans (congrArg some (by kernel_rfl))
 f284:=Tryd.func31.trans (congrArg some (by kernel_rfl))
 f317:=Tryd.func47.trans (congrArg some (by kernel_rfl))
 f318:=Tryd.func49.trans (congrArg some (by kernel_rfl))
 t0:=Tryd.underlying0
 a0:=Tryd.isAgg0
 z0:=Tryd.sizeOf0
 v0:=Tryd.zeroValue0
 t3:=Tryd.underlying3
 a3:=Tryd.isAgg3
 z3:=Tryd.sizeOf3
 v3:=Tryd.zeroValue3
 t4:=Tryd.underlying4
 a4:=Tryd.isAgg4
 z4:=Tryd.sizeOf4
 v4:=Tryd.zeroValue4
 t5:=Tryd.underlying5
 a5:=Tryd.isAgg5
 z5:=Tryd.sizeOf5
 v5:=Tryd.zeroValue5
 t9:=Tryd.underlying9
 a9:=Tryd.isAgg9
 z9:=Tryd.sizeOf9
 v9:=Tryd.zeroValue9
 t46:=Tryd.underlying73
 a46:=Tryd.isAgg73
 z46:=Tryd.sizeOf73
 v46:=Tryd.zeroValue73
 t53:=Tryd.underlying22
 a53:=Tryd.isAgg22
 z53:=Tryd.sizeOf22
 v53:=Tryd.zeroValue22
 t212:=Tryd.underlying83
 a212:=Tryd.isAgg83
 z212:=Tryd.sizeOf83
 v212:=Tryd.zeroValue83
 g17:=by kernel_rfl
 i0:=by kernel_rfl
 i3:=by kernel_rfl
 i4:=by kernel_rfl
 i5:=by kernel_rfl
 i9:=by kernel_rfl
 i46:=by kernel_rfl
 i53:=by kernel_rfl
 i212:=by kernel_rfl
 m17:=by kernel_rfl }
open Go.Lib in
theorem Tryd.internal_strconv_numDigits (u:Nat) (h1:1≤u) (h2:u<18446744073709551616) (w:World) (htab:Lib.TabIs Tryd.prog w "internal/strconv.uint64pow10" .u64 Lib.pow10Tab) :
  Calls Tryd.prog 31 #[.int .u64 u] w fun e w'=>e=.returned (.int .i64 (Lib.nDigits u))∧w'=w:=Any.internal_strconv_numDigits Tryd.laysM284 u h1 h2 w htab
def Tryd.lays285_ren:Go.Shelf.Ren:=⟨fun|285=>32|n=>n,fun|37=>29|53=>22|3=>3|4=>4|51=>84|9=>9|5=>5|0=>0|n=>n,fun|n=>n⟩
theorem Tryd.lays285:Go.Proofs.Lays.n285 Tryd.prog Tryd.lays285_ren:={
 mixed:=by kernel_rfl
 f285:=Tryd.func32.trans (congrArg some (by kernel_rfl))
 t0:=Tryd.underlying0
 a0:=Tryd.isAgg0
 z0:=Tryd.sizeOf0
 v0:=Tryd.zeroValue0
 t3:=Tryd.underlying3
 a3:=Tryd.isAgg3
 z3:=Tryd.sizeOf3
 v3:=Tryd.zeroValue3
 t4:=Tryd.underlying4
 a4:=Tryd.isAgg4
 z4:=Tryd.sizeOf4
 v4:=Tryd.zeroValue4
 t5:=Tryd.underlying5
 a5:=Tryd.isAgg5
 z5:=Tryd.sizeOf5
 v5:=Tryd.zeroValue5
 t9:=Tryd.underlying9
 a9:=Tryd.isAgg9
 z9:=Tryd.sizeOf9
 v9:=Tryd.zeroValue9
 t37:=Tryd.underlying29
 a37:=Tryd.isAgg29
 z37:=Tryd.sizeOf29
 v37:=Tryd.zeroValue29
 t51:=Tryd.underlying84
 a51:=Tryd.isAgg84
 z51:=Tryd.sizeOf84
 v51:=Tryd.zeroValue84
 t53:=Tryd.underlying22
 a53:=Tryd.isAgg22
 z53:=Tryd.sizeOf22
 v53:=Tryd.zeroValue22 }
open Go.RowKit Go.Sort Go.Lib in
theorem Tryd.internal_strconv_formatBase10 (blk off cap:Nat) (u:Nat) (d:Array UInt8) (w:World) (hH:Holds (fun (b:UInt8)=>Value.int .u8 (b.toNat:Int)) w blk off d) (hu:u<10^d.size) (hu64:u<18446744073709551616) (hsz:d.size<4611686018427387904) :
  Calls Tryd.prog 32 #[.slice (some ⟨blk,off,none⟩) d.size cap,.int .u64 u] w fun e w' =>
   e=.returned (.tuple #[])∧∃(n v':Nat) (dk:Array UInt8),w'=(putRow (fun (b:UInt8)=>Value.int .u8 (b.toNat:Int)) w blk off dk).drewN n∧FmtInv d.size u 0 v' dk:=Any.internal_strconv_formatBase10 Tryd.lays285 blk off cap u d w hH hu hu64 hsz
def Tryd.laysM171_ren:Go.Shelf.Ren:=⟨fun|171=>11|243=>22|246=>34|283=>30|284=>31|285=>32|286=>33|129=>48|317=>47|318=>49|319=>50|320=>51|337=>60|338=>61|n=>n,fun|3=>3|9=>9|2=>2|4=>4|171=>63|0=>0|53=>22|37=>29|5=>5|173=>66|212=>83|51=>84|20=>20|213=>85|46=>73|232=>102|233=>103|n=>n,fun|17=>0|18=>4|19=>5|n=>n⟩
theorem Tryd.laysM171:Go.Proofs.LaysM.n171 Tryd.prog Tryd.laysM171_ren:={
 mixed:=by kernel_rfl
 f129:=Tryd.func48.trans (congrArg some (by kernel_rfl))
 f171:=Tryd.func11.trans (congrArg some (by kernel_rfl))
 f243:=Tryd.func22.trans (congrArg some (by kernel_rfl))
 f246:=Tryd.func34.trans (congrArg some (by kernel_rfl))
 f283:=Tryd.func30.trans (congrArg some (by kernel_rfl))
 f284:=Tryd.func31.trans (congrArg some (by kernel_rfl))
 f285:=Tryd.func32.trans (congrArg some (by kernel_rfl))
 f286:=Tryd.func33.trans (congrArg some (by kernel_rfl))
 f317:=Tryd.func47.trans (congrArg some (by kernel_rfl))
 f318:=Tryd.func49.trans (congrArg some (by kernel_rfl))
 f319:=Tryd.func50.trans (congrArg some (by kernel_rfl))
 f320:=Tryd.func51.trans (congrArg some (by kernel_rfl))
 f337:=Tryd.func60.trans (congrArg some (by kernel_rfl))
 f338:=Tryd.func61.trans (congrArg some (by kernel_rfl))
 t0:=Tryd.underlying0
 a0:=Tryd.isAgg0
 z0:=Tryd.sizeOf0
 v0:=Tryd.zeroValue0
 t2:=Tryd.underlying2
 a2:=Tryd.isAgg2
 z2:=Tryd.sizeOf2
 v2:=Tryd.zeroValue2
 t3:=Tryd.underlying3
 a3:=Tryd.isAgg3
 z3:=Tryd.sizeOf3
 v3:=Tryd.zeroValue3
 t4:=Tryd.underlying4
 a4:=Tryd.isAgg4
 z4:=Tryd.sizeOf4
 v4:=Tryd.zeroValue4
 t5:=Tryd.underlying5
 a5:=Tryd.isAgg5
 z5:=Tryd.sizeOf5
 v5:=Tryd.zeroValue5
 t9:=Tryd.underlying9
 a9:=Tryd.isAgg9
 z9:=Tryd.sizeOf9
 v9:=Tryd.zeroValue9
 t20:=Tryd.underlying20
 a20:=Tryd.isAgg20
 z20:=Tryd.sizeOf20
 v20:=Tryd.zeroValue20
 t37:=Tryd.underlying29
 a37:=Tryd.isAgg29
 z37:=Tryd.sizeOf29
 v37:=Tryd.zeroValue29
 t46:=Tryd.underlying73
 a46:=Tryd.isAgg73
 z46:=Tryd.sizeOf73
 v46:=Tryd.zeroValue73
 t51:=Tryd.underlying84
 a51:=Tryd.isAgg84
 z51:=Tryd.sizeOf84
 v51:=Tryd.zeroValue84
 t53:=Tryd.underlying22
 a53:=Tryd.isAgg22
 z53:=Tryd.sizeOf22
 v53:=Tryd.zeroValue22
 t171:=Tryd.underlying63
 a171:=Tryd.isAgg63
 z171:=Tryd.sizeOf63
 v171:=Tryd.zeroValue63
 t173:=Tryd.underlying66
 a173:=Tryd.isAgg66
 z173:=Tryd.sizeOf66
 v173:=Tryd.zeroValue66
 t212:=Tryd.underlying83
 a212:=Tryd.isAgg83
 z212:=Tryd.sizeOf83
 v212:=Tryd.zeroValue83
 t213:=Tryd.underlying85
 a213:=Tryd.isAgg85
 z213:=Tryd.sizeOf85
 t232:=Tryd.underlying102
 a232:=Tryd.isAgg102
 z232:=Tryd.sizeOf102
 v232:=Tryd.zeroValue102
 t233:=Tryd.underlying103
 a233:=Tryd.isAgg103
 z233:=Tryd.sizeOf103
 v233:=Tryd.zeroValue103
 g17:=by kernel_rfl
 g18:=by kernel_rfl
 g19:=by kernel_rfl
 i0:=by kernel_rfl
 i2:=by kernel_rfl
 i3:=by kernel_rfl
 i4:=by kernel_rfl
 i5:=by kernel_rfl
 i9:=by kernel_rfl
 i20:=by kernel_rfl
 i37:=by kernel_rfl
 i46:=by kernel_rfl
 i51:=by kernel_rfl
 i53:=by kernel_rfl
 i171:=by kernel_rfl
 i173:=by kernel_rfl
 i212:=by kernel_rfl
 i232:=by kernel_rfl
 i233:=by kernel_rfl
 m17:=by kernel_rfl
 m18:=by kernel_rfl
 m19:=by kernel_rfl }
open Go.RowKit Go.Sort Go.Lib in
theorem Tryd.strconv_Itoa (n:Int) (h0:-9223372036854775808≤n) (h1:n≤9223372036854775807) (w:World) (htab:Lib.TabIs Tryd.prog w "internal/strconv.uint64pow10" .u64 Lib.pow10Tab) :
  Calls Tryd.prog 11 #[.int .i64 n] w fun e w'=>e=.returned (.string ⟨(Lib.itoa n).toArray⟩)∧∃k os,w'=grow (w.drewN k) os:=Any.strconv_Itoa Tryd.laysM171 n h0 h1 w htab
def Tryd.laysC172_ren:Go.Shelf.Ren:=⟨fun|172=>15|244=>26|245=>25|247=>44|279=>40|280=>41|281=>42|282=>43|287=>24|316=>56|171=>11|205=>57|321=>38|322=>39|243=>22|246=>34|283=>30|284=>31|285=>32|286=>33|129=>48|317=>47|318=>49|319=>50|320=>51|337=>60|338=>61|n=>n,fun|9=>9|3=>3|75=>42|76=>47|4=>4|5=>5|167=>71|37=>29|0=>0|85=>78|2=>2|168=>75|53=>22|175=>43|46=>73|210=>93|127=>80|145=>101|143=>99|21=>21|171=>63|173=>66|212=>83|51=>84|20=>20|213=>85|232=>102|233=>103|80=>62|n=>n,fun|15=>1|16=>2|17=>0|18=>4|19=>5|n=>n⟩
theorem Tryd.laysC172:Go.Proofs.LaysC.n172 Tryd.prog Tryd.laysC172_ren:={
 mixed:=by kernel_rfl
 f129:=Tryd.func48.trans (congrArg some (by kernel_rfl))
 f171:=Tryd.func11.trans (congrArg some (by kernel_rfl))
 f172:=Tryd.func15.trans (congrArg some (by kernel_rfl))
 f205:=Tryd.func57.trans (congrArg some (by kernel_rfl))
 f243:=Tryd.func22.trans (congrArg some (by kernel_rfl))
 f244:=Tryd.func26.trans (congrArg some (by kernel_rfl))
 f245:=Tryd.func25.trans (congrArg some (by kernel_rfl))
 f246:=Tryd.func34.trans (congrArg some (by kernel_rfl))
 f247:=Tryd.func44.trans (congrArg some (by kernel_rfl))
 f279:=Tryd.func40.trans (congrArg some (by kernel_rfl))
 f280:=Tryd.func41.trans (congrArg some (by kernel_rfl))
 f281:=Tryd.func42.trans (congrArg some (by kernel_rfl))
 f282:=Tryd.func43.trans (congrArg some (by kernel_rfl))
 f283:=Tryd.func30.trans (congrArg some (by kernel_rfl))
 f284:=Tryd.func31.trans (congrArg some (by kernel_rfl))
 f285:=Tryd.func32.trans (congrArg some (by kernel_rfl))
 f286:=Tryd.func33.trans (congrArg some (by kernel_rfl))
 f287:=Tryd.func24.trans (congrArg some (by kernel_rfl))
 f316:=Tryd.func56.trans (congrArg some (by kernel_rfl))
 f317:=Tryd.func47.trans (congrArg some (by kernel_rfl))
 f318:=Tryd.func49.trans (congrArg some (by kernel_rfl))
 f319:=Tryd.func50.trans (congrArg some (by kernel_rfl))
 f320:=Tryd.func51.trans (congrArg some (by kernel_rfl))
 f321:=Tryd.func38.trans (congrArg some (by kernel_rfl))
 f322:=Tryd.func39.trans (congrArg some (by kernel_rfl))
 f337:=Tryd.func60.trans (congrArg some (by kernel_rfl))
 f338:=Tryd.func61.trans (congrArg some (by kernel_rfl))
 t0:=Tryd.underlying0
 a0:=Tryd.isAgg0
 z0:=Tryd.sizeOf0
 v0:=Tryd.zeroValue0
 t2:=Tryd.underlying2
 a2:=Tryd.isAgg2
 z2:=Tryd.sizeOf2
 v2:=Tryd.zeroValue2
 t3:=Tryd.underlying3
 a3:=Tryd.isAgg3
 z3:=Tryd.sizeOf3
 v3:=Tryd.zeroValue3
 t4:=Tryd.underlying4
 a4:=Tryd.isAgg4
 z4:=Tryd.sizeOf4
 v4:=Tryd.zeroValue4
 t5:=Tryd.underlying5
 a5:=Tryd.isAgg5
 z5:=Tryd.sizeOf5
 v5:=Tryd.zeroValue5
 t9:=Tryd.underlying9
 a9:=Tryd.isAgg9
 z9:=Tryd.sizeOf9
 v9:=Tryd.zeroValue9
 t20:=Tryd.underlying20
 a20:=Tryd.isAgg20
 z20:=Tryd.sizeOf20
 v20:=Tryd.zeroValue20
 t21:=Tryd.underlying21
 a21:=Tryd.isAgg21
 z21:=Tryd.sizeOf21
 v21:=Tryd.zeroValue21
 t37:=Tryd.underlying29
 a37:=Tryd.isAgg29
 z37:=Tryd.sizeOf29
 v37:=Tryd.zeroValue29
 t46:=Tryd.underlying73
 a46:=Tryd.isAgg73
 z46:=Tryd.sizeOf73
 v46:=Tryd.zeroValue73
 t51:=Tryd.underlying84
 a51:=Tryd.isAgg84
 z51:=Tryd.sizeOf84
 v51:=Tryd.zeroValue84
 t53:=Tryd.underlying22
 a53:=Tryd.isAgg22
 z53:=Tryd.sizeOf22
 v53:=Tryd.zeroValue22
 t75:=Tryd.underlying42
 a75:=Tryd.isAgg42
 z75:=Tryd.sizeOf42
 v75:=Tryd.zeroValue42
 t76:=Tryd.underlying47
 a76:=Tryd.isAgg47
 z76:=Tryd.sizeOf47
 v76:=Tryd.zeroValue47
 t85:=Tryd.underlying78
 a85:=Tryd.isAgg78
 z85:=Tryd.sizeOf78
 v85:=Tryd.zeroValue78
 t127:=Tryd.underlying80
 a127:=Tryd.isAgg80
 z127:=Tryd.sizeOf80
 v127:=Tryd.zeroValue80
 t143:=Tryd.underlying99
 a143:=Tryd.isAgg99
 z143:=Tryd.sizeOf99
 v143:=Tryd.zeroValue99
 t145:=Tryd.underlying101
 a145:=Tryd.isAgg101
 z145:=Tryd.sizeOf101
 v145:=Tryd.zeroValue101
 t167:=Tryd.underlying71
 a167:=Tryd.isAgg71
 z167:=Tryd.sizeOf71
 v167:=Tryd.zeroValue71
 t168:=Tryd.underlying75
 a168:=Tryd.isAgg75
 z168:=Tryd.sizeOf75
 v168:=Tryd.zeroValue75
 t171:=Tryd.underlying63
 a171:=Tryd.isAgg63
 z171:=Tryd.sizeOf63
 v171:=Tryd.zeroValue63
 t173:=Tryd.underlying66
 a173:=Tryd.isAgg66
 z173:=Tryd.sizeOf66
 v173:=Tryd.zeroValue66
 t175:=Tryd.underlying43
 a175:=Tryd.isAgg43
 z175:=Tryd.sizeOf43
 v175:=Tryd.zeroValue43
 t210:=Tryd.underlying93
 a210:=Tryd.isAgg93
 z210:=Tryd.sizeOf93
 v210:=Tryd.zeroValue93
 t212:=Tryd.underlying83
 a212:=Tryd.isAgg83
 z212:=Tryd.sizeOf83
 v212:=Tryd.zeroValue83
 t213:=Tryd.underlying85
 a213:=Tryd.isAgg85
 z213:=Tryd.sizeOf85
 t232:=Tryd.underlying102
 a232:=Tryd.isAgg102
 z232:=Tryd.sizeOf102
 v232:=Tryd.zeroValue102
 t233:=Tryd.underlying103
 a233:=Tryd.isAgg103
 z233:=Tryd.sizeOf103
 v233:=Tryd.zeroValue103
 g15:=by kernel_rfl
 g16:=by kernel_rfl
 g17:=by kernel_rfl
 g18:=by kernel_rfl
 g19:=by kernel_rfl
 t80:=Tryd.underlying62
 a80:=Tryd.isAgg62
 z80:=Tryd.sizeOf62
 v80:=Tryd.zeroValue62
 i0:=by kernel_rfl
 i2:=by kernel_rfl
 i3:=by kernel_rfl
 i4:=by kernel_rfl
 i5:=by kernel_rfl
 i9:=by kernel_rfl
 i20:=by kernel_rfl
 i21:=by kernel_rfl
 i37:=by kernel_rfl
 i46:=by kernel_rfl
 i51:=by kernel_rfl
 i53:=by kernel_rfl
 i75:=by kernel_rfl
 i76:=by kernel_rfl
 i80:=by kernel_rfl
 i85:=by kernel_rfl
 i127:=by kernel_rfl
 i143:=by kernel_rfl
 i145:=by kernel_rfl
 i167:=by kernel_rfl
 i168:=by kernel_rfl
 i171:=by kernel_rfl
 i173:=by kernel_rfl
 i175:=by kernel_rfl
 i210:=by kernel_rfl
 i212:=by kernel_rfl
 i232:=by kernel_rfl
 i233:=by kernel_rfl
 m15:=by kernel_rfl
 m16:=by kernel_rfl
 m17:=by kernel_rfl
 m18:=by kernel_rfl
 m19:=by kernel_rfl
 c0:=by kernel_rfl
 c2:=by kernel_rfl
 c3:=by kernel_rfl
 c4:=by kernel_rfl
 c5:=by kernel_rfl
 c9:=by kernel_rfl
 c20:=by kernel_rfl
 c21:=by kernel_rfl
 c37:=by kernel_rfl
 c46:=by kernel_rfl
 c51:=by kernel_rfl
 c53:=by kernel_rfl
 c75:=by kernel_rfl
 c76:=by kernel_rfl
 c80:=by kernel_rfl
 c85:=by kernel_rfl
 c127:=by kernel_rfl
 c143:=by kernel_rfl
 c145:=by kernel_rfl
 c167:=by kernel_rfl
 c168:=by kernel_rfl
 c171:=by kernel_rfl
 c173:=by kernel_rfl
 c175:=by kernel_rfl
 c210:=by kernel_rfl
 c212:=by kernel_rfl
 c213:=by kernel_rfl
 c232:=by kernel_rfl
 c233:=by kernel_rfl }
open Go.RowKit in
theorem Tryd.strconv_Atoi_ok (s:ByteArray) (hmax:s.size≤9223372036854775806) (v:Int) (h:Lib.atoiAll s.data.toList=.ok v) (w:World) :
  Calls Tryd.prog 15 #[.string s] w fun e w'=>e=.returned (.tuple #[.int .i64 v,.nilIface])∧(w'=w∨∃t,w'=Lib.bytesWorld w 5 t):=Any.strconv_Atoi_ok Tryd.laysC172 s hmax v h w
open Go.RowKit in
theorem Tryd.strconv_Atoi_syntax_var (s:ByteArray) (hlim:s.size≤281474976710656) (h1:∀v,Lib.atoiAll s.data.toList≠.ok v) (h2:Lib.atoiAll s.data.toList≠.range) (tp:TypeId) (p:Value) (w:World) (hvar:w.var? Tryd.prog "strconv.ErrSyntax"=some #[.iface tp p]) :
  Calls Tryd.prog 15 #[.string s] w fun e w'=>∃N,e=.returned (.tuple #[.int .i64 0,.iface 75 (.pointer (some ⟨N,0,none⟩))])∧w.heap.size≤N∧w'.heap[N]?=some (.cells #[.string ⟨#[65,116,111,105]⟩,.string s,.iface tp p] 93 (0,0))∧Below w.heap.size w w':=Any.strconv_Atoi_syntax_var Tryd.laysC172 s hlim (by cases e:Lib.atoiAll s.data.toList<;>simp_all) tp p w hvar
open Go.RowKit in
theorem Tryd.strconv_Atoi_range_var (s:ByteArray) (hlim:s.size≤281474976710656) (h:Lib.atoiAll s.data.toList=.range) (tp:TypeId) (p:Value) (w:World) (hvar:w.var? Tryd.prog "strconv.ErrRange"=some #[.iface tp p]) :
  Calls Tryd.prog 15 #[.string s] w fun e w'=>∃N,e=.returned (.tuple #[.int .i64 (Lib.atoiSat s.data.toList),.iface 75 (.pointer (some ⟨N,0,none⟩))])∧w.heap.size≤N∧w'.heap[N]?=some (.cells #[.string ⟨#[65,116,111,105]⟩,.string s,.iface tp p] 93 (0,0))∧Below w.heap.size w w':=Any.strconv_Atoi_range_var Tryd.laysC172 s hlim h tp p w hvar
def Tryd.layPu_ren:Go.Shelf.Ren:=⟨fun|14=>14|16=>24|17=>25|19=>38|20=>39|21=>40|22=>41|23=>42|24=>43|25=>56|27=>11|26=>57|28=>22|29=>34|30=>30|31=>31|32=>32|33=>33|35=>48|34=>47|36=>49|37=>50|38=>51|39=>60|40=>61|n=>n,fun|9=>9|3=>3|22=>22|24=>42|25=>43|4=>4|34=>71|5=>5|36=>73|37=>29|0=>0|39=>75|21=>21|44=>93|47=>80|50=>101|48=>99|2=>2|52=>63|55=>66|59=>83|60=>84|20=>20|61=>85|65=>102|66=>103|67=>62|n=>n,fun|0=>1|1=>2|2=>0|3=>4|4=>5|n=>n⟩
theorem Tryd.layPu:Go.Proofs.LaysPu.n14 Tryd.prog Tryd.layPu_ren:={
 mixed:=by kernel_rfl
 f14:=Tryd.func14.trans (congrArg some (by kernel_rfl))
 f16:=Tryd.func24.trans (congrArg some (by kernel_rfl))
 f17:=Tryd.func25.trans (congrArg some (by kernel_rfl))
 f19:=Tryd.func38.trans (congrArg some (by kernel_rfl))
 f20:=Tryd.func39.trans (congrArg some (by kernel_rfl))
 f21:=Tryd.func40.trans (congrArg some (by kernel_rfl))
 f22:=Tryd.func41.trans (congrArg some (by kernel_rfl))
 f23:=Tryd.func42.trans (congrArg some (by kernel_rfl))
 f24:=Tryd.func43.trans (congrArg some (by kernel_rfl))
 f25:=Tryd.func56.trans (congrArg some (by kernel_rfl))
 f26:=Tryd.func57.trans (congrArg some (by kernel_rfl))
 f27:=Tryd.func11.trans (congrArg some (by kernel_rfl))
 f28:=Tryd.func22.trans (congrArg some (by kernel_rfl))
 f29:=Tryd.func34.trans (congrArg some (by kernel_rfl))
 f30:=Tryd.func30.trans (congrArg some (by kernel_rfl))
 f31:=Tryd.func31.trans (congrArg some (by kernel_rfl))
 f32:=Tryd.func32.trans (congrArg some (by kernel_rfl))
 f33:=Tryd.func33.trans (congrArg some (by kernel_rfl))
 f34:=Tryd.func47.trans (congrArg some (by kernel_rfl))
 f35:=Tryd.func48.trans (congrArg some (by kernel_rfl))
 f36:=Tryd.func49.trans (congrArg some (by kernel_rfl))
 f37:=Tryd.func50.trans (congrArg some (by kernel_rfl))
 f38:=Tryd.func51.trans (congrArg some (by kernel_rfl))
 f39:=Tryd.func60.trans (congrArg some (by kernel_rfl))
 f40:=Tryd.func61.trans (congrArg some (by kernel_rfl))
 t0:=Tryd.underlying0
 a0:=Tryd.isAgg0
 z0:=Tryd.sizeOf0
 v0:=Tryd.zeroValue0
 i0:=by kernel_rfl
 t2:=Tryd.underlying2
 a2:=Tryd.isAgg2
 z2:=Tryd.sizeOf2
 v2:=Tryd.zeroValue2
 i2:=by kernel_rfl
 t3:=Tryd.underlying3
 a3:=Tryd.isAgg3
 z3:=Tryd.sizeOf3
 v3:=Tryd.zeroValue3
 i3:=by kernel_rfl
 t4:=Tryd.underlying4
 a4:=Tryd.isAgg4
 z4:=Tryd.sizeOf4
 v4:=Tryd.zeroValue4
 i4:=by kernel_rfl
 t5:=Tryd.underlying5
 a5:=Tryd.isAgg5
 z5:=Tryd.sizeOf5
 v5:=Tryd.zeroValue5
 i5:=by kernel_rfl
 t9:=Tryd.underlying9
 a9:=Tryd.isAgg9
 z9:=Tryd.sizeOf9
 v9:=Tryd.zeroValue9
 i9:=by kernel_rfl
 t20:=Tryd.underlying20
 a20:=Tryd.isAgg20
 z20:=Tryd.sizeOf20
 v20:=Tryd.zeroValue20
 i20:=by kernel_rfl
 t21:=Tryd.underlying21
 a21:=Tryd.isAgg21
 z21:=Tryd.sizeOf21
 v21:=Tryd.zeroValue21
 i21:=by kernel_rfl
 t22:=Tryd.underlying22
 a22:=Tryd.isAgg22
 z22:=Tryd.sizeOf22
 v22:=Tryd.zeroValue22
 i22:=by kernel_rfl
 t24:=Tryd.underlying42
 a24:=Tryd.isAgg42
 z24:=Tryd.sizeOf42
 v24:=Tryd.zeroValue42
 i24:=by kernel_rfl
 t25:=Tryd.underlying43
 a25:=Tryd.isAgg43
 z25:=Tryd.sizeOf43
 v25:=Tryd.zeroValue43
 i25:=by kernel_rfl
 t34:=Tryd.underlying71
 a34:=Tryd.isAgg71
 z34:=Tryd.sizeOf71
 v34:=Tryd.zeroValue71
 i34:=by kernel_rfl
 c34:=by kernel_rfl
 t36:=Tryd.underlying73
 a36:=Tryd.isAgg73
 z36:=Tryd.sizeOf73
 v36:=Tryd.zeroValue73
 i36:=by kernel_rfl
 t37:=Tryd.underlying29
 a37:=Tryd.isAgg29
 z37:=Tryd.sizeOf29
 v37:=Tryd.zeroValue29
 i37:=by kernel_rfl
 t39:=Tryd.underlying75
 a39:=Tryd.isAgg75
 z39:=Tryd.sizeOf75
 v39:=Tryd.zeroValue75
 i39:=by kernel_rfl
 t44:=Tryd.underlying93
 a44:=Tryd.isAgg93
 z44:=Tryd.sizeOf93
 v44:=Tryd.zeroValue93
 i44:=by kernel_rfl
 t47:=Tryd.underlying80
 a47:=Tryd.isAgg80
 z47:=Tryd.sizeOf80
 v47:=Tryd.zeroValue80
 i47:=by kernel_rfl
 t48:=Tryd.underlying99
 a48:=Tryd.isAgg99
 z48:=Tryd.sizeOf99
 v48:=Tryd.zeroValue99
 i48:=by kernel_rfl
 t50:=Tryd.underlying101
 a50:=Tryd.isAgg101
 z50:=Tryd.sizeOf101
 v50:=Tryd.zeroValue101
 i50:=by kernel_rfl
 t52:=Tryd.underlying63
 a52:=Tryd.isAgg63
 z52:=Tryd.sizeOf63
 v52:=Tryd.zeroValue63
 i52:=by kernel_rfl
 t55:=Tryd.underlying66
 a55:=Tryd.isAgg66
 z55:=Tryd.sizeOf66
 v55:=Tryd.zeroValue66
 i55:=by kernel_rfl
 t59:=Tryd.underlying83
 a59:=Tryd.isAgg83
 z59:=Tryd.sizeOf83
 v59:=Tryd.zeroValue83
 i59:=by kernel_rfl
 t60:=Tryd.underlying84
 a60:=Tryd.isAgg84
 z60:=Tryd.sizeOf84
 v60:=Tryd.zeroValue84
 i60:=by kernel_rfl
 t61:=Tryd.underlying85
 a61:=Tryd.isAgg85
 z61:=Tryd.sizeOf85
 t65:=Tryd.underlying102
 a65:=Tryd.isAgg102
 z65:=Tryd.sizeOf102
 v65:=Tryd.zeroValue102
 i65:=by kernel_rfl
 t66:=Tryd.underlying103
 a66:=Tryd.isAgg103
 z66:=Tryd.sizeOf103
 v66:=Tryd.zeroValue103
 i66:=by kernel_rfl
 t67:=Tryd.underlying62
 a67:=Tryd.isAgg62
 z67:=Tryd.sizeOf62
 v67:=Tryd.zeroValue62
 i67:=by kernel_rfl
 g0:=by kernel_rfl
 m0:=by kernel_rfl
 g1:=by kernel_rfl
 m1:=by kernel_rfl
 g2:=by kernel_rfl
 m2:=by kernel_rfl
 g3:=by kernel_rfl
 m3:=by kernel_rfl
 g4:=by kernel_rfl
 m4:=by kernel_rfl }
def Tryd.layJoin_ren:Go.Shelf.Ren:=⟨fun|156=>20|165=>27|166=>28|169=>29|240=>45|241=>46|276=>58|277=>59|n=>n,fun|31=>39|9=>9|3=>3|4=>4|0=>0|20=>20|72=>60|76=>47|70=>58|37=>29|75=>42|127=>80|164=>95|5=>5|80=>62|n=>n,fun|n=>n⟩
theorem Tryd.layJoin:Go.Proofs.Lays.n156 Tryd.prog Tryd.layJoin_ren:={
 mixed:=by kernel_rfl
 f156:=Tryd.func20.trans (congrArg some (by kernel_rfl))
 f165:=Tryd.func27.trans (congrArg some (by kernel_rfl))
 f166:=Tryd.func28.trans (congrArg some (by kernel_rfl))
 f169:=Tryd.func29.trans (congrArg some (by kernel_rfl))
 f240:=Tryd.func45.trans (congrArg some (by kernel_rfl))
 f241:=Tryd.func46.trans (congrArg some (by kernel_rfl))
 f276:=Tryd.func58.trans (congrArg some (by kernel_rfl))
 f277:=Tryd.func59.trans (congrArg some (by kernel_rfl))
 t0:=Tryd.underlying0
 a0:=Tryd.isAgg0
 z0:=Tryd.sizeOf0
 v0:=Tryd.zeroValue0
 t3:=Tryd.underlying3
 a3:=Tryd.isAgg3
 z3:=Tryd.sizeOf3
 v3:=Tryd.zeroValue3
 t4:=Tryd.underlying4
 a4:=Tryd.isAgg4
 z4:=Tryd.sizeOf4
 v4:=Tryd.zeroValue4
 t9:=Tryd.underlying9
 a9:=Tryd.isAgg9
 z9:=Tryd.sizeOf9
 v9:=Tryd.zeroValue9
 t20:=Tryd.underlying20
 a20:=Tryd.isAgg20
 z20:=Tryd.sizeOf20
 v20:=Tryd.zeroValue20
 t31:=Tryd.underlying39
 a31:=Tryd.isAgg39
 z31:=Tryd.sizeOf39
 v31:=Tryd.zeroValue39
 t37:=Tryd.underlying29
 a37:=Tryd.isAgg29
 z37:=Tryd.sizeOf29
 v37:=Tryd.zeroValue29
 t70:=Tryd.underlying58
 a70:=Tryd.isAgg58
 z70:=Tryd.sizeOf58
 v70:=Tryd.zeroValue58
 t72:=Tryd.underlying60
 a72:=Tryd.isAgg60
 z72:=Tryd.sizeOf60
 v72:=Tryd.zeroValue60
 t75:=Tryd.underlying42
 a75:=Tryd.isAgg42
 z75:=Tryd.sizeOf42
 v75:=Tryd.zeroValue42
 t76:=Tryd.underlying47
 a76:=Tryd.isAgg47
 z76:=Tryd.sizeOf47
 v76:=Tryd.zeroValue47
 t127:=Tryd.underlying80
 a127:=Tryd.isAgg80
 z127:=Tryd.sizeOf80
 v127:=Tryd.zeroValue80
 t164:=Tryd.underlying95
 a164:=Tryd.isAgg95
 z164:=Tryd.sizeOf95
 v164:=Tryd.zeroValue95 }
def Tryd.laySpl_ren:Go.Shelf.Ren:=⟨fun|146=>13|221=>23|268=>35|138=>36|143=>37|195=>52|197=>53|218=>54|219=>55|260=>62|217=>63|225=>64|224=>65|267=>66|266=>67|314=>68|n=>n,fun|9=>9|31=>39|3=>3|4=>4|0=>0|105=>88|21=>21|5=>5|46=>73|119=>104|139=>107|138=>106|146=>108|51=>84|n=>n,fun|1=>3|3=>6|4=>7|n=>n⟩
theorem Tryd.laySpl:Go.Proofs.Lays.n146 Tryd.prog Tryd.laySpl_ren:={
 mixed:=by kernel_rfl
 f138:=Tryd.func36.trans (congrArg some (by kernel_rfl))
 f143:=Tryd.func37.trans (congrArg some (by kernel_rfl))
 f146:=Tryd.func13.trans (congrArg some (by kernel_rfl))
 f195:=Tryd.func52.trans (congrArg some (by kernel_rfl))
 f197:=Tryd.func53.trans (congrArg some (by kernel_rfl))
 f217:=Tryd.func63.trans (congrArg some (by kernel_rfl))
 f218:=Tryd.func54.trans (congrArg some (by kernel_rfl))
 f219:=Tryd.func55.trans (congrArg some (by kernel_rfl))
 f221:=Tryd.func23.trans (congrArg some (by kernel_rfl))
 f224:=Tryd.func65.trans (congrArg some (by kernel_rfl))
 f225:=Tryd.func64.trans (congrArg some (by kernel_rfl))
 f260:=Tryd.func62.trans (congrArg some (by kernel_rfl))
 f266:=Tryd.func67.trans (congrArg some (by kernel_rfl))
 f267:=Tryd.func66.trans (congrArg some (by kernel_rfl))
 f268:=Tryd.func35.trans (congrArg some (by kernel_rfl))
 f314:=Tryd.func68.trans (congrArg some (by kernel_rfl))
 t0:=Tryd.underlying0
 a0:=Tryd.isAgg0
 z0:=Tryd.sizeOf0
 v0:=Tryd.zeroValue0
 t3:=Tryd.underlying3
 a3:=Tryd.isAgg3
 z3:=Tryd.sizeOf3
 v3:=Tryd.zeroValue3
 t4:=Tryd.underlying4
 a4:=Tryd.isAgg4
 z4:=Tryd.sizeOf4
 v4:=Tryd.zeroValue4
 t5:=Tryd.underlying5
 a5:=Tryd.isAgg5
 z5:=Tryd.sizeOf5
 v5:=Tryd.zeroValue5
 t9:=Tryd.underlying9
 a9:=Tryd.isAgg9
 z9:=Tryd.sizeOf9
 v9:=Tryd.zeroValue9
 t21:=Tryd.underlying21
 a21:=Tryd.isAgg21
 z21:=Tryd.sizeOf21
 v21:=Tryd.zeroValue21
 t31:=Tryd.underlying39
 a31:=Tryd.isAgg39
 z31:=Tryd.sizeOf39
 v31:=Tryd.zeroValue39
 t46:=Tryd.underlying73
 a46:=Tryd.isAgg73
 z46:=Tryd.sizeOf73
 v46:=Tryd.zeroValue73
 t51:=Tryd.underlying84
 a51:=Tryd.isAgg84
 z51:=Tryd.sizeOf84
 v51:=Tryd.zeroValue84
 t105:=Tryd.underlying88
 a105:=Tryd.isAgg88
 z105:=Tryd.sizeOf88
 v105:=Tryd.zeroValue88
 t119:=Tryd.underlying104
 a119:=Tryd.isAgg104
 z119:=Tryd.sizeOf104
 t138:=Tryd.underlying106
 a138:=Tryd.isAgg106
 z138:=Tryd.sizeOf106
 v138:=Tryd.zeroValue106
 t139:=Tryd.underlying107
 a139:=Tryd.isAgg107
 z139:=Tryd.sizeOf107
 v139:=Tryd.zeroValue107
 t146:=Tryd.underlying108
 a146:=Tryd.isAgg108
 z146:=Tryd.sizeOf108
 v146:=Tryd.zeroValue108
 g1:=by kernel_rfl
 g3:=by kernel_rfl
 g4:=by kernel_rfl }
end Go.Proofs
namespace Go.Proofs
open Go.Deep Go.Ab Go.RowKit Go.Lib Go.Sort
set_option maxHeartbeats 6400000 in
set_option maxRecDepth 100000 in
theorem Tryd.fut_in (u:Nat) (hu64:u<18446744073709551616) (w:World) (htab:Lib.TabIs Tryd.prog w "internal/strconv.uint64pow10" .u64 Lib.pow10Tab) :
  Calls Tryd.prog 21 #[.int .u64 u,.int .i64 10] w fun e w'=>e=.returned (.string ⟨(Lib.decDigits u).toArray⟩)∧∃k os,w'=grow (w.drewN k) os:=by
 have esm:∀args w,(callFunc 30 args).run Tryd.prog w=.ok (.enter 30 args) w:=enters_of Tryd.func30 (by kernel_rfl) rfl
 have end_:∀args w,(callFunc 31 args).run Tryd.prog w=.ok (.enter 31 args) w:=enters_of Tryd.func31 (by kernel_rfl) rfl
 have efb:∀args w,(callFunc 32 args).run Tryd.prog w=.ok (.enter 32 args) w:=enters_of Tryd.func32 (by kernel_rfl) rfl
 by_cases hs:u<100
 ·go_enter Tryd.func21,Tryd.ntmps21
  go_wp2_with (go_at_fn 30;refine (Tryd.internal_strconv_small u hs _).mono ?_;rintro e w' ⟨rfl,rfl⟩)
  go_ret
  exact ⟨rfl,0,#[],by simp [World.drewN_zero]⟩
 ·have hu1:1≤u:=by omega
  have hnd20:Lib.nDigits u≤20:=by have:=Lib.numDigits_eq u hu1 hu64;split at this<;>omega
  have hb3:Lib.nDigits u≤24:=by omega
  have hal:Tryd.prog.arrayLen 63=24:=by simp [Program.arrayLen,Tryd.underlying63]
  have hsl1:∀W,(Instr.sliceAt 63 (.pointer (some ⟨w.heap.size,0,none⟩)) none (some (.int .i64 (Lib.nDigits u:Int))) none).run Tryd.prog W=.ok (.slice (some ⟨w.heap.size,0,none⟩) (Lib.nDigits u) 24) W:=fun W=>by
   rw [run_sliceAt_array_h W 63 ⟨w.heap.size,0,none⟩ (by simp [Program.arrayLen,Program.elem,Tryd.underlying63]) .i64 (Lib.nDigits u:Int) (by omega) (by rw [hal];omega)]
   go_simp
  have hH0:=Lib.holds_zero0 w 63 (Lib.nDigits u) (by omega)
  have hfmt:=Tryd.internal_strconv_formatBase10 w.heap.size 0 24 u (Array.replicate (Lib.nDigits u) 0) (w.alloc (.cells Lib.zeros24 63)) hH0 (by rw [Array.size_replicate];exact Lib.lt_pow_nDigits u) hu64 (by rw [Array.size_replicate];omega)
  rw [Array.size_replicate] at hfmt
  have HH0:=Lib.hid hH0
  clear hH0 hal
  go_enter Tryd.func21,Tryd.ntmps21
  go_wp2_with (first
   | (go_at_fn 31;refine (Tryd.internal_strconv_numDigits u hu1 hu64 _ (Lib.tabIs_alloc htab _)).mono ?_;rintro e w' ⟨rfl,rfl⟩))
  go_at_fn 32
  refine hfmt.mono ?_
  rintro e w' ⟨rfl,k,v',dk,rfl,hF⟩
  have hal:Tryd.prog.arrayLen 63=24:=by simp [Program.arrayLen,Tryd.underlying63]
  have hcv:(convert 29 9 (.slice (some ⟨w.heap.size,0,none⟩) (Lib.nDigits u) 24)).run Tryd.prog ((putRow (fun (b:UInt8)=>Value.int .u8 (b.toNat:Int)) (w.alloc (.cells Lib.zeros24 63)) w.heap.size 0 dk).drewN k)=.ok (.string ⟨(Lib.decDigits u).toArray⟩) ((putRow (fun (b:UInt8)=>Value.int .u8 (b.toNat:Int)) (w.alloc (.cells Lib.zeros24 63)) w.heap.size 0 dk).drewN k):=by
   have h:=run_convert_bytes_back (P:=Tryd.prog) ((putRow (fun (b:UInt8)=>Value.int .u8 (b.toNat:Int)) (w.alloc (.cells Lib.zeros24 63)) w.heap.size 0 dk).drewN k) 29 9 5 ⟨w.heap.size,0,none⟩ 24 (Lib.decDigits u) Tryd.underlying29 Tryd.underlying5 Tryd.underlying9 (fun j hj=>by
    rw [Lib.row_is_numeral hF j hj,Lib.add_plain,World.cell?_drewN]
    exact cell?_putRow (fun (b:UInt8)=>Value.int .u8 (b.toNat:Int)) _ w.heap.size 0 _ dk HH0.out (by rw [hF.size,Array.size_replicate]) j (by rw [hF.size];rw [Lib.decDigits_length] at hj;exact hj))
   rw [Lib.decDigits_length] at h
   exact h
  go_wp2
  go_ret
  obtain ⟨os,eo⟩:=Lib.fin_at w (.cells Lib.zeros24 63) dk k 0
  exact ⟨rfl,k,os,eo⟩
set_option maxRecDepth 100000 in
theorem Tryd.fut_out (u:Nat) (hu64:u<18446744073709551616) (w:World) (htab:Lib.TabIs Tryd.prog w "internal/strconv.uint64pow10" .u64 Lib.pow10Tab) :
  Calls Tryd.prog 10 #[.int .u64 u,.int .i64 10] w fun e w'=>e=.returned (.string ⟨(Lib.decDigits u).toArray⟩)∧∃k os,w'=grow (w.drewN k) os:=by
 have efi:∀args w,(callFunc 21 args).run Tryd.prog w=.ok (.enter 21 args) w:=enters_of Tryd.func21 (by kernel_rfl) rfl
 go_enter Tryd.func10,Tryd.ntmps10
 go_wp2_with (go_at_fn 21;refine (Tryd.fut_in u hu64 _ htab).mono ?_;rintro e w' ⟨rfl,k,os,rfl⟩)
 go_ret
 exact ⟨rfl,k,os,rfl⟩
theorem Tryd.joinX:Builder.Extra Tryd.prog Tryd.layJoin_ren:=⟨⟨by kernel_rfl,by kernel_rfl⟩,Tryd.underlying5,Tryd.isAgg5,Tryd.sizeOf5,Tryd.zeroValue5,by kernel_rfl,by kernel_rfl,by kernel_rfl,by decide⟩
end Go.Proofs
namespace Go.Ab
open Go.Proofs Go.RowKit
def futI (n b:Int):Option Str:=chk (decide (b=10)&&(decide (0≤n)&&decide (n<18446744073709551616))) (some (Lib.decDigits n.toNat))
theorem W_k {n b:Int} {y:Str} (hy:futI n b=some y):ACall Tryd.prog 10 [.int .u64 n,.int .i64 b] [] (fun r H=>r=.str y∧H=[]):=by
 unfold futI chk at hy
 cases hc:(decide (b=10)&&(decide (0≤n)&&decide (n<18446744073709551616))) with
 | false=>rw [hc] at hy;cases hy
 | true =>
  rw [hc] at hy
  obtain rfl:=Option.some.inj hy
  simp only [Bool.and_eq_true,decide_eq_true_eq] at hc
  obtain ⟨rfl,h0,h1⟩:=hc
  obtain ⟨u,rfl⟩:=Int.eq_ofNat_of_zero_le h0
  have hu:u<18446744073709551616:=by omega
  refine acall_grow (by kernel_rfl) fun g w vals hH hl hv=>?_
  rw [arr2 hl,(hv 0 _ rfl).int_inv.1,(hv 1 _ rfl).int_inv.1]
  have ht:=(hH.tabs w (fun _ _=>rfl)).1 _ List.mem_cons_self (by kernel_rfl)
  refine (Tryd.fut_out u hu w ht).mono ?_
  rintro en w' ⟨rfl,k,os,rfl⟩
  have hlen:(Lib.decDigits u).length≤20:=by
   rw [Lib.decDigits_length]
   by_cases h:1≤u
   ·have:=Lib.numDigits_eq u h hu;split at this<;>omega
   ·obtain rfl:u=0:=by omega
    exact Nat.le_of_ble_eq_true (by kernel_rfl)
  exact ⟨_,rfl,fun g w'=>str_vr _ (Nat.le_trans hlen (by decide)),k,os,rfl⟩
theorem W_l {s t:Str} {y:List Str} (hy:splI s t=some y):ACall Tryd.prog 13 [.str s,.str t] [] (fun r H=>r=.sl (y.map V.str)∧H=[]):=by
 have h:=acall_split Tryd.laySpl (by kernel_rfl) (by kernel_rfl) hy
 exact h
def joinI (xs:List Str) (sep:Str):Option Str:=chk (decide (xs.length≤140737488355328)&&decide ((Lib.join xs sep).length≤140737488355328)) (some (Lib.join xs sep))
theorem W_m {xs:List Str} {sep y:Str} (hy:joinI xs sep=some y):ACall Tryd.prog 20 [.sl (xs.map V.str),.str sep] [] (fun r H=>r=.str y∧H=[]):=by
 unfold joinI chk at hy
 cases hc:(decide (xs.length≤140737488355328)&&decide ((Lib.join xs sep).length≤140737488355328)) with
 | false=>rw [hc] at hy;cases hy
 | true =>
  rw [hc] at hy
  obtain rfl:=Option.some.inj hy
  simp only [Bool.and_eq_true,decide_eq_true_eq] at hc
  obtain ⟨h1,h2⟩:=hc
  refine acall_step ⟨.str (Lib.join xs sep),[],[]⟩ (by kernel_rfl) fun g w vals hH hl hv=>?_
  obtain ⟨t,e1,e2,e3⟩:=(hv 1 _ rfl).str_inv
  have hrd:Rd g.S w (vals.getD 0 undef) (.sl (xs.map V.str)):=sl_rd (hv 0 _ rfl)
  rw [arr2' hl,e1]
  generalize vals.getD 0 undef=v0 at hrd
  have fin:∀w':World,Below w.heap.size w w'→∃v g',Ending.returned (.string ⟨(Lib.join xs sep).toArray⟩)=.returned v∧StepOK g [] w ⟨.str (Lib.join xs sep),[],[]⟩ g' w'∧Fresh [] g g' ⟨[],[]⟩ ⟨.str (Lib.join xs sep),[],[]⟩∧VR g' w' v (.str (Lib.join xs sep)):=fun w' hb =>
   ⟨_,g,rfl,StepOK.grown _ [] hH.lt hb.os hb.tape hb.output hb.size (fun b h _=>hb.block b h),Fresh.none _ _,str_vr _ (Nat.le_trans h2 (by decide))⟩
  have none_:∀(a:Option Addr) (c:Nat),xs=[]→Calls Tryd.prog 20 #[.slice a 0 c,.string t] w fun en w'=>∃v g',en=.returned v∧StepOK g [] w ⟨.str (Lib.join xs sep),[],[]⟩ g' w'∧Fresh [] g g' ⟨[],[]⟩ ⟨.str (Lib.join xs sep),[],[]⟩∧VR g' w' v (.str (Lib.join xs sep)):=by
   rintro a c rfl
   refine (Any.strings_Join_none Tryd.layJoin Tryd.joinX a c t w).mono ?_
   rintro en w' ⟨rfl,rfl⟩
   exact fin w' (Below.refl _ _)
  generalize hvs:xs.map V.str=vs at hrd
  cases hrd with
  | nilsl=>exact none_ none 0 (List.map_eq_nil_iff.1 hvs)
  | slz a c=>exact none_ (some a) c (List.map_eq_nil_iff.1 hvs)
  | sl bb oo len cap k cur e fz _ hS hg hln hm hcp hb hk hr =>
   by_cases hz:xs=[]
   ·have:len=0:=by rw [←hln,←hvs,hz];rfl
    subst this
    exact none_ _ cap hz
   ·have hlen:len=xs.length:=by rw [←hln,←hvs,List.length_map]
    have hk1:k=1:=by
     obtain ⟨x,r,rfl⟩:=List.exists_cons_of_ne_nil hz
     have:=(hk (V.str x) (by rw [←hvs];simp)).1
     simpa [V.cells] using this.symm
    subst hk1
    have hpos:0<xs.length:=List.length_pos_iff.2 hz
    have hid:xs.map ((fun b:ByteArray=>b.data.toList)∘fun s:Str=>(⟨s.toArray⟩:ByteArray))=xs:=by
     simp [Function.comp_def]
    have hj:=Any.strings_Join Tryd.layJoin Tryd.joinX bb oo cap (xs.map fun s=>(⟨s.toArray⟩:ByteArray)) t w (fun j x hx=>by
     rw [List.getElem?_map] at hx
     obtain ⟨s,hs,rfl⟩:=Option.map_eq_some_iff.1 hx
     have hjl:j<xs.length:=(List.getElem?_eq_some_iff.1 hs).1
     have h0:=hr j 0 (V.str s) (V.str s) (by rw [←hvs,List.getElem?_map,hs];rfl) rfl
     obtain ⟨q,q1,q2,_⟩:=(VR.rd (g:=g) h0).str_inv
     have hq:q=⟨s.toArray⟩:=by
      apply ByteArray.ext
      apply Array.toList_inj.1
      rw [q2]
     have hlt:oo+j<cur.size:=by omega
     simp only [Nat.mul_one,Nat.add_zero] at q1
     rw [Array.getD_eq_getD_getElem?,Array.getElem?_eq_getElem hlt,Option.getD_some] at q1
     simp only [World.cell?,hg]
     rw [Array.getElem?_eq_getElem hlt,q1,hq];rfl) (by
      have:=(Array.getElem?_eq_some_iff.1 hg).1
      exact this) (by rw [List.length_map];exact h1) (by rw [List.length_map];omega) (by rw [List.map_map,e2,hid];exact h2)
    rw [List.length_map,List.map_map,e2,hid] at hj
    rw [hlen]
    refine Calls.mono hj ?_
    rintro en w' ⟨rfl,hb'⟩
    exact fin w' hb'
def joinO (xs:List Str) (sep:Str):Option Str:=joinI xs sep
theorem W_y {xs:List Str} {sep y:Str} (hy:joinO xs sep=some y):ACall Tryd.prog 20 [.osl 1000 1 0 xs.length,.str sep] [(1000,.arr 1 (xs.map V.str))] (fun r H=>r=.str y∧H=[(1000,.arr 1 (xs.map V.str))]):=by
 have h:=acall_rowS (k:=1) (t:=none) (W_m hy)
 rw [List.length_map] at h
 exact h
def puE (s:Str) (b n:Int):Option (Int×Bool):=chk (decide (b=10)&&(decide (n=64)&&decide (s.length≤281474976710656))) (some (match Lib.parseUintB 64 s with
 | .ok u=>((u:Int),true)
 | .range=>(18446744073709551615,false)
 | _=>(0,false)))
theorem W_n {s:Str} {b n:Int} {y:Int×Bool} (hy:puE s b n=some y):ACall Tryd.prog 14 [.str s,.int .i64 b,.int .i64 n] [] (fun r H=>r=.tup [.int .u64 y.1,.ifc y.2]∧H=[]):=by
 unfold puE chk at hy
 cases hc:(decide (b=10)&&(decide (n=64)&&decide (s.length≤281474976710656))) with
 | false=>rw [hc] at hy;cases hy
 | true =>
  rw [hc] at hy
  obtain rfl:=Option.some.inj hy
  simp only [Bool.and_eq_true,decide_eq_true_eq] at hc
  obtain ⟨rfl,rfl,hlen⟩:=hc
  generalize hy:(match Lib.parseUintB 64 s with|.ok u=>((u:Int),true)|.range=>(18446744073709551615,false)|_=>(0,false))=y
  refine acall_step ⟨.tup [.int .u64 y.1,.ifc y.2],[],[]⟩ (by kernel_rfl) fun g w vals hH hl hv=>?_
  obtain ⟨t,e1,e2,e3⟩:=(hv 0 _ rfl).str_inv
  rw [arr3 hl,e1,(hv 1 _ rfl).int_inv.1,(hv 2 _ rfl).int_inv.1]
  have hts:t.data.toList.length=t.size:=Array.length_toList
  have hsz:t.size≤281474976710656:=by rw [←hts,e2];exact hlen
  have fin:∀(w':World) (k:Int) (z:Value),k=y.1→rng .u64 k→VR g w' z (.ifc y.2)→Below w.heap.size w w'→∃v g',Ending.returned (.tuple #[.int .u64 k,z])=.returned v∧StepOK g [] w ⟨.tup [.int .u64 y.1,.ifc y.2],[],[]⟩ g' w'∧Fresh [] g g' ⟨[],[]⟩ ⟨.tup [.int .u64 y.1,.ifc y.2],[],[]⟩∧VR g' w' v (.tup [.int .u64 y.1,.ifc y.2]):=by
   rintro w' k z rfl hr hz hb
   refine ⟨_,g,rfl,StepOK.grown _ [] hH.lt hb.os hb.tape hb.output hb.size (fun b h _=>hb.block b h),Fresh.none _ _,.tup _ _ rfl fun i x hx=>?_⟩
   match i with
   | 0=>simp at hx;subst hx;exact .rd (.int _ _ (rng_iff.2 hr))
   | 1=>simp at hx;subst hx;exact hz
   | i+2=>simp at hx
  have htab:=(hH.tabs w (fun _ _=>rfl)).2
  cases h:Lib.parseUintB 64 s with
  | ok u =>
   rw [h] at hy;cases hy
   have hu:=Lib.parseUintB_le h
   refine (Any.strconv_ParseUint_10_at64_ok Tryd.layPu t (by omega) u (by rw [e2];exact h) w).mono ?_
   rintro en w' ⟨rfl,hw⟩
   refine fin w' u _ rfl (by simp [rng];omega) (.rd .ifcn) ?_
   rcases hw with rfl|rfl
   ·exact Below.refl _ _
   ·exact Go.Joins.below_bytesWorld _ _ _ _ (Nat.le_refl _)
  | range =>
   rw [h] at hy;cases hy
   obtain ⟨tp,p,hvar⟩:=htab "strconv.ErrRange" (by simp [errs0]) (by kernel_rfl)
   refine (Any.strconv_ParseUint_10_at64_range_var Tryd.layPu t hsz (by rw [e2];exact h) tp p w hvar).mono ?_
   rintro en w' ⟨N,rfl,_,_,hb⟩
   exact fin w' _ _ rfl (by simp [rng]) (.rd (.ifcs _ _)) hb
  | _ =>
   rw [h] at hy;cases hy
   obtain ⟨tp,p,hvar⟩:=htab "strconv.ErrSyntax" (by simp [errs0]) (by kernel_rfl)
   refine (Any.strconv_ParseUint_10_at64_syntax_var Tryd.layPu t hsz (by rw [e2];exact h) tp p w hvar).mono ?_
   rintro en w' ⟨N,rfl,_,_,hb⟩
   exact fin w' 0 _ rfl (by simp [rng]) (.rd (.ifcs _ _)) hb
theorem W_o {n:Int} {y:Str} (hy:itoaI n=some y):ACall Tryd.prog 11 [.int .i64 n] [] (fun r H=>r=.str y∧H=[]):=by
 obtain ⟨hn,rfl⟩:=itoaI_inv hy
 have hn':-9223372036854775808≤n∧n≤9223372036854775807:=hn
 refine acall_grow (by kernel_rfl) fun g w vals hH hl hv=>?_
 rw [arr1 hl,(hv 0 _ rfl).int_inv.1]
 have ht:=(hH.tabs w (fun _ _=>rfl)).1 _ List.mem_cons_self (by kernel_rfl)
 refine (Tryd.strconv_Itoa n hn'.1 hn'.2 w ht).mono ?_
 rintro en w' ⟨rfl,k,os,rfl⟩
 exact ⟨_,rfl,fun g w'=>str_vr _ (Nat.le_trans (Lib.itoa_length_le n hn'.1 hn'.2) (by decide)),k,os,rfl⟩
theorem W_z {s:Str} {y:Int} (hy:atoiI s=some y):ACall Tryd.prog 15 [.str s] [] (fun r H=>r=.tup [.int .i64 y,.any]∧H=[]):=by
 obtain ⟨hlen,rfl⟩:=atoiI_inv hy
 refine acall_step ⟨.tup [.int .i64 (atoiV s),.any],[],[]⟩ (by kernel_rfl) fun g w vals hH hl hv=>?_
 obtain ⟨t,e1,e2,e3⟩:=(hv 0 _ rfl).str_inv
 rw [arr1 hl,e1]
 have hts:t.data.toList.length=t.size:=Array.length_toList
 have hsz:t.size≤281474976710656:=by rw [←hts,e2];exact hlen
 have hr:=atoiV_rng s
 have fin:∀(w':World) (n:Int) (z:Value),n=atoiV s→Below w.heap.size w w'→∃v g',Ending.returned (.tuple #[.int .i64 n,z])=.returned v∧StepOK g [] w ⟨.tup [.int .i64 (atoiV s),.any],[],[]⟩ g' w'∧Fresh [] g g' ⟨[],[]⟩ ⟨.tup [.int .i64 (atoiV s),.any],[],[]⟩∧VR g' w' v (.tup [.int .i64 (atoiV s),.any]):=by
  rintro w' n z rfl hb
  refine ⟨_,g,rfl,StepOK.grown _ [] hH.lt hb.os hb.tape hb.output hb.size (fun b h _=>hb.block b h),Fresh.none _ _,.tup _ _ rfl fun i x hx=>?_⟩
  match i with
  | 0=>simp at hx;subst hx;exact .rd (.int _ _ (rng_iff.2 hr))
  | 1=>simp at hx;subst hx;exact .any _
  | i+2=>simp at hx
 have htab:=(hH.tabs w (fun _ _=>rfl)).2
 cases h:Lib.atoiAll s with
 | ok v =>
  refine (Tryd.strconv_Atoi_ok t (by omega) v (by rw [e2];exact h) w).mono ?_
  rintro en w' ⟨rfl,hw⟩
  refine fin w' v _ (by simp [atoiV,h]) ?_
  rcases hw with rfl|⟨u,rfl⟩
  ·exact Below.refl _ _
  ·exact Go.Joins.below_bytesWorld _ _ _ _ (Nat.le_refl _)
 | range =>
  obtain ⟨tp,p,hvar⟩:=htab "strconv.ErrRange" (by simp [errs0]) (by kernel_rfl)
  refine (Tryd.strconv_Atoi_range_var t hsz (by rw [e2];exact h) tp p w hvar).mono ?_
  rintro en w' ⟨N,rfl,_,_,hb⟩
  exact fin w' _ _ (by simp [atoiV,h,e2]) hb
 | _ =>
  obtain ⟨tp,p,hvar⟩:=htab "strconv.ErrSyntax" (by simp [errs0]) (by kernel_rfl)
  refine (Tryd.strconv_Atoi_syntax_var t hsz (by rw [e2,h];intro v hv;cases hv) (by rw [e2,h];intro hv;cases hv) tp p w hvar).mono ?_
  rintro en w' ⟨N,rfl,_,_,hb⟩
  exact fin w' 0 _ (by simp [atoiV,h]) hb
theorem W_p {s:Str} {y:Int×Bool} (hy:atoiE s=some y):ACall Tryd.prog 15 [.str s] [] (fun r H=>r=.tup [.int .i64 y.1,.ifc y.2]∧H=[]):=by
 obtain ⟨hlen,rfl⟩:=atoiE_inv hy
 refine acall_step ⟨.tup [.int .i64 (atoiV s),.ifc (atoiB s)],[],[]⟩ (by kernel_rfl) fun g w vals hH hl hv=>?_
 obtain ⟨t,e1,e2,e3⟩:=(hv 0 _ rfl).str_inv
 rw [arr1 hl,e1]
 have hts:t.data.toList.length=t.size:=Array.length_toList
 have hsz:t.size≤281474976710656:=by rw [←hts,e2];exact hlen
 have hr:=atoiV_rng s
 have fin:∀(w':World) (n:Int) (z:Value),n=atoiV s→VR g w' z (.ifc (atoiB s))→Below w.heap.size w w'→∃v g',Ending.returned (.tuple #[.int .i64 n,z])=.returned v∧StepOK g [] w ⟨.tup [.int .i64 (atoiV s),.ifc (atoiB s)],[],[]⟩ g' w'∧Fresh [] g g' ⟨[],[]⟩ ⟨.tup [.int .i64 (atoiV s),.ifc (atoiB s)],[],[]⟩∧VR g' w' v (.tup [.int .i64 (atoiV s),.ifc (atoiB s)]):=by
  rintro w' n z rfl hz hb
  refine ⟨_,g,rfl,StepOK.grown _ [] hH.lt hb.os hb.tape hb.output hb.size (fun b h _=>hb.block b h),Fresh.none _ _,.tup _ _ rfl fun i x hx=>?_⟩
  match i with
  | 0=>simp at hx;subst hx;exact .rd (.int _ _ (rng_iff.2 hr))
  | 1=>simp at hx;subst hx;exact hz
  | i+2=>simp at hx
 have htab:=(hH.tabs w (fun _ _=>rfl)).2
 cases h:Lib.atoiAll s with
 | ok v =>
  refine (Tryd.strconv_Atoi_ok t (by omega) v (by rw [e2];exact h) w).mono ?_
  rintro en w' ⟨rfl,hw⟩
  refine fin w' v _ (by simp [atoiV,h]) (by simp only [atoiB,h];exact .rd .ifcn) ?_
  rcases hw with rfl|⟨u,rfl⟩
  ·exact Below.refl _ _
  ·exact Go.Joins.below_bytesWorld _ _ _ _ (Nat.le_refl _)
 | range =>
  obtain ⟨tp,p,hvar⟩:=htab "strconv.ErrRange" (by simp [errs0]) (by kernel_rfl)
  refine (Tryd.strconv_Atoi_range_var t hsz (by rw [e2];exact h) tp p w hvar).mono ?_
  rintro en w' ⟨N,rfl,_,_,hb⟩
  exact fin w' _ _ (by simp [atoiV,h,e2]) (by simp only [atoiB,h];exact .rd (.ifcs _ _)) hb
 | _ =>
  obtain ⟨tp,p,hvar⟩:=htab "strconv.ErrSyntax" (by simp [errs0]) (by kernel_rfl)
  refine (Tryd.strconv_Atoi_syntax_var t hsz (by rw [e2,h];intro v hv;cases hv) (by rw [e2,h];intro hv;cases hv) tp p w hvar).mono ?_
  rintro en w' ⟨N,rfl,_,_,hb⟩
  exact fin w' 0 _ (by simp [atoiV,h]) (by simp only [atoiB,h];exact .rd (.ifcs _ _)) hb
set_option maxRecDepth 20000
instance Wi_fut {n b:Int}:WI (futI n b) Tryd.prog 10 [.int .u64 n,.int .i64 b] [] (fun y=>.str y) (fun y=>[]):=⟨fun Q Q' h hQ=>by obtain ⟨y,hy,hq⟩:=h;exact (W_k hy).mono fun r H' e=>by rw [e.1,e.2];exact hQ y hq⟩
instance Wi_split {s t:Str}:WI (splI s t) Tryd.prog 13 [.str s,.str t] [] (fun y=>.sl (y.map V.str)) (fun y=>[]):=⟨fun Q Q' h hQ=>by obtain ⟨y,hy,hq⟩:=h;exact (W_l hy).mono fun r H' e=>by rw [e.1,e.2];exact hQ y hq⟩
instance Wi_join {xs:List Str} {sep:Str}:WI (joinI xs sep) Tryd.prog 20 [.sl (xs.map V.str),.str sep] [] (fun y=>.str y) (fun y=>[]):=⟨fun Q Q' h hQ=>by obtain ⟨y,hy,hq⟩:=h;exact (W_m hy).mono fun r H' e=>by rw [e.1,e.2];exact hQ y hq⟩
instance Wi_puE {s:Str} {b n:Int}:WI (puE s b n) Tryd.prog 14 [.str s,.int .i64 b,.int .i64 n] [] (fun y=>.tup [.int .u64 y.1,.ifc y.2]) (fun y=>[]):=⟨fun Q Q' h hQ=>by obtain ⟨y,hy,hq⟩:=h;exact (W_n hy).mono fun r H' e=>by rw [e.1,e.2];exact hQ y hq⟩
instance Wi_itoa {n:Int}:WI (itoaI n) Tryd.prog 11 [.int .i64 n] [] (fun y=>.str y) (fun y=>[]):=⟨fun Q Q' h hQ=>by obtain ⟨y,hy,hq⟩:=h;exact (W_o hy).mono fun r H' e=>by rw [e.1,e.2];exact hQ y hq⟩
instance Wi_atoi {s:Str}:WI (atoiI s) Tryd.prog 15 [.str s] [] (fun y=>.tup [.int .i64 y,.any]) (fun y=>[]):=⟨fun Q Q' h hQ=>by obtain ⟨y,hy,hq⟩:=h;exact (W_z hy).mono fun r H' e=>by rw [e.1,e.2];exact hQ y hq⟩
instance Wi_atoiE {s:Str}:WI (atoiE s) Tryd.prog 15 [.str s] [] (fun y=>.tup [.int .i64 y.1,.ifc y.2]) (fun y=>[]):=⟨fun Q Q' h hQ=>by obtain ⟨y,hy,hq⟩:=h;exact (W_p hy).mono fun r H' e=>by rw [e.1,e.2];exact hQ y hq⟩
end Go.Ab
