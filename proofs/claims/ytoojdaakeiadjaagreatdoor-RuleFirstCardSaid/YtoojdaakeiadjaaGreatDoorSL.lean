/- What the functions of this seat that lie on the laws' road compute (part SL), each for every input. By AI agents. -/
import Derived.Test.YtoojdaakeiadjaaGreatDoorProg
import Derived.KernelRfl
import Derived.Test.YtoojdaakeiadjaaGreatDoorAbFun
import Derived.Shelf.Strings.Builder1
import Derived.Shelf.Strings.Builder2
import Derived.Shelf.Strings.OnBuilder
import Derived.Shelf.Strings.Trim
import Derived.Shelf.Small.Utf8
import Derived.Shelf.Small.Strs
import Derived.Shelf.Small.Wraps
import Derived.Shelf.Strings.BuilderF
import Derived.Shelf.Strings.BuilderK
import Derived.Shelf.Strings.Builder2Cap
import Derived.Shelf.Strconv.Atoi
import Derived.Shelf.Strconv.Itoa0
import Derived.Shelf.Strconv.Itoa1
import Derived.Shelf.LaysM
import Derived.Shelf.Strconv.Itoa2
import Derived.Shelf.Strconv.Itoa3
import Derived.Shelf.Strconv.AtoiErrFast
import Derived.Shelf.Strconv.ParseIntEmpty
import Derived.Shelf.Strconv.AtoiFail
import Derived.Shelf.Strconv.Clone
import Derived.Shelf.Strconv.SyntaxError
import Derived.Shelf.LaysC
import Derived.Shelf.Strconv.ToError
import Derived.Shelf.Strconv.Lower
import Derived.Shelf.Strconv.ParseUint10
import Derived.Shelf.Strconv.ParseUint10Empty
import Derived.Shelf.Strconv.ParseUint10Any
import Derived.Shelf.Strconv.ParseInt10
import Derived.Shelf.Strconv.AtoiLong
import Derived.Shelf.Strconv.AtoiInnerAll
import Derived.Shelf.Strconv.RangeError
import Derived.Shelf.Strconv.ToErrorRange
import Derived.Shelf.Strconv.AtoiAll
import Derived.Shelf.Strconv.ErrVarAll
import Derived.Shelf.Strconv.ParseUintEmpty
import Derived.Shelf.Strconv.ParseUint10b64
import Derived.Shelf.Strconv.ParseUint10b32
import Derived.Shelf.Strconv.ParseUint10b16
import Derived.Shelf.Strconv.ParseUint10b8
import Derived.Shelf.Strconv.ParseUint10At
import Derived.Ground.MpProg
import Derived.Shelf.Pu.ParseUintPublic10
import Derived.Shelf.Pu.ErrVarParseUint
import Derived.Shelf.Strings.Search1
import Derived.Shelf.Strings.Search2
import Derived.Shelf.Strings.Cut
import Derived.Shelf.Strings.Shaped
import Derived.Shelf.Strings.Prefix
import Derived.Shelf.Unicode.Decode
import Derived.Shelf.Strings.Runes
import Derived.Shelf.Strings.AsciiSet
import Derived.Shelf.Unicode.DecodeSlow
import Derived.Shelf.Unicode.DecodeAny
import Derived.Shelf.Strings.BuilderCap
import Derived.Shelf.Strings.SlTrimAscii
import Derived.Ground.NamesProg
import Derived.Shelf.Pu.Lays
import Derived.Deep.LoopGhost
import Derived.Lib.ParseIntBCases
import Derived.LaidLaws
import Derived.Lib.AppendIntMem
import Derived.WalkKit
import Derived.BigCall
import Derived.BigGuard
set_option linter.all false
set_option maxRecDepth 100000
namespace Go.Proofs
open Go.Shelf
def Tryz.lays137_ren:Go.Shelf.Ren:=⟨fun|137=>54|217=>87|266=>117|n=>n,fun|9=>9|5=>5|3=>3|n=>n,fun|n=>n⟩
theorem Tryz.lays137:Go.Proofs.Lays.n137 Tryz.prog Tryz.lays137_ren:=by repeat' (first|kernel_rfl|(intro w;kernel_rfl)|(intro w;rfl)|constructor)
open Go.RowKit in
theorem Tryz.strings_IndexByte (s:ByteArray) (c:Int) (w:World) :
  Calls Tryz.prog 54 #[.string s,.int .u8 c] w fun e w'=>e=.returned (.int .i64 (Lib.indexByte s.data.toList c.toNat.toUInt8))∧w'=w:=Any.strings_IndexByte Tryz.lays137 s c w
def Tryz.lays283_ren:Go.Shelf.Ren:=⟨fun|283=>143|n=>n,fun|3=>3|9=>9|4=>4|n=>n,fun|n=>n⟩
theorem Tryz.lays283:Go.Proofs.Lays.n283 Tryz.prog Tryz.lays283_ren:=by repeat' (first|kernel_rfl|(intro w;kernel_rfl)|(intro w;rfl)|constructor)
open Go.Lib in
theorem Tryz.internal_strconv_small (i:Nat) (h:i<100) (w:World) :
  Calls Tryz.prog 143 #[.int .i64 i] w fun e w'=>e=.returned (.string ⟨(Lib.decDigits i).toArray⟩)∧w'=w:=Any.internal_strconv_small Tryz.lays283 i h w
def Tryz.laysM284_ren:Go.Shelf.Ren:=⟨fun|284=>144|129=>167|317=>166|318=>168|n=>n,fun|53=>42|3=>3|212=>220|0=>0|4=>4|46=>187|5=>5|9=>9|n=>n,fun|17=>1|n=>n⟩
theorem Tryz.laysM284:Go.Proofs.LaysM.n284 Tryz.prog Tryz.laysM284_ren:=by repeat' (first|kernel_rfl|(intro w;kernel_rfl)|(intro w;rfl)|constructor)
open Go.Lib in
theorem Tryz.internal_strconv_numDigits (u:Nat) (h1:1≤u) (h2:u<18446744073709551616) (w:World) (htab:Lib.TabIs Tryz.prog w "internal/strconv.uint64pow10" .u64 Lib.pow10Tab) :
  Calls Tryz.prog 144 #[.int .u64 u] w fun e w'=>e=.returned (.int .i64 (Lib.nDigits u))∧w'=w:=Any.internal_strconv_numDigits Tryz.laysM284 u h1 h2 w htab
def Tryz.lays285_ren:Go.Shelf.Ren:=⟨fun|285=>145|n=>n,fun|37=>32|53=>42|3=>3|4=>4|51=>202|9=>9|5=>5|0=>0|n=>n,fun|n=>n⟩
theorem Tryz.lays285:Go.Proofs.Lays.n285 Tryz.prog Tryz.lays285_ren:=by repeat' (first|kernel_rfl|(intro w;kernel_rfl)|(intro w;rfl)|constructor)
open Go.RowKit Go.Sort Go.Lib in
theorem Tryz.internal_strconv_formatBase10 (blk off cap:Nat) (u:Nat) (d:Array UInt8) (w:World) (hH:Holds (fun (b:UInt8)=>Value.int .u8 (b.toNat:Int)) w blk off d) (hu:u<10^d.size) (hu64:u<18446744073709551616) (hsz:d.size<4611686018427387904) :
  Calls Tryz.prog 145 #[.slice (some ⟨blk,off,none⟩) d.size cap,.int .u64 u] w fun e w' =>
   e=.returned (.tuple #[])∧∃(n v':Nat) (dk:Array UInt8),w'=(putRow (fun (b:UInt8)=>Value.int .u8 (b.toNat:Int)) w blk off dk).drewN n∧FmtInv d.size u 0 v' dk:=Any.internal_strconv_formatBase10 Tryz.lays285 blk off cap u d w hH hu hu64 hsz
def Tryz.laysM171_ren:Go.Shelf.Ren:=⟨fun|171=>99|243=>125|246=>148|283=>143|284=>144|285=>145|286=>146|129=>167|317=>166|318=>168|319=>169|320=>170|337=>177|338=>178|n=>n,fun|3=>3|9=>9|2=>2|4=>4|171=>189|0=>0|53=>42|37=>32|5=>5|173=>192|212=>220|51=>202|20=>20|213=>221|46=>187|232=>237|233=>238|n=>n,fun|17=>1|18=>4|19=>5|n=>n⟩
theorem Tryz.laysM171:Go.Proofs.LaysM.n171 Tryz.prog Tryz.laysM171_ren:=by repeat' (first|kernel_rfl|(intro w;kernel_rfl)|(intro w;rfl)|constructor)
open Go.RowKit Go.Sort Go.Lib in
theorem Tryz.strconv_Itoa (n:Int) (h0:-9223372036854775808≤n) (h1:n≤9223372036854775807) (w:World) (htab:Lib.TabIs Tryz.prog w "internal/strconv.uint64pow10" .u64 Lib.pow10Tab) :
  Calls Tryz.prog 99 #[.int .i64 n] w fun e w'=>e=.returned (.string ⟨(Lib.itoa n).toArray⟩)∧∃k os,w'=grow (w.drewN k) os:=Any.strconv_Itoa Tryz.laysM171 n h0 h1 w htab
def Tryz.laysC172_ren:Go.Shelf.Ren:=⟨fun|172=>121|244=>142|245=>140|247=>165|279=>157|280=>158|281=>159|282=>160|287=>139|316=>172|171=>99|205=>173|321=>155|322=>156|243=>125|246=>148|283=>143|284=>144|285=>145|286=>146|129=>167|317=>166|318=>168|319=>169|320=>170|337=>177|338=>178|n=>n,fun|9=>9|3=>3|75=>118|76=>119|4=>4|5=>5|167=>205|37=>32|0=>0|85=>217|2=>2|168=>207|53=>42|175=>167|46=>187|210=>226|127=>147|145=>235|143=>233|21=>21|171=>189|173=>192|212=>220|51=>202|20=>20|213=>221|232=>237|233=>238|80=>121|n=>n,fun|15=>2|16=>3|17=>1|18=>4|19=>5|n=>n⟩
theorem Tryz.laysC172:Go.Proofs.LaysC.n172 Tryz.prog Tryz.laysC172_ren:=by repeat' (first|kernel_rfl|(intro w;kernel_rfl)|(intro w;rfl)|constructor)
open Go.RowKit in
theorem Tryz.strconv_Atoi_ok (s:ByteArray) (hmax:s.size≤9223372036854775806) (v:Int) (h:Lib.atoiAll s.data.toList=.ok v) (w:World) :
  Calls Tryz.prog 121 #[.string s] w fun e w'=>e=.returned (.tuple #[.int .i64 v,.nilIface])∧(w'=w∨∃t,w'=Lib.bytesWorld w 5 t):=Any.strconv_Atoi_ok Tryz.laysC172 s hmax v h w
open Go.RowKit in
theorem Tryz.strconv_Atoi_syntax_var (s:ByteArray) (hlim:s.size≤281474976710656) (h1:∀v,Lib.atoiAll s.data.toList≠.ok v) (h2:Lib.atoiAll s.data.toList≠.range) (tp:TypeId) (p:Value) (w:World) (hvar:w.var? Tryz.prog "strconv.ErrSyntax"=some #[.iface tp p]) :
  Calls Tryz.prog 121 #[.string s] w fun e w'=>∃N,e=.returned (.tuple #[.int .i64 0,.iface 207 (.pointer (some ⟨N,0,none⟩))])∧w.heap.size≤N∧w'.heap[N]?=some (.cells #[.string ⟨#[65,116,111,105]⟩,.string s,.iface tp p] 226 (0,0))∧Below w.heap.size w w':=Any.strconv_Atoi_syntax_var Tryz.laysC172 s hlim (by cases e:Lib.atoiAll s.data.toList<;>simp_all) tp p w hvar
open Go.RowKit in
theorem Tryz.strconv_Atoi_range_var (s:ByteArray) (hlim:s.size≤281474976710656) (h:Lib.atoiAll s.data.toList=.range) (tp:TypeId) (p:Value) (w:World) (hvar:w.var? Tryz.prog "strconv.ErrRange"=some #[.iface tp p]) :
  Calls Tryz.prog 121 #[.string s] w fun e w'=>∃N,e=.returned (.tuple #[.int .i64 (Lib.atoiSat s.data.toList),.iface 207 (.pointer (some ⟨N,0,none⟩))])∧w.heap.size≤N∧w'.heap[N]?=some (.cells #[.string ⟨#[65,116,111,105]⟩,.string s,.iface tp p] 226 (0,0))∧Below w.heap.size w w':=Any.strconv_Atoi_range_var Tryz.laysC172 s hlim h tp p w hvar
def Tryz.lays219_ren:Go.Shelf.Ren:=⟨fun|219=>118|217=>87|225=>136|224=>137|267=>138|266=>117|314=>154|n=>n,fun|9=>9|3=>3|4=>4|5=>5|46=>187|146=>203|51=>202|n=>n,fun|1=>0|n=>n⟩
theorem Tryz.lays219:Go.Proofs.Lays.n219 Tryz.prog Tryz.lays219_ren:=by repeat' (first|kernel_rfl|(intro w;kernel_rfl)|(intro w;rfl)|constructor)
open Go.RowKit Go.Lib in
theorem Tryz.stringslite_Index_one (s:ByteArray) (c:UInt8) (w:World) :
  Calls Tryz.prog 118 #[.string s,.string ⟨#[c]⟩] w fun e w'=>e=.returned (.int .i64 (Lib.indexByte s.data.toList c))∧w'=w:=Any.stringslite_Index_one Tryz.lays219 s c w
def Tryz.layTrl_ren:Go.Shelf.Ren:=⟨fun|161=>141|231=>161|227=>162|233=>163|235=>164|228=>174|197=>175|151=>176|260=>179|152=>180|137=>54|119=>181|224=>137|225=>136|217=>87|266=>117|n=>n,fun|9=>9|4=>4|3=>3|5=>5|117=>213|116=>212|0=>0|124=>216|105=>229|21=>21|119=>239|46=>187|139=>242|138=>241|n=>n,fun|3=>6|4=>7|n=>n⟩
theorem Tryz.layTrl:Go.Proofs.Lays.n161 Tryz.prog Tryz.layTrl_ren:=by repeat' (first|kernel_rfl|(intro w;kernel_rfl)|(intro w;rfl)|constructor)
def Tryz.layPu_ren:Go.Shelf.Ren:=⟨fun|14=>119|16=>139|17=>140|19=>155|20=>156|21=>157|22=>158|23=>159|24=>160|25=>172|27=>99|26=>173|28=>125|29=>148|30=>143|31=>144|32=>145|33=>146|35=>167|34=>166|36=>168|37=>169|38=>170|39=>177|40=>178|n=>n,fun|9=>9|3=>3|22=>42|24=>118|25=>167|4=>4|34=>205|5=>5|36=>187|37=>32|0=>0|39=>207|21=>21|44=>226|47=>147|50=>235|48=>233|2=>2|52=>189|55=>192|59=>220|60=>202|20=>20|61=>221|65=>237|66=>238|67=>121|n=>n,fun|0=>2|1=>3|2=>1|3=>4|4=>5|n=>n⟩
theorem Tryz.layPu:Go.Proofs.LaysPu.n14 Tryz.prog Tryz.layPu_ren:=by repeat' (first|kernel_rfl|(intro w;kernel_rfl)|(intro w;rfl)|constructor)
def Tryz.layJoin_ren:Go.Shelf.Ren:=⟨fun|156=>98|165=>124|166=>62|169=>64|240=>96|241=>147|276=>122|277=>171|n=>n,fun|31=>33|9=>9|3=>3|4=>4|0=>0|20=>20|72=>116|76=>119|70=>114|37=>32|75=>118|127=>147|164=>169|5=>5|80=>121|n=>n,fun|n=>n⟩
theorem Tryz.layJoin:Go.Proofs.Lays.n156 Tryz.prog Tryz.layJoin_ren:=by repeat' (first|kernel_rfl|(intro w;kernel_rfl)|(intro w;rfl)|constructor)
end Go.Proofs
namespace Go.Proofs
open Go.Deep Go.Ab Go.RowKit Go.Lib Go.Sort
set_option maxHeartbeats 6400000 in
set_option maxRecDepth 100000 in
theorem Tryz.fut_in (u:Nat) (hu64:u<18446744073709551616) (w:World) (htab:Lib.TabIs Tryz.prog w "internal/strconv.uint64pow10" .u64 Lib.pow10Tab) :
  Calls Tryz.prog 123 #[.int .u64 u,.int .i64 10] w fun e w'=>e=.returned (.string ⟨(Lib.decDigits u).toArray⟩)∧∃k os,w'=grow (w.drewN k) os:=by
 have esm:∀args w,(callFunc 143 args).run Tryz.prog w=.ok (.enter 143 args) w:=enters_of Tryz.func143 (by kernel_rfl) rfl
 have qI:∀args w,(callFunc 144 args).run Tryz.prog w=.ok (.enter 144 args) w:=enters_of Tryz.func144 (by kernel_rfl) rfl
 have efb:∀args w,(callFunc 145 args).run Tryz.prog w=.ok (.enter 145 args) w:=enters_of Tryz.func145 (by kernel_rfl) rfl
 by_cases hs:u<100
 ·go_enter Tryz.func123,Tryz.ntmps123
  go_wp2_with (go_at_fn 143;refine (Tryz.internal_strconv_small u hs _).mono ?_;rintro e w' ⟨rfl,rfl⟩)
  go_ret
  exact ⟨rfl,0,#[],by simp [World.drewN_zero]⟩
 ·have hu1:1≤u:=by omega
  have hnd20:Lib.nDigits u≤20:=by have:=Lib.numDigits_eq u hu1 hu64;split at this<;>omega
  have hb3:Lib.nDigits u≤24:=by omega
  have hal:Tryz.prog.arrayLen 189=24:=by simp [Program.arrayLen,Tryz.underlying189]
  have hsl1:∀W,(Instr.sliceAt 189 (.pointer (some ⟨w.heap.size,0,none⟩)) none (some (.int .i64 (Lib.nDigits u:Int))) none).run Tryz.prog W=.ok (.slice (some ⟨w.heap.size,0,none⟩) (Lib.nDigits u) 24) W:=fun W=>by
   rw [run_sliceAt_array_h W 189 ⟨w.heap.size,0,none⟩ (by simp [Program.arrayLen,Program.elem,Tryz.underlying189]) .i64 (Lib.nDigits u:Int) (by omega) (by rw [hal];omega)]
   go_simp
  have hH0:=Lib.holds_zero0 w 189 (Lib.nDigits u) (by omega)
  have hfmt:=Tryz.internal_strconv_formatBase10 w.heap.size 0 24 u (Array.replicate (Lib.nDigits u) 0) (w.alloc (.cells Lib.zeros24 189)) hH0 (by rw [Array.size_replicate];exact Lib.lt_pow_nDigits u) hu64 (by rw [Array.size_replicate];omega)
  rw [Array.size_replicate] at hfmt
  have HH0:=Lib.hid hH0
  clear hH0 hal
  go_enter Tryz.func123,Tryz.ntmps123
  go_wp2_with (first
   | (go_at_fn 144;refine (Tryz.internal_strconv_numDigits u hu1 hu64 _ (Lib.tabIs_alloc htab _)).mono ?_;rintro e w' ⟨rfl,rfl⟩))
  go_at_fn 145
  refine hfmt.mono ?_
  rintro e w' ⟨rfl,k,v',dk,rfl,hF⟩
  have hal:Tryz.prog.arrayLen 189=24:=by simp [Program.arrayLen,Tryz.underlying189]
  have hcv:(convert 32 9 (.slice (some ⟨w.heap.size,0,none⟩) (Lib.nDigits u) 24)).run Tryz.prog ((putRow (fun (b:UInt8)=>Value.int .u8 (b.toNat:Int)) (w.alloc (.cells Lib.zeros24 189)) w.heap.size 0 dk).drewN k)=.ok (.string ⟨(Lib.decDigits u).toArray⟩) ((putRow (fun (b:UInt8)=>Value.int .u8 (b.toNat:Int)) (w.alloc (.cells Lib.zeros24 189)) w.heap.size 0 dk).drewN k):=by
   have h:=run_convert_bytes_back (P:=Tryz.prog) ((putRow (fun (b:UInt8)=>Value.int .u8 (b.toNat:Int)) (w.alloc (.cells Lib.zeros24 189)) w.heap.size 0 dk).drewN k) 32 9 5 ⟨w.heap.size,0,none⟩ 24 (Lib.decDigits u) Tryz.underlying32 Tryz.underlying5 Tryz.underlying9 (fun j hj=>by
    rw [Lib.row_is_numeral hF j hj,Lib.add_plain,World.cell?_drewN]
    exact cell?_putRow (fun (b:UInt8)=>Value.int .u8 (b.toNat:Int)) _ w.heap.size 0 _ dk HH0.out (by rw [hF.size,Array.size_replicate]) j (by rw [hF.size];rw [Lib.decDigits_length] at hj;exact hj))
   rw [Lib.decDigits_length] at h
   exact h
  go_wp2
  go_ret
  obtain ⟨os,eo⟩:=Lib.fin_at w (.cells Lib.zeros24 189) dk k 0
  exact ⟨rfl,k,os,eo⟩
set_option maxRecDepth 100000 in
theorem Tryz.fut_out (u:Nat) (hu64:u<18446744073709551616) (w:World) (htab:Lib.TabIs Tryz.prog w "internal/strconv.uint64pow10" .u64 Lib.pow10Tab) :
  Calls Tryz.prog 97 #[.int .u64 u,.int .i64 10] w fun e w'=>e=.returned (.string ⟨(Lib.decDigits u).toArray⟩)∧∃k os,w'=grow (w.drewN k) os:=by
 have efi:∀args w,(callFunc 123 args).run Tryz.prog w=.ok (.enter 123 args) w:=enters_of Tryz.func123 (by kernel_rfl) rfl
 go_enter Tryz.func97,Tryz.ntmps97
 go_wp2_with (go_at_fn 123;refine (Tryz.fut_in u hu64 _ htab).mono ?_;rintro e w' ⟨rfl,k,os,rfl⟩)
 go_ret
 exact ⟨rfl,k,os,rfl⟩
theorem Tryz.joinX:Builder.Extra Tryz.prog Tryz.layJoin_ren:=⟨⟨by kernel_rfl,by kernel_rfl⟩,Tryz.underlying5,Tryz.isAgg5,Tryz.sizeOf5,Tryz.zeroValue5,by kernel_rfl,by kernel_rfl,by kernel_rfl,by decide⟩
end Go.Proofs
namespace Go.Ab
open Go.Proofs Go.RowKit
def e79 (n b:Int):Option Str:=chk (decide (b=10)&&(decide (0≤n)&&decide (n<18446744073709551616))) (some (Lib.decDigits n.toNat))
theorem g08 {n b:Int} {y:Str} (hy:e79 n b=some y):l9 Tryz.prog 97 [.int .u64 n,.int .i64 b] [] (fun r H=>r=.str y∧H=[]):=by
 unfold e79 chk at hy
 cases hc:(decide (b=10)&&(decide (0≤n)&&decide (n<18446744073709551616))) with
 | false=>rw [hc] at hy;cases hy
 | true =>
  rw [hc] at hy
  obtain rfl:=Option.some.inj hy
  simp only [Bool.and_eq_true,decide_eq_true_eq] at hc
  obtain ⟨rfl,h0,h1⟩:=hc
  obtain ⟨u,rfl⟩:=Int.eq_ofNat_of_zero_le h0
  have hu:u<18446744073709551616:=by omega
  refine b2b (by kernel_rfl) fun g w vals hH hl hv=>?_
  rw [f0k hl,(hv 0 _ rfl).int_inv.1,(hv 1 _ rfl).int_inv.1]
  have ht:=(hH.tabs w (fun _ _=>rfl)).1 _ List.mem_cons_self (by kernel_rfl)
  refine (Tryz.fut_out u hu w ht).mono ?_
  rintro en w' ⟨rfl,k,os,rfl⟩
  have hlen:(Lib.decDigits u).length≤20:=by
   rw [Lib.decDigits_length]
   by_cases h:1≤u
   ·have:=Lib.numDigits_eq u h hu;split at this<;>omega
   ·obtain rfl:u=0:=by omega
    exact Nat.le_of_ble_eq_true (by kernel_rfl)
  exact ⟨_,rfl,fun g w'=>b6a _ (Nat.le_trans hlen (by decide)),k,os,rfl⟩
def c7c (xs:List Str) (sep:Str):Option Str:=chk (decide (xs.length≤140737488355328)&&decide ((Lib.join xs sep).length≤140737488355328)) (some (Lib.join xs sep))
theorem g07 {xs:List Str} {sep y:Str} (hy:c7c xs sep=some y):l9 Tryz.prog 98 [.sl (xs.map V.str),.str sep] [] (fun r H=>r=.str y∧H=[]):=by
 unfold c7c chk at hy
 cases hc:(decide (xs.length≤140737488355328)&&decide ((Lib.join xs sep).length≤140737488355328)) with
 | false=>rw [hc] at hy;cases hy
 | true =>
  rw [hc] at hy
  obtain rfl:=Option.some.inj hy
  simp only [Bool.and_eq_true,decide_eq_true_eq] at hc
  obtain ⟨h1,h2⟩:=hc
  refine a2a ⟨.str (Lib.join xs sep),[],[]⟩ (by kernel_rfl) fun g w vals hH hl hv=>?_
  obtain ⟨t,e1,e2,e3⟩:=(hv 1 _ rfl).str_inv
  have hrd:Rd g.S w (vals.getD 0 undef) (.sl (xs.map V.str)):=f2z (hv 0 _ rfl)
  rw [f6d hl,e1]
  generalize vals.getD 0 undef=v0 at hrd
  have fin:∀w':World,Below w.heap.size w w'→∃v g',Ending.returned (.string ⟨(Lib.join xs sep).toArray⟩)=.returned v∧q9 g [] w ⟨.str (Lib.join xs sep),[],[]⟩ g' w'∧a0l [] g g' ⟨[],[]⟩ ⟨.str (Lib.join xs sep),[],[]⟩∧VR g' w' v (.str (Lib.join xs sep)):=fun w' hb =>
   ⟨_,g,rfl,q9.grown _ [] hH.lt hb.os hb.tape hb.output hb.size (fun b h _=>hb.block b h),a0l.none _ _,b6a _ (Nat.le_trans h2 (by decide))⟩
  have none_:∀(a:Option Addr) (c:Nat),xs=[]→Calls Tryz.prog 98 #[.slice a 0 c,.string t] w fun en w'=>∃v g',en=.returned v∧q9 g [] w ⟨.str (Lib.join xs sep),[],[]⟩ g' w'∧a0l [] g g' ⟨[],[]⟩ ⟨.str (Lib.join xs sep),[],[]⟩∧VR g' w' v (.str (Lib.join xs sep)):=by
   rintro a c rfl
   refine (Any.strings_Join_none Tryz.layJoin Tryz.joinX a c t w).mono ?_
   rintro en w' ⟨rfl,rfl⟩
   exact fin w' (Below.refl _ _)
  generalize hvs:xs.map V.str=vs at hrd
  cases hrd with
  | nilsl=>exact none_ none 0 (List.map_eq_nil_iff.1 hvs)
  | slz a c=>exact none_ (some a) c (List.map_eq_nil_iff.1 hvs)
  | sl bb oo len cap k cur e fz _ hS hg hln hm hcp hb hk hr =>
   by_cases hz:xs=[]
   ·have:len=0:=by rw [←hln,←hvs,hz];rfl
    subst this
    exact none_ _ cap hz
   ·have hlen:len=xs.length:=by rw [←hln,←hvs,List.length_map]
    have hk1:k=1:=by
     obtain ⟨x,r,rfl⟩:=List.exists_cons_of_ne_nil hz
     have:=(hk (V.str x) (by rw [←hvs];simp)).1
     simpa [V.cells] using this.symm
    subst hk1
    have hpos:0<xs.length:=List.length_pos_iff.2 hz
    have hid:xs.map ((fun b:ByteArray=>b.data.toList)∘fun s:Str=>(⟨s.toArray⟩:ByteArray))=xs:=by
     simp [Function.comp_def]
    have hj:=Any.strings_Join Tryz.layJoin Tryz.joinX bb oo cap (xs.map fun s=>(⟨s.toArray⟩:ByteArray)) t w (fun j x hx=>by
     rw [List.getElem?_map] at hx
     obtain ⟨s,hs,rfl⟩:=Option.map_eq_some_iff.1 hx
     have hjl:j<xs.length:=(List.getElem?_eq_some_iff.1 hs).1
     have h0:=hr j 0 (V.str s) (V.str s) (by rw [←hvs,List.getElem?_map,hs];rfl) rfl
     obtain ⟨q,q1,q2,_⟩:=(VR.rd (g:=g) h0).str_inv
     have hq:q=⟨s.toArray⟩:=by
      apply ByteArray.ext
      apply Array.toList_inj.1
      rw [q2]
     have hlt:oo+j<cur.size:=by omega
     simp only [Nat.mul_one,Nat.add_zero] at q1
     rw [Array.getD_eq_getD_getElem?,Array.getElem?_eq_getElem hlt,Option.getD_some] at q1
     simp only [World.cell?,hg]
     rw [Array.getElem?_eq_getElem hlt,q1,hq];rfl) (by
      have:=(Array.getElem?_eq_some_iff.1 hg).1
      exact this) (by rw [List.length_map];exact h1) (by rw [List.length_map];omega) (by rw [List.map_map,e2,hid];exact h2)
    rw [List.length_map,List.map_map,e2,hid] at hj
    rw [hlen]
    refine Calls.mono hj ?_
    rintro en w' ⟨rfl,hb'⟩
    exact fin w' hb'
def puE (s:Str) (b n:Int):Option (Int×Bool):=chk (decide (b=10)&&(decide (n=64)&&decide (s.length≤281474976710656))) (some (match Lib.parseUintB 64 s with
 | .ok u=>((u:Int),true)
 | .range=>(18446744073709551615,false)
 | _=>(0,false)))
theorem g5d {s:Str} {b n:Int} {y:Int×Bool} (hy:puE s b n=some y):l9 Tryz.prog 119 [.str s,.int .i64 b,.int .i64 n] [] (fun r H=>r=.tup [.int .u64 y.1,.ifc y.2]∧H=[]):=by
 unfold puE chk at hy
 cases hc:(decide (b=10)&&(decide (n=64)&&decide (s.length≤281474976710656))) with
 | false=>rw [hc] at hy;cases hy
 | true =>
  rw [hc] at hy
  obtain rfl:=Option.some.inj hy
  simp only [Bool.and_eq_true,decide_eq_true_eq] at hc
  obtain ⟨rfl,rfl,hlen⟩:=hc
  generalize hy:(match Lib.parseUintB 64 s with|.ok u=>((u:Int),true)|.range=>(18446744073709551615,false)|_=>(0,false))=y
  refine a2a ⟨.tup [.int .u64 y.1,.ifc y.2],[],[]⟩ (by kernel_rfl) fun g w vals hH hl hv=>?_
  obtain ⟨t,e1,e2,e3⟩:=(hv 0 _ rfl).str_inv
  rw [g2g hl,e1,(hv 1 _ rfl).int_inv.1,(hv 2 _ rfl).int_inv.1]
  have hts:t.data.toList.length=t.size:=Array.length_toList
  have hsz:t.size≤281474976710656:=by rw [←hts,e2];exact hlen
  have fin:∀(w':World) (k:Int) (z:Value),k=y.1→rng .u64 k→VR g w' z (.ifc y.2)→Below w.heap.size w w'→∃v g',Ending.returned (.tuple #[.int .u64 k,z])=.returned v∧q9 g [] w ⟨.tup [.int .u64 y.1,.ifc y.2],[],[]⟩ g' w'∧a0l [] g g' ⟨[],[]⟩ ⟨.tup [.int .u64 y.1,.ifc y.2],[],[]⟩∧VR g' w' v (.tup [.int .u64 y.1,.ifc y.2]):=by
   rintro w' k z rfl hr hz hb
   refine ⟨_,g,rfl,q9.grown _ [] hH.lt hb.os hb.tape hb.output hb.size (fun b h _=>hb.block b h),a0l.none _ _,.tup _ _ rfl fun i x hx=>?_⟩
   match i with
   | 0=>simp at hx;subst hx;exact .rd (.int _ _ (a13.2 hr))
   | 1=>simp at hx;subst hx;exact hz
   | i+2=>simp at hx
  have htab:=(hH.tabs w (fun _ _=>rfl)).2
  cases h:Lib.parseUintB 64 s with
  | ok u =>
   rw [h] at hy;cases hy
   have hu:=Lib.parseUintB_le h
   refine (Any.strconv_ParseUint_10_at64_ok Tryz.layPu t (by omega) u (by rw [e2];exact h) w).mono ?_
   rintro en w' ⟨rfl,hw⟩
   refine fin w' u _ rfl (by simp [rng];omega) (.rd .ifcn) ?_
   rcases hw with rfl|rfl
   ·exact Below.refl _ _
   ·exact Go.Joins.below_bytesWorld _ _ _ _ (Nat.le_refl _)
  | range =>
   rw [h] at hy;cases hy
   obtain ⟨tp,p,hvar⟩:=htab "strconv.ErrRange" (by simp [b9h]) (by kernel_rfl)
   refine (Any.strconv_ParseUint_10_at64_range_var Tryz.layPu t hsz (by rw [e2];exact h) tp p w hvar).mono ?_
   rintro en w' ⟨N,rfl,_,_,hb⟩
   exact fin w' _ _ rfl (by simp [rng]) (.rd (.ifcs _ _)) hb
  | _ =>
   rw [h] at hy;cases hy
   obtain ⟨tp,p,hvar⟩:=htab "strconv.ErrSyntax" (by simp [b9h]) (by kernel_rfl)
   refine (Any.strconv_ParseUint_10_at64_syntax_var Tryz.layPu t hsz (by rw [e2];exact h) tp p w hvar).mono ?_
   rintro en w' ⟨N,rfl,_,_,hb⟩
   exact fin w' 0 _ rfl (by simp [rng]) (.rd (.ifcs _ _)) hb
theorem g06 {n:Int} {y:Str} (hy:c4n n=some y):l9 Tryz.prog 99 [.int .i64 n] [] (fun r H=>r=.str y∧H=[]):=by
 obtain ⟨hn,rfl⟩:=c7d hy
 have hn':-9223372036854775808≤n∧n≤9223372036854775807:=hn
 refine b2b (by kernel_rfl) fun g w vals hH hl hv=>?_
 rw [e2i hl,(hv 0 _ rfl).int_inv.1]
 have ht:=(hH.tabs w (fun _ _=>rfl)).1 _ List.mem_cons_self (by kernel_rfl)
 refine (Tryz.strconv_Itoa n hn'.1 hn'.2 w ht).mono ?_
 rintro en w' ⟨rfl,k,os,rfl⟩
 exact ⟨_,rfl,fun g w'=>b6a _ (Nat.le_trans (Lib.itoa_length_le n hn'.1 hn'.2) (by decide)),k,os,rfl⟩
theorem g5c {s:Str} {y:Int} (hy:d34 s=some y):l9 Tryz.prog 121 [.str s] [] (fun r H=>r=.tup [.int .i64 y,.any]∧H=[]):=by
 obtain ⟨hlen,rfl⟩:=c8p hy
 refine a2a ⟨.tup [.int .i64 (a5s s),.any],[],[]⟩ (by kernel_rfl) fun g w vals hH hl hv=>?_
 obtain ⟨t,e1,e2,e3⟩:=(hv 0 _ rfl).str_inv
 rw [e2i hl,e1]
 have hts:t.data.toList.length=t.size:=Array.length_toList
 have hsz:t.size≤281474976710656:=by rw [←hts,e2];exact hlen
 have hr:=b9m s
 have fin:∀(w':World) (n:Int) (z:Value),n=a5s s→Below w.heap.size w w'→∃v g',Ending.returned (.tuple #[.int .i64 n,z])=.returned v∧q9 g [] w ⟨.tup [.int .i64 (a5s s),.any],[],[]⟩ g' w'∧a0l [] g g' ⟨[],[]⟩ ⟨.tup [.int .i64 (a5s s),.any],[],[]⟩∧VR g' w' v (.tup [.int .i64 (a5s s),.any]):=by
  rintro w' n z rfl hb
  refine ⟨_,g,rfl,q9.grown _ [] hH.lt hb.os hb.tape hb.output hb.size (fun b h _=>hb.block b h),a0l.none _ _,.tup _ _ rfl fun i x hx=>?_⟩
  match i with
  | 0=>simp at hx;subst hx;exact .rd (.int _ _ (a13.2 hr))
  | 1=>simp at hx;subst hx;exact .any _
  | i+2=>simp at hx
 have htab:=(hH.tabs w (fun _ _=>rfl)).2
 cases h:Lib.atoiAll s with
 | ok v =>
  refine (Tryz.strconv_Atoi_ok t (by omega) v (by rw [e2];exact h) w).mono ?_
  rintro en w' ⟨rfl,hw⟩
  refine fin w' v _ (by simp [a5s,h]) ?_
  rcases hw with rfl|⟨u,rfl⟩
  ·exact Below.refl _ _
  ·exact Go.Joins.below_bytesWorld _ _ _ _ (Nat.le_refl _)
 | range =>
  obtain ⟨tp,p,hvar⟩:=htab "strconv.ErrRange" (by simp [b9h]) (by kernel_rfl)
  refine (Tryz.strconv_Atoi_range_var t hsz (by rw [e2];exact h) tp p w hvar).mono ?_
  rintro en w' ⟨N,rfl,_,_,hb⟩
  exact fin w' _ _ (by simp [a5s,h,e2]) hb
 | _ =>
  obtain ⟨tp,p,hvar⟩:=htab "strconv.ErrSyntax" (by simp [b9h]) (by kernel_rfl)
  refine (Tryz.strconv_Atoi_syntax_var t hsz (by rw [e2,h];intro v hv;cases hv) (by rw [e2,h];intro hv;cases hv) tp p w hvar).mono ?_
  rintro en w' ⟨N,rfl,_,_,hb⟩
  exact fin w' 0 _ (by simp [a5s,h]) hb
theorem g5b {s:Str} {y:Int×Bool} (hy:c5a s=some y):l9 Tryz.prog 121 [.str s] [] (fun r H=>r=.tup [.int .i64 y.1,.ifc y.2]∧H=[]):=by
 obtain ⟨hlen,rfl⟩:=c8q hy
 refine a2a ⟨.tup [.int .i64 (a5s s),.ifc (b63 s)],[],[]⟩ (by kernel_rfl) fun g w vals hH hl hv=>?_
 obtain ⟨t,e1,e2,e3⟩:=(hv 0 _ rfl).str_inv
 rw [e2i hl,e1]
 have hts:t.data.toList.length=t.size:=Array.length_toList
 have hsz:t.size≤281474976710656:=by rw [←hts,e2];exact hlen
 have hr:=b9m s
 have fin:∀(w':World) (n:Int) (z:Value),n=a5s s→VR g w' z (.ifc (b63 s))→Below w.heap.size w w'→∃v g',Ending.returned (.tuple #[.int .i64 n,z])=.returned v∧q9 g [] w ⟨.tup [.int .i64 (a5s s),.ifc (b63 s)],[],[]⟩ g' w'∧a0l [] g g' ⟨[],[]⟩ ⟨.tup [.int .i64 (a5s s),.ifc (b63 s)],[],[]⟩∧VR g' w' v (.tup [.int .i64 (a5s s),.ifc (b63 s)]):=by
  rintro w' n z rfl hz hb
  refine ⟨_,g,rfl,q9.grown _ [] hH.lt hb.os hb.tape hb.output hb.size (fun b h _=>hb.block b h),a0l.none _ _,.tup _ _ rfl fun i x hx=>?_⟩
  match i with
  | 0=>simp at hx;subst hx;exact .rd (.int _ _ (a13.2 hr))
  | 1=>simp at hx;subst hx;exact hz
  | i+2=>simp at hx
 have htab:=(hH.tabs w (fun _ _=>rfl)).2
 cases h:Lib.atoiAll s with
 | ok v =>
  refine (Tryz.strconv_Atoi_ok t (by omega) v (by rw [e2];exact h) w).mono ?_
  rintro en w' ⟨rfl,hw⟩
  refine fin w' v _ (by simp [a5s,h]) (by simp only [b63,h];exact .rd .ifcn) ?_
  rcases hw with rfl|⟨u,rfl⟩
  ·exact Below.refl _ _
  ·exact Go.Joins.below_bytesWorld _ _ _ _ (Nat.le_refl _)
 | range =>
  obtain ⟨tp,p,hvar⟩:=htab "strconv.ErrRange" (by simp [b9h]) (by kernel_rfl)
  refine (Tryz.strconv_Atoi_range_var t hsz (by rw [e2];exact h) tp p w hvar).mono ?_
  rintro en w' ⟨N,rfl,_,_,hb⟩
  exact fin w' _ _ (by simp [a5s,h,e2]) (by simp only [b63,h];exact .rd (.ifcs _ _)) hb
 | _ =>
  obtain ⟨tp,p,hvar⟩:=htab "strconv.ErrSyntax" (by simp [b9h]) (by kernel_rfl)
  refine (Tryz.strconv_Atoi_syntax_var t hsz (by rw [e2,h];intro v hv;cases hv) (by rw [e2,h];intro hv;cases hv) tp p w hvar).mono ?_
  rintro en w' ⟨N,rfl,_,_,hb⟩
  exact fin w' 0 _ (by simp [a5s,h]) (by simp only [b63,h];exact .rd (.ifcs _ _)) hb
set_option maxRecDepth 20000
theorem e0b (b:Nat) (w:World) (h0:w.cell? ⟨b,0,none⟩=some (.pointer (some ⟨b,0,none⟩))) :
  Calls Tryz.prog 96 #[.pointer (some ⟨b,0,none⟩)] w fun e w'=>e=.returned (.tuple #[])∧w'=w:=by
 obtain ⟨j,hj,hjs⟩:=Option.map_eq_some_iff.1 (show (Tryz.prog.info? 116).map (·.size)=some 2 by kernel_rfl)
 go_enter Tryz.func96,Tryz.ntmps96
 go_wp2
 rw [Lib.run_neq_ptr_same w _ Tryz.underlying114 hj]
 go_wp2
 go_end0
 exact ⟨rfl,rfl⟩
theorem d2z (b:Nat) (w:World) (h0:w.cell? ⟨b,0,none⟩=some (.pointer none)) (hsh:w.shape? b=some (116,2)) (hfz:w.frozen? ⟨b,0,none⟩=false) :
  Calls Tryz.prog 96 #[.pointer (some ⟨b,0,none⟩)] w fun e w'=>e=.returned (.tuple #[])∧w'=w.setCell ⟨b,0,none⟩ (.pointer (some ⟨b,0,none⟩)):=by
 obtain ⟨j,hj,hjs⟩:=Option.map_eq_some_iff.1 (show (Tryz.prog.info? 116).map (·.size)=some 2 by kernel_rfl)
 go_enter Tryz.func96,Tryz.ntmps96
 go_wp2
 rw [Lib.run_to_unsafe w ⟨b,0,none⟩ Tryz.underlying114 Tryz.underlying169 hj (by rw [hjs];decide) hsh (Nat.zero_lt_succ 1)]
 simp only [Result.andThen]
 rw [Oper.upon_value]
 go_wp2
 rw [run_callFunc_extern Tryz.func122 (by kernel_rfl) (by kernel_rfl) (by kernel_rfl) (e:=Extern.AbiNoEscape.same) (by kernel_rfl)]
 rw [Lib.run_noEscape]
 simp only [Result.andThen]
 rw [Oper.upon_value]
 go_wp2
 rw [Lib.run_from_unsafe w ⟨b,0,none⟩ Tryz.underlying169 Tryz.underlying114 hj hsh (by kernel_rfl)]
 simp only [Result.andThen]
 rw [Oper.upon_value]
 go_wp2
 go_end0
 exact ⟨rfl,rfl⟩
theorem c1h (x:V):l9 Tryz.prog 96 [.ptr 1000 0] [(1000,.cells [.bptr 1000,x] (some 116))]
  (fun r H=>r=.tup []∧H=[(1000,.cells [.bptr 1000,x] (some 116))]):=by
 refine a2a ⟨.tup [],[],[(1000,.cells [.bptr 1000,x] (some 116))]⟩ (by kernel_rfl) fun g w vals hH hl hv=>?_
 rw [e2i hl]
 have h0:=(hv 0 _ rfl).ptr_inv
 rw [h0]
 obtain ⟨hn,cur,e,fz,h1,h2,⟨h3,h4⟩,h5⟩:=hH.obj 1000 _ rfl
 have h4:e=116:=by simpa [b88,d3u] using h4
 subst h4
 simp only [List.length_cons,List.length_nil,Nat.zero_add,Nat.reduceAdd] at h2
 have hc0:w.cell? ⟨g.ρ 1000,0,none⟩=some (cur.getD 0 undef):=by
  simp [World.cell?,h1,Array.getD_eq_getD_getElem?,h2]
 have hp0:=h5 0 _ rfl
 rcases hp0.bptr_inv with hv0|hv0
 ·rw [hv0] at hc0
  refine (d2z (g.ρ 1000) w hc0 (by simp [World.shape?,h1,h2]) ?_).mono ?_
  ·have:=h3.at (i:=0) (by omega)
   simp only [World.frozen?,h1]
   exact this
  rintro en w' ⟨rfl,rfl⟩
  have hlt:g.ρ 1000<w.heap.size:=(Array.getElem?_eq_some_iff.1 h1).1
  have hother:∀b,b≠g.ρ 1000→(w.setCell ⟨g.ρ 1000,0,none⟩ (.pointer (some ⟨g.ρ 1000,0,none⟩))).heap[b]?=w.heap[b]?:=by
   intro b hb
   simp only [World.setCell,Array.getElem?_modify]
   rw [if_neg fun e=>hb e.symm]
  have hkeep:a1l g.S w (w.setCell ⟨g.ρ 1000,0,none⟩ (.pointer (some ⟨g.ρ 1000,0,none⟩))):=a1l.upd hH (n:=1000) rfl hn hother
  refine ⟨_,g,rfl,q9.upd _ 1000 _ _ hH rfl hn rfl rfl rfl (by simp [World.setCell]) hother ?_,a0l.upd _,.tup _ _ rfl fun i x hx=>by simp at hx⟩
  refine ⟨hn,cur.setIfInBounds 0 (.pointer (some ⟨g.ρ 1000,0,none⟩)),_,fz,?_,by simp [h2],⟨by simpa using h3,rfl⟩,fun i c hc=>?_⟩
  ·simp [World.setCell,Array.getElem?_modify,h1]
  ·match i with
   | 0=>simp at hc;subst hc;simp [Array.getD_eq_getD_getElem?,h2];exact .bself 1000
   | 1 =>
    simp at hc;subst hc
    have:=(h5 1 x rfl).mono (g':=g) hkeep (fun _ h=>h) fun id _=>Gh.agree.refl _ _
    have e1:(cur.setIfInBounds 0 (.pointer (some ⟨g.ρ 1000,0,none⟩))).getD 1 undef=cur.getD 1 undef:=by
     simp [Array.getD_eq_getD_getElem?,Array.getElem?_setIfInBounds]
    rw [e1];exact this
   | i+2=>simp at hc
 ·rw [hv0] at hc0
  refine (e0b (g.ρ 1000) w hc0).mono ?_
  rintro en w' ⟨rfl,rfl⟩
  refine ⟨_,g,rfl,q9.upd _ 1000 _ _ hH rfl hn rfl rfl rfl rfl (fun _ _=>rfl) (hH.obj 1000 _ rfl),a0l.upd _,.tup _ _ rfl fun i x hx=>by simp at hx⟩
def a1q:MC :=
 (.seq (.reg [⟨.mv (.c (.int .i64 0)),(some 4),none⟩,
 ⟨.mv (.c .nili),(some 5),none⟩])
 (.seq (.reg [⟨.mv (.t 0),(some 6),none⟩,
 ⟨.call (.f 96) [(.t 6)] [1000] [],(some 7),none⟩])
 (.seq (.reg [⟨.mv (.t 0),(some 8),none⟩,
 ⟨.mv (.t 0),(some 9),none⟩,
 ⟨.nck (.t 9),(some 10),none⟩,
 ⟨.fad 1 (.t 10),(some 11),none⟩,
 ⟨.ld none (.t 11),(some 12),none⟩,
 ⟨.mv (.t 1),(some 13),none⟩,
 ⟨.app 1 1 (.t 12) (.t 13) (some 5),(some 14),none⟩,
 ⟨.nck (.t 8),(some 15),none⟩,
 ⟨.fad 1 (.t 15),(some 16),none⟩,
 ⟨.st 1 (.t 16) (.t 14),none,none⟩])
 (.seq (.note (.ren 14 1002) (.reg [⟨.mv (.t 1),(some 17),none⟩,
 ⟨.len true (.t 17),(some 18),none⟩,
 ⟨.mv (.t 18),(some 4),none⟩,
 ⟨.mv (.c .nili),(some 5),none⟩]))
 .ret))))
theorem a4g:a1q.ok Tryz.prog Tryz.f62.ntmps (Tryz.f62.body.getD .skip)=true:=by kernel_rfl
theorem b7w {bs s:List UInt8} (hlen:bs.length+s.length≤140737488355328):l9 Tryz.prog 62 [.ptr 1000 0,.str s]
  [(1000,.cells [.bptr 1000,.osl 1001 1 0 bs.length] (some 116)),(1001,.arr 1 (bs.map a0a) (some 5))]
  (fun r H=>r=.tup [.int .i64 s.length,.nili]∧H=[(1000,.cells [.bptr 1000,.osl 1002 1 0 (bs.length+s.length)] (some 116)),(1002,.arr 1 ((bs++s).map a0a) (some 5))]):=by
 refine c5d [1000,1002] [.t 4,.t 5] Tryz.func62 rfl (by kernel_rfl) (by kernel_rfl) a4g (by kernel_rfl) rfl rfl fun M hf=>?_
 unfold a1q
 simp only [go_sem,Nat.reduceBEq,Nat.reduceAdd,Nat.reduceLeDiff,Nat.reduceSub]
 refine c1t (c1h _) rfl rfl ?_
 rw [M.lok_eq]
 simp only [go_sem,Nat.reduceBEq,Nat.reduceAdd,Nat.reduceLeDiff,Nat.reduceSub]
 exact ⟨by omega,by omega⟩
theorem e0g (b g o cap:Nat) (p:Value) (cur:Array Value) (fz:Nat×Nat) (l:List UInt8) (w:World) (T:TypeId) (fb:Nat×Nat) (hbk:w.heap[b]?=some (.cells #[p,.slice (some ⟨g,o,none⟩) l.length cap] T fb)) (hg:w.heap[g]?=some (.cells cur 5 fz)) (h0:l≠[])
  (hcap:l.length≤cap) (hn:o+l.length≤cur.size) (h63:l.length≤9223372036854775807) (hcell:∀j x,l[j]?=some x→w.cell? ((⟨g,o,none⟩:Addr).add j)=some (.int .u8 x.toNat)) :
  Calls Tryz.prog 64 #[.pointer (some ⟨b,0,none⟩)] w fun e w'=>e=.returned (.string ⟨l.toArray⟩)∧w'=w.drew.freeze ⟨g,o,none⟩ l.length:=by
 have hl0:l.length≠0:=by simpa using h0
 have c1:w.drew.cell? ⟨b,1,none⟩=some (.slice (some ⟨g,o,none⟩) l.length cap):=by
  have:w.drew.heap[b]?=some (.cells #[p,.slice (some ⟨g,o,none⟩) l.length cap] T fb):=hbk
  simp [World.cell?,this]
 have hSD:(Builtin.unsafeSliceData_ #[32] 147 #[.slice (some ⟨g,o,none⟩) l.length cap]).run Tryz.prog w.drew=.ok (.pointer (some ⟨g,o,none⟩)) w.drew :=
  Lib.run_unsafeSliceData_row _ _ _ _ _ _ (by omega)
 have hUS:(Builtin.unsafeString_ #[147,3] 9 #[.pointer (some ⟨g,o,none⟩),.int .i64 l.length]).run Tryz.prog w.drew=.ok (.string ⟨l.toArray⟩) (w.drew.freeze ⟨g,o,none⟩ l.length):=by
  refine a97 w.drew 147 3 9 5 Tryz.underlying147 (by kernel_rfl) g o cur.size (by have hg':w.drew.heap[g]?=some (.cells cur 5 fz):=hg;simp [World.shape?,hg']) l h0 hn h63 hcell
 clear hcell hn h63 h0
 have mixed:Tryz.prog.follows .mixedOrders=true:=by kernel_rfl
 go_enter Tryz.func64,Tryz.ntmps64
 go_wp2
 go_region_o
 all_goals (go_wp2;go_ret;exact ⟨rfl,rfl⟩)
theorem e8p (b:Nat) (p:Value) (w:World) (T:TypeId) (fb:Nat×Nat) (hbk:w.heap[b]?=some (.cells #[p,.slice none 0 0] T fb)) :
  Calls Tryz.prog 64 #[.pointer (some ⟨b,0,none⟩)] w fun e w'=>e=.returned (.string ⟨#[]⟩)∧w'=w.drew:=by
 have hUS:∀(W:World) (q:Option Addr),(Builtin.unsafeString_ #[147,3] 9 #[.pointer q,.int .i64 0]).run Tryz.prog W=.ok (.string .empty) W:=fun W q=>Lib.run_unsafeString_none W _ _ _ q
 have c1:w.drew.cell? ⟨b,1,none⟩=some (.slice none 0 0):=by
  have:w.drew.heap[b]?=some (.cells #[p,.slice none 0 0] T fb):=hbk
  simp [World.cell?,this]
 have hSD:(Builtin.unsafeSliceData_ #[32] 147 #[.slice none 0 0]).run Tryz.prog w.drew=.ok (.pointer none) w.drew:=rfl
 have mixed:Tryz.prog.follows .mixedOrders=true:=by kernel_rfl
 go_enter Tryz.func64,Tryz.ntmps64
 go_wp2
 go_region_o
 all_goals (go_wp2;go_ret;exact ⟨rfl,rfl⟩)
theorem e0h (b g o cap:Nat) (p:Value) (w:World) (T:TypeId) (fb:Nat×Nat) (hc0:cap≠0) (hbk:w.heap[b]?=some (.cells #[p,.slice (some ⟨g,o,none⟩) 0 cap] T fb)) :
  Calls Tryz.prog 64 #[.pointer (some ⟨b,0,none⟩)] w fun e w'=>e=.returned (.string ⟨#[]⟩)∧w'=w.drew:=by
 have hUS:∀(W:World) (q:Option Addr),(Builtin.unsafeString_ #[147,3] 9 #[.pointer q,.int .i64 0]).run Tryz.prog W=.ok (.string .empty) W:=fun W q=>Lib.run_unsafeString_none W _ _ _ q
 have c1:w.drew.cell? ⟨b,1,none⟩=some (.slice (some ⟨g,o,none⟩) 0 cap):=by
  have:w.drew.heap[b]?=some (.cells #[p,.slice (some ⟨g,o,none⟩) 0 cap] T fb):=hbk
  simp [World.cell?,this]
 have hSD:(Builtin.unsafeSliceData_ #[32] 147 #[.slice (some ⟨g,o,none⟩) 0 cap]).run Tryz.prog w.drew=.ok (.pointer (some ⟨g,o,none⟩)) w.drew :=
  Lib.run_unsafeSliceData_row _ _ _ _ _ _ hc0
 clear hc0
 have mixed:Tryz.prog.follows .mixedOrders=true:=by kernel_rfl
 go_enter Tryz.func64,Tryz.ntmps64
 go_wp2
 go_region_o
 all_goals (go_wp2;go_ret;exact ⟨rfl,rfl⟩)
theorem c8m (b g o:Nat) (p:Value) (w:World) (T:TypeId) (fb fz:Nat×Nat) (cur:Array Value) (e:TypeId) (hg:w.heap[g]?=some (.cells cur e fz)) (hbk:w.heap[b]?=some (.cells #[p,.slice (some ⟨g,o,none⟩) 0 0] T fb)) :
  Calls Tryz.prog 64 #[.pointer (some ⟨b,0,none⟩)] w fun e w'=>e=.returned (.string ⟨#[]⟩)∧w'=w.drew.alloc (.view ⟨g,o,none⟩ 5):=by
 have hUS:∀(W:World) (q:Option Addr),(Builtin.unsafeString_ #[147,3] 9 #[.pointer q,.int .i64 0]).run Tryz.prog W=.ok (.string .empty) W:=fun W q=>Lib.run_unsafeString_none W _ _ _ q
 have hlt:b<w.heap.size:=(Array.getElem?_eq_some_iff.1 hbk).1
 have c1:w.drew.cell? ⟨b,1,none⟩=some (.slice (some ⟨g,o,none⟩) 0 0):=by
  have:w.drew.heap[b]?=some (.cells #[p,.slice (some ⟨g,o,none⟩) 0 0] T fb):=hbk
  simp [World.cell?,this]
 have hSD:(Builtin.unsafeSliceData_ #[32] 147 #[.slice (some ⟨g,o,none⟩) 0 0]).run Tryz.prog w.drew=.ok (.pointer (some ⟨w.drew.heap.size,0,none⟩)) (w.drew.alloc (.view ⟨g,o,none⟩ 5)) :=
  Lib.run_unsafeSliceData_zero w.drew _ _ 5 Tryz.underlying147 ⟨g,o,none⟩ 0 (e,cur.size) (by have hg':w.drew.heap[g]?=some (.cells cur e fz):=hg;simp [World.shape?,hg'])
 have c2:(w.drew.alloc (.view ⟨g,o,none⟩ 5)).cell? ⟨b,1,none⟩=some (.slice (some ⟨g,o,none⟩) 0 0):=by
  have:(w.drew.alloc (.view ⟨g,o,none⟩ 5)).heap[b]?=some (.cells #[p,.slice (some ⟨g,o,none⟩) 0 0] T fb):=by
   simp only [World.alloc,World.drew]
   rw [Array.getElem?_push,if_neg (by omega)];exact hbk
  simp [World.cell?,this]
 have c0:w.cell? ⟨b,1,none⟩=some (.slice (some ⟨g,o,none⟩) 0 0):=by simp [World.cell?,hbk]
 clear hbk hg
 have mixed:Tryz.prog.follows .mixedOrders=true:=by kernel_rfl
 go_enter Tryz.func64,Tryz.ntmps64
 go_wp2
 go_region_o
 all_goals (go_wp2;go_ret;exact ⟨rfl,rfl⟩)
theorem d31 {p:V} {bs:List UInt8}:l9 Tryz.prog 64 [.ptr 1000 0]
  [(1000,.cells [p,.osl 1001 1 0 bs.length] (some 116)),(1001,.arr 1 (bs.map a0a) (some 5))] (fun r H=>r=.str bs∧H=[]):=by
 refine a2a ⟨.str bs,[1000,1001],[]⟩ (by kernel_rfl) fun g w vals hH hl hv=>?_
 rw [e2i hl,(hv 0 _ rfl).ptr_inv]
 obtain ⟨hn,cur,e,fz,h1,h2,⟨h3,h4⟩,h5⟩:=hH.obj 1000 _ rfl
 simp only [List.length_cons,List.length_nil,Nat.zero_add,Nat.reduceAdd] at h2
 have hcur:cur=#[cur.getD 0 undef,cur.getD 1 undef]:=f0k h2
 have hv1:=h5 1 _ rfl
 rw [hcur] at h1
 have hrow:=hH.obj 1001 _ rfl
 have hlen:∀rb:Nat,rb=rb→True:=fun _ _=>trivial
 have fin:∀(en:Ending) (w':World),(en=.returned (.string ⟨bs.toArray⟩)∧(w'=w.drew∨(∃a t,w'=w.drew.alloc (.view a t))∨∃o n,¬g.nil 1001∧w'=w.drew.freeze ⟨g.ρ 1001,o,none⟩ n))→bs.length≤9223372036854775807 →
   ∃v g',en=.returned v∧q9 g [(1000,.cells [p,.osl 1001 1 0 bs.length] (some 116)),(1001,.arr 1 (bs.map a0a) (some 5))] w ⟨.str bs,[1000,1001],[]⟩ g' w' ∧
    a0l [(1000,.cells [p,.osl 1001 1 0 bs.length] (some 116)),(1001,.arr 1 (bs.map a0a) (some 5))] g g' ⟨[],[(1000,.cells [p,.osl 1001 1 0 bs.length] (some 116)),(1001,.arr 1 (bs.map a0a) (some 5))]⟩ ⟨.str bs,[1000,1001],[]⟩∧VR g' w' v (.str bs):=by
  rintro en w' ⟨rfl,hw⟩ hb
  refine ⟨_,g,rfl,?_,a0l.none _ _,b6a bs hb⟩
  rcases hw with rfl|⟨a,t,rfl⟩|⟨o,n,hnn,rfl⟩
  ·exact q9.grown _ _ hH.lt rfl rfl rfl (Nat.le_refl _) fun _ _ _=>rfl
  ·refine q9.grown _ _ hH.lt rfl rfl rfl (by show w.heap.size≤(w.heap.push _).size;simp) fun b hb _=>?_
   simp only [World.alloc,World.drew]
   rw [Array.getElem?_push,if_neg (by omega)]
  ·unfold World.freeze
   split
   ·exact q9.grown _ _ hH.lt rfl rfl rfl (Nat.le_refl _) fun _ _ _=>rfl
   ·refine q9.grown _ _ hH.lt rfl rfl rfl (by show w.heap.size≤(w.heap.modify _ _).size;simp) fun b hb hne=>?_
    have:=hne 1001 _ (by simp) rfl hnn
    simp only [World.drew,Array.getElem?_modify]
    rw [if_neg this]
 rcases hv1.osl_inv with ⟨hnil,ev,hn0⟩|⟨hnn,o',cc,ev,ho',hcap,hlc,hm⟩
 ·rw [ev] at h1
  have hb0:bs=[]:=List.eq_nil_of_length_eq_zero hn0
  subst hb0
  exact (e8p (g.ρ 1000) _ w e fz h1).mono fun en w' ⟨h6,h7⟩=>fin en w' ⟨h6,.inl h7⟩ (by simp)
 ·rcases hrow with ⟨hnil,_⟩|⟨_,hp,⟨rc,re,rf,k1,k2,⟨k3,k4⟩,k5⟩,k6,k7,k8⟩
  ·exact absurd hnil hnn
  have k4:re=5:=by simpa [b88,d3u] using k4
  subst k4
  rw [ev] at h1
  by_cases hb0:bs=[]
  ·subst hb0
   by_cases hc0:cc=0
   ·subst hc0
    exact (c8m (g.ρ 1000) (g.ρ 1001) o' _ w e fz rf rc _ k1 h1).mono fun en w' ⟨h6,h7⟩=>fin en w' ⟨h6,.inr (.inl ⟨_,_,h7⟩)⟩ (by simp)
   ·exact (e0h (g.ρ 1000) (g.ρ 1001) o' cc _ w e fz hc0 h1).mono fun en w' ⟨h6,h7⟩=>fin en w' ⟨h6,.inl h7⟩ (by simp)
  ·have hbl:bs.length≠0:=by simpa using hb0
   have ho:o'=g.base 1001:=by
    rcases ho' with h|h
    ·omega
    ·simpa using h
   have h63:bs.length≤9223372036854775807:=a4h (by omega)
   refine (e0g (g.ρ 1000) (g.ρ 1001) o' cc _ rc rf bs w e fz h1 k1 hb0 hlc (by simp at k6;rw [k2,ho];omega) h63 ?_).mono fun en w' ⟨h6,h7⟩=>fin en w' ⟨h6,.inr (.inr ⟨_,_,hnn,h7⟩)⟩ h63
   intro j x hx
   have hrd:=k5 j 0 (a0a x) (a0a x) (by simp [hx]) rfl
   simp only [Nat.mul_one,Nat.add_zero] at hrd
   have hlt:g.base 1001+j<rc.size:=by
    have:=(List.getElem?_eq_some_iff.1 hx).1
    simp at k6;rw [k2];omega
   have hc:rc[g.base 1001+j]?=some (.int .u8 x.toNat):=by
    have h8:rc.getD (g.base 1001+j) undef=.int .u8 x.toNat:=by
     generalize rc.getD (g.base 1001+j) undef=u at hrd
     cases hrd;rfl
    rw [←h8];simp [Array.getD_eq_getD_getElem?,hlt]
   rw [Addr.add_lit]
   simp only [World.cell?,k1,ho,hc]
   rfl
theorem g05 {bs s y:Str} (hy:bws bs s=some y):l9 Tryz.prog 62 [.ptr 1000 0,.str s] [(1000,.cells [.bptr 1000,.osl 1001 1 0 bs.length] (some 116)),(1001,.arr 1 (bs.map a0a) (some 5))]
  (fun r H=>r=.tup [.int .i64 s.length,.nili]∧H=[(1000,.cells [.bptr 1000,.osl 1002 1 0 y.length] (some 116)),(1002,.arr 1 (y.map a0a) (some 5))]):=by
 obtain ⟨h,rfl⟩:=e0f hy
 rw [List.length_append]
 exact b7w h
theorem g5a {bs y:Str} (hy:f5x bs=some y):l9 Tryz.prog 64 [.ptr 1000 0] [(1000,.cells [.bptr 1000,.osl 1001 1 0 bs.length] (some 116)),(1001,.arr 1 (bs.map a0a) (some 5))] (fun r H=>r=.str y∧H=[]):=by
 cases hy
 exact d31
theorem g59 {s c y:Str} (hy:b8a s c=some y):l9 Tryz.prog 141 [.str s,.str c] [] (fun r H=>r=.str y∧H=[]):=by
 obtain ⟨hc,rfl⟩:=c3i hy
 refine a2a ⟨.str (s.dropWhile (c.contains ·)),[],[]⟩ (by kernel_rfl) fun g w vals hH hl hv=>?_
 obtain ⟨t,e1,e2,e3⟩:=(hv 0 _ rfl).str_inv
 obtain ⟨u,f1,f2,f3⟩:=(hv 1 _ rfl).str_inv
 rw [f0k hl,e1,f1]
 simp only [f0j,Bool.and_eq_true,List.all_eq_true,decide_eq_true_eq] at hc
 have hus:u.data.toList.length=u.size:=Array.length_toList
 refine (Any.strings_TrimLeft_laid Tryz.layTrl (by kernel_rfl) t u w (by rw [←hus,f2];omega) (fun j b hb=>hc.1 b (by rw [f2] at hb;exact List.mem_of_getElem? hb))).mono ?_
 rintro en w' ⟨rfl,hb⟩
 rw [e2,f2]
 have hlen:(s.dropWhile (c.contains ·)).length≤9223372036854775807:=by
  have h1:=b3b (c.contains ·) s
  have hts:t.data.toList.length=t.size:=Array.length_toList
  have h2:=a4h e3
  rw [e2] at hts
  omega
 exact ⟨_,g,rfl,q9.grown _ [] hH.lt hb.os hb.tape hb.output hb.size (fun b h _=>hb.block b h),a0l.none _ _,b6a _ hlen⟩
instance g04 {n b:Int}:WI (e79 n b) Tryz.prog 97 [.int .u64 n,.int .i64 b] [] (fun y=>.str y) (fun y=>[]):=⟨fun Q Q' h hQ=>by obtain ⟨y,hy,hq⟩:=h;exact (g08 hy).mono fun r H' e=>by rw [e.1,e.2];exact hQ y hq⟩
instance f6y {xs:List Str} {sep:Str}:WI (c7c xs sep) Tryz.prog 98 [.sl (xs.map V.str),.str sep] [] (fun y=>.str y) (fun y=>[]):=⟨fun Q Q' h hQ=>by obtain ⟨y,hy,hq⟩:=h;exact (g07 hy).mono fun r H' e=>by rw [e.1,e.2];exact hQ y hq⟩
instance g03 {s:Str} {b n:Int}:WI (puE s b n) Tryz.prog 119 [.str s,.int .i64 b,.int .i64 n] [] (fun y=>.tup [.int .u64 y.1,.ifc y.2]) (fun y=>[]):=⟨fun Q Q' h hQ=>by obtain ⟨y,hy,hq⟩:=h;exact (g5d hy).mono fun r H' e=>by rw [e.1,e.2];exact hQ y hq⟩
instance f6z {n:Int}:WI (c4n n) Tryz.prog 99 [.int .i64 n] [] (fun y=>.str y) (fun y=>[]):=⟨fun Q Q' h hQ=>by obtain ⟨y,hy,hq⟩:=h;exact (g06 hy).mono fun r H' e=>by rw [e.1,e.2];exact hQ y hq⟩
instance f7a {s:Str}:WI (d34 s) Tryz.prog 121 [.str s] [] (fun y=>.tup [.int .i64 y,.any]) (fun y=>[]):=⟨fun Q Q' h hQ=>by obtain ⟨y,hy,hq⟩:=h;exact (g5c hy).mono fun r H' e=>by rw [e.1,e.2];exact hQ y hq⟩
instance f0q {s:Str}:WI (c5a s) Tryz.prog 121 [.str s] [] (fun y=>.tup [.int .i64 y.1,.ifc y.2]) (fun y=>[]):=⟨fun Q Q' h hQ=>by obtain ⟨y,hy,hq⟩:=h;exact (g5b hy).mono fun r H' e=>by rw [e.1,e.2];exact hQ y hq⟩
instance f0p {s c:Str}:WI (b8a s c) Tryz.prog 141 [.str s,.str c] [] (fun y=>.str y) (fun y=>[]):=⟨fun Q Q' h hQ=>by obtain ⟨y,hy,hq⟩:=h;exact (g59 hy).mono fun r H' e=>by rw [e.1,e.2];exact hQ y hq⟩
end Go.Ab