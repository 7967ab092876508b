/- What the functions of this seat that lie on the laws' road compute (part SL), each for every input. By AI agents. -/
import Derived.Test.YtbmjlaknnpmgpaaGreatDoorProg
import Derived.KernelRfl
import Derived.Test.YtbmjlaknnpmgpaaGreatDoorAbMach
import Derived.Shelf.Strings.Builder1
import Derived.Shelf.Strings.Builder2
import Derived.Shelf.Strings.OnBuilder
import Derived.Shelf.Small.Bits
import Derived.Shelf.Small.Wraps
import Derived.Shelf.Strings.BuilderF
import Derived.Shelf.Strings.BuilderK
import Derived.Shelf.Strings.Builder2Cap
import Derived.Shelf.Strconv.Atoi
import Derived.Shelf.Strconv.Itoa0
import Derived.Shelf.Strconv.Itoa1
import Derived.Shelf.LaysM
import Derived.Shelf.Strconv.Itoa2
import Derived.Shelf.Strconv.Itoa3
import Derived.Shelf.Strconv.AtoiErrFast
import Derived.Shelf.Strconv.ParseIntEmpty
import Derived.Shelf.Strconv.AtoiFail
import Derived.Shelf.Strconv.Clone
import Derived.Shelf.Strconv.SyntaxError
import Derived.Shelf.LaysC
import Derived.Shelf.Strconv.ToError
import Derived.Shelf.Strconv.Lower
import Derived.Shelf.Strconv.ParseUint10
import Derived.Shelf.Strconv.ParseUint10Empty
import Derived.Shelf.Strconv.ParseUint10Any
import Derived.Shelf.Strconv.ParseInt10
import Derived.Shelf.Strconv.AtoiLong
import Derived.Shelf.Strconv.AtoiInnerAll
import Derived.Shelf.Strconv.RangeError
import Derived.Shelf.Strconv.ToErrorRange
import Derived.Shelf.Strconv.AtoiAll
import Derived.Shelf.Strconv.ErrVarAll
import Derived.Shelf.Strconv.ParseUintEmpty
import Derived.Shelf.Strconv.ParseUint10b64
import Derived.Shelf.Strconv.ParseUint10b32
import Derived.Shelf.Strconv.ParseUint10b16
import Derived.Shelf.Strconv.ParseUint10b8
import Derived.Shelf.Strconv.ParseUint10At
import Derived.Ground.MpProg
import Derived.Shelf.Pu.ParseUintPublic10
import Derived.Shelf.Pu.ErrVarParseUint
import Derived.Shelf.Strings.Search1
import Derived.Shelf.Strings.Search2
import Derived.Shelf.Strings.Search3
import Derived.Shelf.Strings.Count
import Derived.Shelf.Strings.Shaped
import Derived.Shelf.Sort.Plain
import Derived.Shelf.Strings.Split
import Derived.Shelf.Unicode.Decode
import Derived.Shelf.Strings.RuneCount
import Derived.Shelf.Strings.Explode
import Derived.Shelf.Unicode.DecodeSlow
import Derived.Shelf.Strings.BuilderCap
import Derived.Shelf.Slices.Turned
import Derived.Ground.Names2Prog
import Derived.Shelf.Slices.CompactI
import Derived.Shelf.Slices.SearchI
import Derived.Shelf.Slices.Cells
import Derived.Shelf.Slices.In.SortNone
import Derived.Ground.SlgnProg
import Derived.Shelf.SlicesE.Compact
import Derived.Ground.SlgfProg
import Derived.Shelf.SlicesE.IndexFunc
import Derived.Shelf.Pu.Lays
import Derived.Ground.NamesProg
import Derived.Deep.LoopGhost
import Derived.Lib.ParseIntBCases
import Derived.LaidLaws
import Derived.Lib.AppendIntMem
import Derived.WalkKit
import Derived.BigCall
import Derived.BigGuard
set_option linter.all false
set_option maxRecDepth 100000
namespace Go.Proofs
open Go.Shelf
def Tryz.lays283_ren:Go.Shelf.Ren:=⟨fun|283=>130|n=>n,fun|3=>3|9=>9|4=>4|n=>n,fun|n=>n⟩
theorem Tryz.lays283:Go.Proofs.Lays.n283 Tryz.prog Tryz.lays283_ren:=by repeat' (first|kernel_rfl|(intro w;kernel_rfl)|(intro w;rfl)|constructor)
open Go.Lib in
theorem Tryz.internal_strconv_small (i:Nat) (h:i<100) (w:World) :
  Calls Tryz.prog 130 #[.int .i64 i] w fun e w'=>e=.returned (.string ⟨(Lib.decDigits i).toArray⟩)∧w'=w:=Any.internal_strconv_small Tryz.lays283 i h w
def Tryz.laysM284_ren:Go.Shelf.Ren:=⟨fun|284=>131|129=>185|317=>184|318=>186|n=>n,fun|53=>23|3=>3|212=>254|0=>0|4=>4|46=>222|5=>5|9=>9|n=>n,fun|17=>0|n=>n⟩
theorem Tryz.laysM284:Go.Proofs.LaysM.n284 Tryz.prog Tryz.laysM284_ren:=by repeat' (first|kernel_rfl|(intro w;kernel_rfl)|(intro w;rfl)|constructor)
open Go.Lib in
theorem Tryz.internal_strconv_numDigits (u:Nat) (h1:1≤u) (h2:u<18446744073709551616) (w:World) (htab:Lib.TabIs Tryz.prog w "internal/strconv.uint64pow10" .u64 Lib.pow10Tab) :
  Calls Tryz.prog 131 #[.int .u64 u] w fun e w'=>e=.returned (.int .i64 (Lib.nDigits u))∧w'=w:=Any.internal_strconv_numDigits Tryz.laysM284 u h1 h2 w htab
def Tryz.lays285_ren:Go.Shelf.Ren:=⟨fun|285=>132|n=>n,fun|37=>174|53=>23|3=>3|4=>4|51=>255|9=>9|5=>5|0=>0|n=>n,fun|n=>n⟩
theorem Tryz.lays285:Go.Proofs.Lays.n285 Tryz.prog Tryz.lays285_ren:=by repeat' (first|kernel_rfl|(intro w;kernel_rfl)|(intro w;rfl)|constructor)
open Go.RowKit Go.Sort Go.Lib in
theorem Tryz.internal_strconv_formatBase10 (blk off cap:Nat) (u:Nat) (d:Array UInt8) (w:World) (hH:Holds (fun (b:UInt8)=>Value.int .u8 (b.toNat:Int)) w blk off d) (hu:u<10^d.size) (hu64:u<18446744073709551616) (hsz:d.size<4611686018427387904) :
  Calls Tryz.prog 132 #[.slice (some ⟨blk,off,none⟩) d.size cap,.int .u64 u] w fun e w' =>
   e=.returned (.tuple #[])∧∃(n v':Nat) (dk:Array UInt8),w'=(putRow (fun (b:UInt8)=>Value.int .u8 (b.toNat:Int)) w blk off dk).drewN n∧FmtInv d.size u 0 v' dk:=Any.internal_strconv_formatBase10 Tryz.lays285 blk off cap u d w hH hu hu64 hsz
def Tryz.laysM171_ren:Go.Shelf.Ren:=⟨fun|171=>41|243=>78|246=>134|283=>130|284=>131|285=>132|286=>133|129=>185|317=>184|318=>186|319=>187|320=>188|337=>219|338=>220|n=>n,fun|3=>3|9=>9|2=>2|4=>4|171=>211|0=>0|53=>23|37=>174|5=>5|173=>214|212=>254|51=>255|20=>20|213=>256|46=>222|232=>299|233=>300|n=>n,fun|17=>0|18=>5|19=>6|n=>n⟩
theorem Tryz.laysM171:Go.Proofs.LaysM.n171 Tryz.prog Tryz.laysM171_ren:=by repeat' (first|kernel_rfl|(intro w;kernel_rfl)|(intro w;rfl)|constructor)
open Go.RowKit Go.Sort Go.Lib in
theorem Tryz.strconv_Itoa (n:Int) (h0:-9223372036854775808≤n) (h1:n≤9223372036854775807) (w:World) (htab:Lib.TabIs Tryz.prog w "internal/strconv.uint64pow10" .u64 Lib.pow10Tab) :
  Calls Tryz.prog 41 #[.int .i64 n] w fun e w'=>e=.returned (.string ⟨(Lib.itoa n).toArray⟩)∧∃k os,w'=grow (w.drewN k) os:=Any.strconv_Itoa Tryz.laysM171 n h0 h1 w htab
def Tryz.laysC172_ren:Go.Shelf.Ren:=⟨fun|172=>47|244=>85|245=>84|247=>146|279=>142|280=>143|281=>144|282=>145|287=>83|316=>195|171=>41|205=>196|321=>140|322=>141|243=>78|246=>134|283=>130|284=>131|285=>132|286=>133|129=>185|317=>184|318=>186|319=>187|320=>188|337=>219|338=>220|n=>n,fun|9=>9|3=>3|75=>123|76=>128|4=>4|5=>5|167=>220|37=>174|0=>0|85=>226|2=>2|168=>223|53=>23|175=>124|46=>222|210=>267|127=>217|145=>289|143=>287|21=>21|171=>211|173=>214|212=>254|51=>255|20=>20|213=>256|232=>299|233=>300|80=>178|n=>n,fun|15=>1|16=>2|17=>0|18=>5|19=>6|n=>n⟩
theorem Tryz.laysC172:Go.Proofs.LaysC.n172 Tryz.prog Tryz.laysC172_ren:=by repeat' (first|kernel_rfl|(intro w;kernel_rfl)|(intro w;rfl)|constructor)
open Go.RowKit in
theorem Tryz.strconv_Atoi_ok (s:ByteArray) (hmax:s.size≤9223372036854775806) (v:Int) (h:Lib.atoiAll s.data.toList=.ok v) (w:World) :
  Calls Tryz.prog 47 #[.string s] w fun e w'=>e=.returned (.tuple #[.int .i64 v,.nilIface])∧(w'=w∨∃t,w'=Lib.bytesWorld w 5 t):=Any.strconv_Atoi_ok Tryz.laysC172 s hmax v h w
open Go.RowKit in
theorem Tryz.strconv_Atoi_syntax_var (s:ByteArray) (hlim:s.size≤281474976710656) (h1:∀v,Lib.atoiAll s.data.toList≠.ok v) (h2:Lib.atoiAll s.data.toList≠.range) (tp:TypeId) (p:Value) (w:World) (hvar:w.var? Tryz.prog "strconv.ErrSyntax"=some #[.iface tp p]) :
  Calls Tryz.prog 47 #[.string s] w fun e w'=>∃N,e=.returned (.tuple #[.int .i64 0,.iface 223 (.pointer (some ⟨N,0,none⟩))])∧w.heap.size≤N∧w'.heap[N]?=some (.cells #[.string ⟨#[65,116,111,105]⟩,.string s,.iface tp p] 267 (0,0))∧Below w.heap.size w w':=Any.strconv_Atoi_syntax_var Tryz.laysC172 s hlim (by cases e:Lib.atoiAll s.data.toList<;>simp_all) tp p w hvar
open Go.RowKit in
theorem Tryz.strconv_Atoi_range_var (s:ByteArray) (hlim:s.size≤281474976710656) (h:Lib.atoiAll s.data.toList=.range) (tp:TypeId) (p:Value) (w:World) (hvar:w.var? Tryz.prog "strconv.ErrRange"=some #[.iface tp p]) :
  Calls Tryz.prog 47 #[.string s] w fun e w'=>∃N,e=.returned (.tuple #[.int .i64 (Lib.atoiSat s.data.toList),.iface 223 (.pointer (some ⟨N,0,none⟩))])∧w.heap.size≤N∧w'.heap[N]?=some (.cells #[.string ⟨#[65,116,111,105]⟩,.string s,.iface tp p] 267 (0,0))∧Below w.heap.size w w':=Any.strconv_Atoi_range_var Tryz.laysC172 s hlim h tp p w hvar
def Tryz.lays189_ren:Go.Shelf.Ren:=⟨fun|189=>235|125=>251|257=>250|128=>271|129=>185|294=>262|295=>263|296=>264|297=>265|298=>266|299=>267|216=>268|300=>269|301=>270|328=>283|329=>284|330=>285|331=>286|332=>287|215=>288|343=>294|n=>n,fun|28=>22|3=>3|46=>222|0=>0|51=>255|53=>23|4=>4|183=>323|182=>322|131=>83|5=>5|9=>9|218=>339|222=>126|228=>350|229=>351|n=>n,fun|n=>n⟩
theorem Tryz.lays189:Go.Proofs.Lays.n189 Tryz.prog Tryz.lays189_ren:=by repeat' (first|kernel_rfl|(intro w;kernel_rfl)|(intro w;rfl)|constructor)
open Go.Sort Go.RowKit in
theorem Tryz.slices_Sort_int (blk off cap:Nat) (zs:List Int) (w:World) (hH:Holds (Value.int .i64) w blk off zs.toArray) (hblk:blk<w.heap.size) (hsz:zs.length<4611686018427387904) :
  Calls Tryz.prog 235 #[.slice (some ⟨blk,off,none⟩) zs.length cap] w fun e w' =>
   e=.returned (.tuple #[])∧∃n os,w'=grow (putRow (Value.int .i64) (Sort.ahead w n) blk off (zs.mergeSort fun x y=>decide (x≤y)).toArray) os:=Any.slices_Sort_int Tryz.lays189 blk off cap zs w hH hblk hsz
def Tryz.laysNm220_ren:Go.Shelf.Ren:=⟨fun|20=>236|n=>n,fun|22=>22|3=>3|4=>4|0=>0|n=>n,fun|n=>n⟩
theorem Tryz.laysNm220:Go.Proofs.Lays2.n20 Tryz.prog Tryz.laysNm220_ren:=by repeat' (first|kernel_rfl|(intro w;kernel_rfl)|(intro w;rfl)|constructor)
open Go.RowKit Go.Lib Go.Sort in
theorem Tryz.slices_Compact_int_empty (a:Option Addr) (cap:Nat) (w:World) :
  Calls Tryz.prog 236 #[.slice a 0 cap] w fun e w'=>e=.returned (.slice a 0 cap)∧w'=w:=Any.slices_Compact_int_empty Tryz.laysNm220 a cap w
open Go.RowKit Go.Lib Go.Sort in
theorem Tryz.slices_Compact_int_cells (b off n c:Nat) (zs:List Int) (w:World) (hz:n≤zs.length) (hbig:n≤9223372036854775807) (hcap:n≤c) (hc:∀j,j<zs.length→w.cell? ⟨b,off+j,none⟩=some (.int .i64 (zs.getD j 0))) (hf:∀j,j<n→w.frozen? ⟨b,off+j,none⟩=false) :
  Calls Tryz.prog 236 #[.slice (some ⟨b,off,none⟩) n c] w fun e w'=>e=.returned (.slice (some ⟨b,off,none⟩) (Lib.compact (zs.take n)).length c)∧∃q,w'=(w.drewN q).setCells b off ((Lib.compact (zs.take n)++List.replicate (n - (Lib.compact (zs.take n)).length) 0).map (Value.int .i64)):=Any.slices_Compact_int_cells Tryz.laysNm220 b off n c zs w hz hbig hcap hc hf
open Go.RowKit Go.Sort in
theorem Tryz.slices_Sort_int_none (p:Option Addr) (cap:Nat) (w:World) :
  Calls Tryz.prog 235 #[.slice p 0 cap] w fun e w'=>e=.returned (.tuple #[])∧w'=w:=Any.slices_Sort_int_none Tryz.lays189 p cap w
def Tryz.layPu_ren:Go.Shelf.Ren:=⟨fun|14=>46|16=>83|17=>84|19=>140|20=>141|21=>142|22=>143|23=>144|24=>145|25=>195|27=>41|26=>196|28=>78|29=>134|30=>130|31=>131|32=>132|33=>133|35=>185|34=>184|36=>186|37=>187|38=>188|39=>219|40=>220|n=>n,fun|9=>9|3=>3|22=>23|24=>123|25=>124|4=>4|34=>220|5=>5|36=>222|37=>174|0=>0|39=>223|21=>21|44=>267|47=>217|50=>289|48=>287|2=>2|52=>211|55=>214|59=>254|60=>255|20=>20|61=>256|65=>299|66=>300|67=>178|n=>n,fun|0=>1|1=>2|2=>0|3=>5|4=>6|n=>n⟩
theorem Tryz.layPu:Go.Proofs.LaysPu.n14 Tryz.prog Tryz.layPu_ren:=by repeat' (first|kernel_rfl|(intro w;kernel_rfl)|(intro w;rfl)|constructor)
def Tryz.layJoin_ren:Go.Shelf.Ren:=⟨fun|156=>43|165=>79|166=>80|169=>81|240=>135|241=>136|276=>189|277=>190|n=>n,fun|31=>117|9=>9|3=>3|4=>4|0=>0|20=>20|72=>176|76=>128|70=>173|37=>174|75=>123|127=>217|164=>258|5=>5|80=>178|n=>n,fun|n=>n⟩
theorem Tryz.layJoin:Go.Proofs.Lays.n156 Tryz.prog Tryz.layJoin_ren:=by repeat' (first|kernel_rfl|(intro w;kernel_rfl)|(intro w;rfl)|constructor)
def Tryz.laySpl_ren:Go.Shelf.Ren:=⟨fun|146=>45|221=>82|268=>137|138=>138|143=>139|195=>191|197=>192|218=>193|219=>194|260=>221|217=>222|225=>223|224=>224|267=>225|266=>242|314=>243|n=>n,fun|9=>9|31=>117|3=>3|4=>4|0=>0|105=>262|21=>21|5=>5|46=>222|119=>301|139=>304|138=>303|146=>305|51=>255|n=>n,fun|1=>4|3=>7|4=>8|n=>n⟩
theorem Tryz.laySpl:Go.Proofs.Lays.n146 Tryz.prog Tryz.laySpl_ren:=by repeat' (first|kernel_rfl|(intro w;kernel_rfl)|(intro w;rfl)|constructor)
end Go.Proofs
namespace Go.Proofs
open Go.Deep Go.Ab Go.RowKit Go.Lib Go.Sort
set_option maxHeartbeats 6400000 in
set_option maxRecDepth 100000 in
theorem Tryz.fut_in (u:Nat) (hu64:u<18446744073709551616) (w:World) (htab:Lib.TabIs Tryz.prog w "internal/strconv.uint64pow10" .u64 Lib.pow10Tab) :
  Calls Tryz.prog 77 #[.int .u64 u,.int .i64 10] w fun e w'=>e=.returned (.string ⟨(Lib.decDigits u).toArray⟩)∧∃k os,w'=grow (w.drewN k) os:=by
 have esm:∀args w,(callFunc 130 args).run Tryz.prog w=.ok (.enter 130 args) w:=enters_of Tryz.func130 (by kernel_rfl) rfl
 have gK:∀args w,(callFunc 131 args).run Tryz.prog w=.ok (.enter 131 args) w:=enters_of Tryz.func131 (by kernel_rfl) rfl
 have efb:∀args w,(callFunc 132 args).run Tryz.prog w=.ok (.enter 132 args) w:=enters_of Tryz.func132 (by kernel_rfl) rfl
 by_cases hs:u<100
 ·go_enter Tryz.func77,Tryz.ntmps77
  go_wp2_with (go_at_fn 130;refine (Tryz.internal_strconv_small u hs _).mono ?_;rintro e w' ⟨rfl,rfl⟩)
  go_ret
  exact ⟨rfl,0,#[],by simp [World.drewN_zero]⟩
 ·have hu1:1≤u:=by omega
  have hnd20:Lib.nDigits u≤20:=by have:=Lib.numDigits_eq u hu1 hu64;split at this<;>omega
  have hb3:Lib.nDigits u≤24:=by omega
  have hal:Tryz.prog.arrayLen 211=24:=by simp [Program.arrayLen,Tryz.underlying211]
  have hsl1:∀W,(Instr.sliceAt 211 (.pointer (some ⟨w.heap.size,0,none⟩)) none (some (.int .i64 (Lib.nDigits u:Int))) none).run Tryz.prog W=.ok (.slice (some ⟨w.heap.size,0,none⟩) (Lib.nDigits u) 24) W:=fun W=>by
   rw [run_sliceAt_array_h W 211 ⟨w.heap.size,0,none⟩ (by simp [Program.arrayLen,Program.elem,Tryz.underlying211]) .i64 (Lib.nDigits u:Int) (by omega) (by rw [hal];omega)]
   go_simp
  have hH0:=Lib.holds_zero0 w 211 (Lib.nDigits u) (by omega)
  have hfmt:=Tryz.internal_strconv_formatBase10 w.heap.size 0 24 u (Array.replicate (Lib.nDigits u) 0) (w.alloc (.cells Lib.zeros24 211)) hH0 (by rw [Array.size_replicate];exact Lib.lt_pow_nDigits u) hu64 (by rw [Array.size_replicate];omega)
  rw [Array.size_replicate] at hfmt
  have HH0:=Lib.hid hH0
  clear hH0 hal
  go_enter Tryz.func77,Tryz.ntmps77
  go_wp2_with (first
   | (go_at_fn 131;refine (Tryz.internal_strconv_numDigits u hu1 hu64 _ (Lib.tabIs_alloc htab _)).mono ?_;rintro e w' ⟨rfl,rfl⟩))
  go_at_fn 132
  refine hfmt.mono ?_
  rintro e w' ⟨rfl,k,v',dk,rfl,hF⟩
  have hal:Tryz.prog.arrayLen 211=24:=by simp [Program.arrayLen,Tryz.underlying211]
  have hcv:(convert 174 9 (.slice (some ⟨w.heap.size,0,none⟩) (Lib.nDigits u) 24)).run Tryz.prog ((putRow (fun (b:UInt8)=>Value.int .u8 (b.toNat:Int)) (w.alloc (.cells Lib.zeros24 211)) w.heap.size 0 dk).drewN k)=.ok (.string ⟨(Lib.decDigits u).toArray⟩) ((putRow (fun (b:UInt8)=>Value.int .u8 (b.toNat:Int)) (w.alloc (.cells Lib.zeros24 211)) w.heap.size 0 dk).drewN k):=by
   have h:=run_convert_bytes_back (P:=Tryz.prog) ((putRow (fun (b:UInt8)=>Value.int .u8 (b.toNat:Int)) (w.alloc (.cells Lib.zeros24 211)) w.heap.size 0 dk).drewN k) 174 9 5 ⟨w.heap.size,0,none⟩ 24 (Lib.decDigits u) Tryz.underlying174 Tryz.underlying5 Tryz.underlying9 (fun j hj=>by
    rw [Lib.row_is_numeral hF j hj,Lib.add_plain,World.cell?_drewN]
    exact cell?_putRow (fun (b:UInt8)=>Value.int .u8 (b.toNat:Int)) _ w.heap.size 0 _ dk HH0.out (by rw [hF.size,Array.size_replicate]) j (by rw [hF.size];rw [Lib.decDigits_length] at hj;exact hj))
   rw [Lib.decDigits_length] at h
   exact h
  go_wp2
  go_ret
  obtain ⟨os,eo⟩:=Lib.fin_at w (.cells Lib.zeros24 211) dk k 0
  exact ⟨rfl,k,os,eo⟩
set_option maxRecDepth 100000 in
theorem Tryz.fut_out (u:Nat) (hu64:u<18446744073709551616) (w:World) (htab:Lib.TabIs Tryz.prog w "internal/strconv.uint64pow10" .u64 Lib.pow10Tab) :
  Calls Tryz.prog 40 #[.int .u64 u,.int .i64 10] w fun e w'=>e=.returned (.string ⟨(Lib.decDigits u).toArray⟩)∧∃k os,w'=grow (w.drewN k) os:=by
 have efi:∀args w,(callFunc 77 args).run Tryz.prog w=.ok (.enter 77 args) w:=enters_of Tryz.func77 (by kernel_rfl) rfl
 go_enter Tryz.func40,Tryz.ntmps40
 go_wp2_with (go_at_fn 77;refine (Tryz.fut_in u hu64 _ htab).mono ?_;rintro e w' ⟨rfl,k,os,rfl⟩)
 go_ret
 exact ⟨rfl,k,os,rfl⟩
theorem Tryz.joinX:Builder.Extra Tryz.prog Tryz.layJoin_ren:=⟨⟨by kernel_rfl,by kernel_rfl⟩,Tryz.underlying5,Tryz.isAgg5,Tryz.sizeOf5,Tryz.zeroValue5,by kernel_rfl,by kernel_rfl,by kernel_rfl,by decide⟩
end Go.Proofs
namespace Go.Ab
open Go.Proofs Go.RowKit
def d8u (n b:Int):Option Str:=chk (decide (b=10)&&(decide (0≤n)&&decide (n<18446744073709551616))) (some (Lib.decDigits n.toNat))
theorem g6s {n b:Int} {y:Str} (hy:d8u n b=some y):a0o Tryz.prog 40 [.int .u64 n,.int .i64 b] [] (fun r H=>r=.str y∧H=[]):=by
 unfold d8u chk at hy
 cases hc:(decide (b=10)&&(decide (0≤n)&&decide (n<18446744073709551616))) with
 | false=>rw [hc] at hy;cases hy
 | true =>
  rw [hc] at hy
  obtain rfl:=Option.some.inj hy
  simp only [Bool.and_eq_true,decide_eq_true_eq] at hc
  obtain ⟨rfl,h0,h1⟩:=hc
  obtain ⟨u,rfl⟩:=Int.eq_ofNat_of_zero_le h0
  have hu:u<18446744073709551616:=by omega
  refine b57 (by kernel_rfl) fun g w vals hH hl hv=>?_
  rw [g4y hl,(hv 0 _ rfl).int_inv.1,(hv 1 _ rfl).int_inv.1]
  have ht:=(hH.tabs w (fun _ _=>rfl)).1 _ List.mem_cons_self (by kernel_rfl)
  refine (Tryz.fut_out u hu w ht).mono ?_
  rintro en w' ⟨rfl,k,os,rfl⟩
  have hlen:(Lib.decDigits u).length≤20:=by
   rw [Lib.decDigits_length]
   by_cases h:1≤u
   ·have:=Lib.numDigits_eq u h hu;split at this<;>omega
   ·obtain rfl:u=0:=by omega
    exact Nat.le_of_ble_eq_true (by kernel_rfl)
  exact ⟨_,rfl,fun g w'=>c5f _ (Nat.le_trans hlen (by decide)),k,os,rfl⟩
theorem g6r {s t:Str} {y:List Str} (hy:d5f s t=some y):a0o Tryz.prog 45 [.str s,.str t] [] (fun r H=>r=.sl (y.map V.str)∧H=[]):=by
 have h:=c0c Tryz.laySpl (by kernel_rfl) (by kernel_rfl) hy
 exact h
def c77 (xs:List Str) (sep:Str):Option Str:=chk (decide (xs.length≤140737488355328)&&decide ((Lib.join xs sep).length≤140737488355328)) (some (Lib.join xs sep))
theorem g6q {xs:List Str} {sep y:Str} (hy:c77 xs sep=some y):a0o Tryz.prog 43 [.sl (xs.map V.str),.str sep] [] (fun r H=>r=.str y∧H=[]):=by
 unfold c77 chk at hy
 cases hc:(decide (xs.length≤140737488355328)&&decide ((Lib.join xs sep).length≤140737488355328)) with
 | false=>rw [hc] at hy;cases hy
 | true =>
  rw [hc] at hy
  obtain rfl:=Option.some.inj hy
  simp only [Bool.and_eq_true,decide_eq_true_eq] at hc
  obtain ⟨h1,h2⟩:=hc
  refine a1j ⟨.str (Lib.join xs sep),[],[]⟩ (by kernel_rfl) fun g w vals hH hl hv=>?_
  obtain ⟨t,e1,e2,e3⟩:=(hv 1 _ rfl).str_inv
  have hrd:Rd g.S w (vals.getD 0 undef) (.sl (xs.map V.str)):=f8r (hv 0 _ rfl)
  rw [f0o hl,e1]
  generalize vals.getD 0 undef=v0 at hrd
  have fin:∀w':World,Below w.heap.size w w'→∃v g',Ending.returned (.string ⟨(Lib.join xs sep).toArray⟩)=.returned v∧a07 g [] w ⟨.str (Lib.join xs sep),[],[]⟩ g' w'∧a0v [] g g' ⟨[],[]⟩ ⟨.str (Lib.join xs sep),[],[]⟩∧VR g' w' v (.str (Lib.join xs sep)):=fun w' hb =>
   ⟨_,g,rfl,a07.grown _ [] hH.lt hb.os hb.tape hb.output hb.size (fun b h _=>hb.block b h),a0v.none _ _,c5f _ (Nat.le_trans h2 (by decide))⟩
  have none_:∀(a:Option Addr) (c:Nat),xs=[]→Calls Tryz.prog 43 #[.slice a 0 c,.string t] w fun en w'=>∃v g',en=.returned v∧a07 g [] w ⟨.str (Lib.join xs sep),[],[]⟩ g' w'∧a0v [] g g' ⟨[],[]⟩ ⟨.str (Lib.join xs sep),[],[]⟩∧VR g' w' v (.str (Lib.join xs sep)):=by
   rintro a c rfl
   refine (Any.strings_Join_none Tryz.layJoin Tryz.joinX a c t w).mono ?_
   rintro en w' ⟨rfl,rfl⟩
   exact fin w' (Below.refl _ _)
  generalize hvs:xs.map V.str=vs at hrd
  cases hrd with
  | nilsl=>exact none_ none 0 (List.map_eq_nil_iff.1 hvs)
  | slz a c=>exact none_ (some a) c (List.map_eq_nil_iff.1 hvs)
  | sl bb oo len cap k cur e fz _ hS hg hln hm hcp hb hk hr =>
   by_cases hz:xs=[]
   ·have:len=0:=by rw [←hln,←hvs,hz];rfl
    subst this
    exact none_ _ cap hz
   ·have hlen:len=xs.length:=by rw [←hln,←hvs,List.length_map]
    have hk1:k=1:=by
     obtain ⟨x,r,rfl⟩:=List.exists_cons_of_ne_nil hz
     have:=(hk (V.str x) (by rw [←hvs];simp)).1
     simpa [V.cells] using this.symm
    subst hk1
    have hpos:0<xs.length:=List.length_pos_iff.2 hz
    have hid:xs.map ((fun b:ByteArray=>b.data.toList)∘fun s:Str=>(⟨s.toArray⟩:ByteArray))=xs:=by
     simp [Function.comp_def]
    have hj:=Any.strings_Join Tryz.layJoin Tryz.joinX bb oo cap (xs.map fun s=>(⟨s.toArray⟩:ByteArray)) t w (fun j x hx=>by
     rw [List.getElem?_map] at hx
     obtain ⟨s,hs,rfl⟩:=Option.map_eq_some_iff.1 hx
     have hjl:j<xs.length:=(List.getElem?_eq_some_iff.1 hs).1
     have h0:=hr j 0 (V.str s) (V.str s) (by rw [←hvs,List.getElem?_map,hs];rfl) rfl
     obtain ⟨q,q1,q2,_⟩:=(VR.rd (g:=g) h0).str_inv
     have hq:q=⟨s.toArray⟩:=by
      apply ByteArray.ext
      apply Array.toList_inj.1
      rw [q2]
     have hlt:oo+j<cur.size:=by omega
     simp only [Nat.mul_one,Nat.add_zero] at q1
     rw [Array.getD_eq_getD_getElem?,Array.getElem?_eq_getElem hlt,Option.getD_some] at q1
     simp only [World.cell?,hg]
     rw [Array.getElem?_eq_getElem hlt,q1,hq];rfl) (by
      have:=(Array.getElem?_eq_some_iff.1 hg).1
      exact this) (by rw [List.length_map];exact h1) (by rw [List.length_map];omega) (by rw [List.map_map,e2,hid];exact h2)
    rw [List.length_map,List.map_map,e2,hid] at hj
    rw [hlen]
    refine Calls.mono hj ?_
    rintro en w' ⟨rfl,hb'⟩
    exact fin w' hb'
def d1n (xs:List Str) (sep:Str):Option Str:=c77 xs sep
theorem h4f {xs:List Str} {sep y:Str} (hy:d1n xs sep=some y):a0o Tryz.prog 43 [.osl 1000 1 0 xs.length,.str sep] [(1000,.arr 1 (xs.map V.str))] (fun r H=>r=.str y∧H=[(1000,.arr 1 (xs.map V.str))]):=by
 have h:=c4l (k:=1) (t:=none) (g6q hy)
 rw [List.length_map] at h
 exact h
def puE (s:Str) (b n:Int):Option (Int×Bool):=chk (decide (b=10)&&(decide (n=64)&&decide (s.length≤281474976710656))) (some (match Lib.parseUintB 64 s with
 | .ok u=>((u:Int),true)
 | .range=>(18446744073709551615,false)
 | _=>(0,false)))
theorem g6p {s:Str} {b n:Int} {y:Int×Bool} (hy:puE s b n=some y):a0o Tryz.prog 46 [.str s,.int .i64 b,.int .i64 n] [] (fun r H=>r=.tup [.int .u64 y.1,.ifc y.2]∧H=[]):=by
 unfold puE chk at hy
 cases hc:(decide (b=10)&&(decide (n=64)&&decide (s.length≤281474976710656))) with
 | false=>rw [hc] at hy;cases hy
 | true =>
  rw [hc] at hy
  obtain rfl:=Option.some.inj hy
  simp only [Bool.and_eq_true,decide_eq_true_eq] at hc
  obtain ⟨rfl,rfl,hlen⟩:=hc
  generalize hy:(match Lib.parseUintB 64 s with|.ok u=>((u:Int),true)|.range=>(18446744073709551615,false)|_=>(0,false))=y
  refine a1j ⟨.tup [.int .u64 y.1,.ifc y.2],[],[]⟩ (by kernel_rfl) fun g w vals hH hl hv=>?_
  obtain ⟨t,e1,e2,e3⟩:=(hv 0 _ rfl).str_inv
  rw [g4x hl,e1,(hv 1 _ rfl).int_inv.1,(hv 2 _ rfl).int_inv.1]
  have hts:t.data.toList.length=t.size:=Array.length_toList
  have hsz:t.size≤281474976710656:=by rw [←hts,e2];exact hlen
  have fin:∀(w':World) (k:Int) (z:Value),k=y.1→rng .u64 k→VR g w' z (.ifc y.2)→Below w.heap.size w w'→∃v g',Ending.returned (.tuple #[.int .u64 k,z])=.returned v∧a07 g [] w ⟨.tup [.int .u64 y.1,.ifc y.2],[],[]⟩ g' w'∧a0v [] g g' ⟨[],[]⟩ ⟨.tup [.int .u64 y.1,.ifc y.2],[],[]⟩∧VR g' w' v (.tup [.int .u64 y.1,.ifc y.2]):=by
   rintro w' k z rfl hr hz hb
   refine ⟨_,g,rfl,a07.grown _ [] hH.lt hb.os hb.tape hb.output hb.size (fun b h _=>hb.block b h),a0v.none _ _,.tup _ _ rfl fun i x hx=>?_⟩
   match i with
   | 0=>simp at hx;subst hx;exact .rd (.int _ _ (a1a.2 hr))
   | 1=>simp at hx;subst hx;exact hz
   | i+2=>simp at hx
  have htab:=(hH.tabs w (fun _ _=>rfl)).2
  cases h:Lib.parseUintB 64 s with
  | ok u =>
   rw [h] at hy;cases hy
   have hu:=Lib.parseUintB_le h
   refine (Any.strconv_ParseUint_10_at64_ok Tryz.layPu t (by omega) u (by rw [e2];exact h) w).mono ?_
   rintro en w' ⟨rfl,hw⟩
   refine fin w' u _ rfl (by simp [rng];omega) (.rd .ifcn) ?_
   rcases hw with rfl|rfl
   ·exact Below.refl _ _
   ·exact Go.Joins.below_bytesWorld _ _ _ _ (Nat.le_refl _)
  | range =>
   rw [h] at hy;cases hy
   obtain ⟨tp,p,hvar⟩:=htab "strconv.ErrRange" (by simp [b7u]) (by kernel_rfl)
   refine (Any.strconv_ParseUint_10_at64_range_var Tryz.layPu t hsz (by rw [e2];exact h) tp p w hvar).mono ?_
   rintro en w' ⟨N,rfl,_,_,hb⟩
   exact fin w' _ _ rfl (by simp [rng]) (.rd (.ifcs _ _)) hb
  | _ =>
   rw [h] at hy;cases hy
   obtain ⟨tp,p,hvar⟩:=htab "strconv.ErrSyntax" (by simp [b7u]) (by kernel_rfl)
   refine (Any.strconv_ParseUint_10_at64_syntax_var Tryz.layPu t hsz (by rw [e2];exact h) tp p w hvar).mono ?_
   rintro en w' ⟨N,rfl,_,_,hb⟩
   exact fin w' 0 _ rfl (by simp [rng]) (.rd (.ifcs _ _)) hb
theorem g6o {n:Int} {y:Str} (hy:a8n n=some y):a0o Tryz.prog 41 [.int .i64 n] [] (fun r H=>r=.str y∧H=[]):=by
 obtain ⟨hn,rfl⟩:=c78 hy
 have hn':-9223372036854775808≤n∧n≤9223372036854775807:=hn
 refine b57 (by kernel_rfl) fun g w vals hH hl hv=>?_
 rw [g0i hl,(hv 0 _ rfl).int_inv.1]
 have ht:=(hH.tabs w (fun _ _=>rfl)).1 _ List.mem_cons_self (by kernel_rfl)
 refine (Tryz.strconv_Itoa n hn'.1 hn'.2 w ht).mono ?_
 rintro en w' ⟨rfl,k,os,rfl⟩
 exact ⟨_,rfl,fun g w'=>c5f _ (Nat.le_trans (Lib.itoa_length_le n hn'.1 hn'.2) (by decide)),k,os,rfl⟩
theorem h4e {s:Str} {y:Int} (hy:d37 s=some y):a0o Tryz.prog 47 [.str s] [] (fun r H=>r=.tup [.int .i64 y,.any]∧H=[]):=by
 obtain ⟨hlen,rfl⟩:=c8r hy
 refine a1j ⟨.tup [.int .i64 (a1f s),.any],[],[]⟩ (by kernel_rfl) fun g w vals hH hl hv=>?_
 obtain ⟨t,e1,e2,e3⟩:=(hv 0 _ rfl).str_inv
 rw [g0i hl,e1]
 have hts:t.data.toList.length=t.size:=Array.length_toList
 have hsz:t.size≤281474976710656:=by rw [←hts,e2];exact hlen
 have hr:=b3i s
 have fin:∀(w':World) (n:Int) (z:Value),n=a1f s→Below w.heap.size w w'→∃v g',Ending.returned (.tuple #[.int .i64 n,z])=.returned v∧a07 g [] w ⟨.tup [.int .i64 (a1f s),.any],[],[]⟩ g' w'∧a0v [] g g' ⟨[],[]⟩ ⟨.tup [.int .i64 (a1f s),.any],[],[]⟩∧VR g' w' v (.tup [.int .i64 (a1f s),.any]):=by
  rintro w' n z rfl hb
  refine ⟨_,g,rfl,a07.grown _ [] hH.lt hb.os hb.tape hb.output hb.size (fun b h _=>hb.block b h),a0v.none _ _,.tup _ _ rfl fun i x hx=>?_⟩
  match i with
  | 0=>simp at hx;subst hx;exact .rd (.int _ _ (a1a.2 hr))
  | 1=>simp at hx;subst hx;exact .any _
  | i+2=>simp at hx
 have htab:=(hH.tabs w (fun _ _=>rfl)).2
 cases h:Lib.atoiAll s with
 | ok v =>
  refine (Tryz.strconv_Atoi_ok t (by omega) v (by rw [e2];exact h) w).mono ?_
  rintro en w' ⟨rfl,hw⟩
  refine fin w' v _ (by simp [a1f,h]) ?_
  rcases hw with rfl|⟨u,rfl⟩
  ·exact Below.refl _ _
  ·exact Go.Joins.below_bytesWorld _ _ _ _ (Nat.le_refl _)
 | range =>
  obtain ⟨tp,p,hvar⟩:=htab "strconv.ErrRange" (by simp [b7u]) (by kernel_rfl)
  refine (Tryz.strconv_Atoi_range_var t hsz (by rw [e2];exact h) tp p w hvar).mono ?_
  rintro en w' ⟨N,rfl,_,_,hb⟩
  exact fin w' _ _ (by simp [a1f,h,e2]) hb
 | _ =>
  obtain ⟨tp,p,hvar⟩:=htab "strconv.ErrSyntax" (by simp [b7u]) (by kernel_rfl)
  refine (Tryz.strconv_Atoi_syntax_var t hsz (by rw [e2,h];intro v hv;cases hv) (by rw [e2,h];intro hv;cases hv) tp p w hvar).mono ?_
  rintro en w' ⟨N,rfl,_,_,hb⟩
  exact fin w' 0 _ (by simp [a1f,h]) hb
theorem g6n {s:Str} {y:Int×Bool} (hy:a4t s=some y):a0o Tryz.prog 47 [.str s] [] (fun r H=>r=.tup [.int .i64 y.1,.ifc y.2]∧H=[]):=by
 obtain ⟨hlen,rfl⟩:=b3j hy
 refine a1j ⟨.tup [.int .i64 (a1f s),.ifc (a1n s)],[],[]⟩ (by kernel_rfl) fun g w vals hH hl hv=>?_
 obtain ⟨t,e1,e2,e3⟩:=(hv 0 _ rfl).str_inv
 rw [g0i hl,e1]
 have hts:t.data.toList.length=t.size:=Array.length_toList
 have hsz:t.size≤281474976710656:=by rw [←hts,e2];exact hlen
 have hr:=b3i s
 have fin:∀(w':World) (n:Int) (z:Value),n=a1f s→VR g w' z (.ifc (a1n s))→Below w.heap.size w w'→∃v g',Ending.returned (.tuple #[.int .i64 n,z])=.returned v∧a07 g [] w ⟨.tup [.int .i64 (a1f s),.ifc (a1n s)],[],[]⟩ g' w'∧a0v [] g g' ⟨[],[]⟩ ⟨.tup [.int .i64 (a1f s),.ifc (a1n s)],[],[]⟩∧VR g' w' v (.tup [.int .i64 (a1f s),.ifc (a1n s)]):=by
  rintro w' n z rfl hz hb
  refine ⟨_,g,rfl,a07.grown _ [] hH.lt hb.os hb.tape hb.output hb.size (fun b h _=>hb.block b h),a0v.none _ _,.tup _ _ rfl fun i x hx=>?_⟩
  match i with
  | 0=>simp at hx;subst hx;exact .rd (.int _ _ (a1a.2 hr))
  | 1=>simp at hx;subst hx;exact hz
  | i+2=>simp at hx
 have htab:=(hH.tabs w (fun _ _=>rfl)).2
 cases h:Lib.atoiAll s with
 | ok v =>
  refine (Tryz.strconv_Atoi_ok t (by omega) v (by rw [e2];exact h) w).mono ?_
  rintro en w' ⟨rfl,hw⟩
  refine fin w' v _ (by simp [a1f,h]) (by simp only [a1n,h];exact .rd .ifcn) ?_
  rcases hw with rfl|⟨u,rfl⟩
  ·exact Below.refl _ _
  ·exact Go.Joins.below_bytesWorld _ _ _ _ (Nat.le_refl _)
 | range =>
  obtain ⟨tp,p,hvar⟩:=htab "strconv.ErrRange" (by simp [b7u]) (by kernel_rfl)
  refine (Tryz.strconv_Atoi_range_var t hsz (by rw [e2];exact h) tp p w hvar).mono ?_
  rintro en w' ⟨N,rfl,_,_,hb⟩
  exact fin w' _ _ (by simp [a1f,h,e2]) (by simp only [a1n,h];exact .rd (.ifcs _ _)) hb
 | _ =>
  obtain ⟨tp,p,hvar⟩:=htab "strconv.ErrSyntax" (by simp [b7u]) (by kernel_rfl)
  refine (Tryz.strconv_Atoi_syntax_var t hsz (by rw [e2,h];intro v hv;cases hv) (by rw [e2,h];intro hv;cases hv) tp p w hvar).mono ?_
  rintro en w' ⟨N,rfl,_,_,hb⟩
  exact fin w' 0 _ (by simp [a1f,h]) (by simp only [a1n,h];exact .rd (.ifcs _ _)) hb
set_option maxRecDepth 20000
theorem g1q {xs ys:List Int} (hy:b1s xs=some ys):a0o Tryz.prog 235 [.osl 1000 1 0 xs.length] [(1000,.arr 1 (xs.map (V.int .i64)))] (fun r H'=>r=.tup []∧H'=[(1000,.arr 1 (ys.map (V.int .i64)))]) :=
 b8h (by kernel_rfl) (fun blk off cap zs w h1 h2 h3=>Tryz.slices_Sort_int blk off cap zs w h1 h2 h3) (fun p cap w=>Tryz.slices_Sort_int_none p cap w) hy
theorem g6m {xs:List Int} {y:Nat×List Int} (hy:a5g xs=some y):a0o Tryz.prog 236 [.osl 1000 1 0 xs.length] [(1000,.arr 1 (xs.map (V.int .i64)))] (fun r H'=>r=.osl 1000 1 0 y.1∧H'=[(1000,.arr 1 (y.2.map (V.int .i64)))]) :=
 b3m (by kernel_rfl) (fun b off n c zs w h1 h2 h3 h4 h5=>Tryz.slices_Compact_int_cells b off n c zs w h1 h2 h3 h4 h5) (fun p cap w=>Tryz.slices_Compact_int_empty p cap w) hy
instance g6l {n b:Int}:WI (d8u n b) Tryz.prog 40 [.int .u64 n,.int .i64 b] [] (fun y=>.str y) (fun y=>[]):=⟨fun Q Q' h hQ=>by obtain ⟨y,hy,hq⟩:=h;exact (g6s hy).mono fun r H' e=>by rw [e.1,e.2];exact hQ y hq⟩
instance f5f {s t:Str}:WI (d5f s t) Tryz.prog 45 [.str s,.str t] [] (fun y=>.sl (y.map V.str)) (fun y=>[]):=⟨fun Q Q' h hQ=>by obtain ⟨y,hy,hq⟩:=h;exact (g6r hy).mono fun r H' e=>by rw [e.1,e.2];exact hQ y hq⟩
instance g1m {xs:List Str} {sep:Str}:WI (c77 xs sep) Tryz.prog 43 [.sl (xs.map V.str),.str sep] [] (fun y=>.str y) (fun y=>[]):=⟨fun Q Q' h hQ=>by obtain ⟨y,hy,hq⟩:=h;exact (g6q hy).mono fun r H' e=>by rw [e.1,e.2];exact hQ y hq⟩
instance g6k {s:Str} {b n:Int}:WI (puE s b n) Tryz.prog 46 [.str s,.int .i64 b,.int .i64 n] [] (fun y=>.tup [.int .u64 y.1,.ifc y.2]) (fun y=>[]):=⟨fun Q Q' h hQ=>by obtain ⟨y,hy,hq⟩:=h;exact (g6p hy).mono fun r H' e=>by rw [e.1,e.2];exact hQ y hq⟩
instance g1n {n:Int}:WI (a8n n) Tryz.prog 41 [.int .i64 n] [] (fun y=>.str y) (fun y=>[]):=⟨fun Q Q' h hQ=>by obtain ⟨y,hy,hq⟩:=h;exact (g6o hy).mono fun r H' e=>by rw [e.1,e.2];exact hQ y hq⟩
instance g1p {s:Str}:WI (d37 s) Tryz.prog 47 [.str s] [] (fun y=>.tup [.int .i64 y,.any]) (fun y=>[]):=⟨fun Q Q' h hQ=>by obtain ⟨y,hy,hq⟩:=h;exact (h4e hy).mono fun r H' e=>by rw [e.1,e.2];exact hQ y hq⟩
instance f5h {s:Str}:WI (a4t s) Tryz.prog 47 [.str s] [] (fun y=>.tup [.int .i64 y.1,.ifc y.2]) (fun y=>[]):=⟨fun Q Q' h hQ=>by obtain ⟨y,hy,hq⟩:=h;exact (g6n hy).mono fun r H' e=>by rw [e.1,e.2];exact hQ y hq⟩
end Go.Ab