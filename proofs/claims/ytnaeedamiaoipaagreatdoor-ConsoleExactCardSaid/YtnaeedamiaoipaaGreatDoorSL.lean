/- What the functions of this seat that lie on the laws' road compute (part SL), each for every input. By AI agents. -/
import Derived.Test.YtnaeedamiaoipaaGreatDoorProg
import Derived.KernelRfl
import Derived.Test.YtnaeedamiaoipaaGreatDoorAbMC
import Derived.Shelf.Strings.Builder1
import Derived.Shelf.Strings.Builder2
import Derived.Shelf.Strings.OnBuilder
import Derived.Shelf.Small.Bits
import Derived.Shelf.Small.Strs
import Derived.Shelf.Small.Wraps
import Derived.Shelf.Strings.BuilderF
import Derived.Shelf.Strings.BuilderK
import Derived.Shelf.Utf8.RuneCount
import Derived.Shelf.Strings.Builder2Cap
import Derived.Shelf.Strconv.Atoi
import Derived.Shelf.Strconv.Itoa0
import Derived.Shelf.Strconv.Itoa1
import Derived.Shelf.LaysM
import Derived.Shelf.Strconv.Itoa2
import Derived.Shelf.Strconv.Itoa3
import Derived.Shelf.Strconv.AtoiErrFast
import Derived.Shelf.Strconv.ParseIntEmpty
import Derived.Shelf.Strconv.AtoiFail
import Derived.Shelf.Strconv.Clone
import Derived.Shelf.Strconv.SyntaxError
import Derived.Shelf.LaysC
import Derived.Shelf.Strconv.ToError
import Derived.Shelf.Strconv.Lower
import Derived.Shelf.Strconv.ParseUint10
import Derived.Shelf.Strconv.ParseUint10Empty
import Derived.Shelf.Strconv.ParseUint10Any
import Derived.Shelf.Strconv.ParseInt10
import Derived.Shelf.Strconv.AtoiLong
import Derived.Shelf.Strconv.AtoiInnerAll
import Derived.Shelf.Strconv.RangeError
import Derived.Shelf.Strconv.ToErrorRange
import Derived.Shelf.Strconv.AtoiAll
import Derived.Shelf.Strconv.ErrVarAll
import Derived.Shelf.Strconv.ParseUintEmpty
import Derived.Shelf.Strconv.ParseUint10b64
import Derived.Shelf.Strconv.ParseUint10b32
import Derived.Shelf.Strconv.ParseUint10b16
import Derived.Shelf.Strconv.ParseUint10b8
import Derived.Shelf.Strconv.ParseUint10At
import Derived.Shelf.Strings.Search1
import Derived.Shelf.Strings.Search2
import Derived.Shelf.Strings.Search3
import Derived.Shelf.Strings.Count
import Derived.Shelf.Strings.Shaped
import Derived.Shelf.Sort.Plain
import Derived.Shelf.Strings.Prefix
import Derived.Shelf.Strings.Split
import Derived.Shelf.Strings.SplitShaped
import Derived.Shelf.Unicode.Decode
import Derived.Shelf.Strings.RuneCount
import Derived.Shelf.Strings.Explode
import Derived.Shelf.Unicode.DecodeSlow
import Derived.Shelf.Unicode.DecodeAny
import Derived.Shelf.Strings.BuilderCap
import Derived.Shelf.Slices.Turned
import Derived.Ground.Names2Prog
import Derived.Shelf.Slices.CompactI
import Derived.Shelf.Slices.CompactS
import Derived.Shelf.Slices.SearchI
import Derived.Shelf.Slices.Cells
import Derived.Shelf.Slices.In.SortNone
import Derived.Ground.SlgnProg
import Derived.Shelf.SlicesE.Compact
import Derived.Ground.SlgfProg
import Derived.Shelf.SlicesE.IndexFunc
import Derived.Ground.NamesProg
import Derived.Deep.LoopGhost
import Derived.Test.YtnaeedamiaoipaaGreatDoorAbUns
set_option linter.all false
set_option maxRecDepth 100000
namespace Go.Proofs
open Go.Shelf
def Tryz.lays137_ren:Go.Shelf.Ren:=⟨fun|137=>113|217=>146|266=>178|n=>n,fun|9=>9|5=>5|3=>3|n=>n,fun|n=>n⟩
theorem Tryz.lays137:Go.Proofs.Lays.n137 Tryz.prog Tryz.lays137_ren:=by repeat' (first|kernel_rfl|(intro w;kernel_rfl)|(intro w;rfl)|constructor)
open Go.RowKit in
theorem Tryz.strings_IndexByte (s:ByteArray) (c:Int) (w:World) :
  Calls Tryz.prog 113 #[.string s,.int .u8 c] w fun e w'=>e=.returned (.int .i64 (Lib.indexByte s.data.toList c.toNat.toUInt8))∧w'=w:=Any.strings_IndexByte Tryz.lays137 s c w
def Tryz.laysM171_ren:Go.Shelf.Ren:=⟨fun|171=>33|243=>81|246=>128|283=>159|284=>160|285=>161|286=>162|129=>173|317=>196|318=>197|319=>198|320=>199|337=>231|338=>232|n=>n,fun|3=>3|9=>9|2=>2|4=>4|171=>179|0=>0|53=>180|37=>57|5=>5|173=>183|212=>212|51=>194|20=>20|213=>213|46=>162|232=>254|233=>255|n=>n,fun|17=>0|18=>4|19=>5|n=>n⟩
theorem Tryz.laysM171:Go.Proofs.LaysM.n171 Tryz.prog Tryz.laysM171_ren:=by repeat' (first|kernel_rfl|(intro w;kernel_rfl)|(intro w;rfl)|constructor)
open Go.RowKit Go.Sort Go.Lib in
theorem Tryz.strconv_Itoa (n:Int) (h0:-9223372036854775808≤n) (h1:n≤9223372036854775807) (w:World) (htab:Lib.TabIs Tryz.prog w "internal/strconv.uint64pow10" .u64 Lib.pow10Tab) :
  Calls Tryz.prog 33 #[.int .i64 n] w fun e w'=>e=.returned (.string ⟨(Lib.itoa n).toArray⟩)∧∃k os,w'=grow (w.drewN k) os:=Any.strconv_Itoa Tryz.laysM171 n h0 h1 w htab
def Tryz.laysC172_ren:Go.Shelf.Ren:=⟨fun|172=>118|244=>149|245=>150|247=>183|279=>184|280=>185|281=>186|282=>187|287=>212|316=>213|171=>33|205=>214|321=>238|322=>239|243=>81|246=>128|283=>159|284=>160|285=>161|286=>162|129=>173|317=>196|318=>197|319=>198|320=>199|337=>231|338=>232|n=>n,fun|9=>9|3=>3|75=>67|76=>68|4=>4|5=>5|167=>199|37=>57|0=>0|85=>200|2=>2|168=>202|53=>180|175=>224|46=>162|210=>228|127=>128|145=>251|143=>249|21=>21|171=>179|173=>183|212=>212|51=>194|20=>20|213=>213|232=>254|233=>255|80=>73|n=>n,fun|15=>2|16=>3|17=>0|18=>4|19=>5|n=>n⟩
theorem Tryz.laysC172:Go.Proofs.LaysC.n172 Tryz.prog Tryz.laysC172_ren:=by repeat' (first|kernel_rfl|(intro w;kernel_rfl)|(intro w;rfl)|constructor)
open Go.RowKit in
theorem Tryz.strconv_Atoi_ok (s:ByteArray) (hmax:s.size≤9223372036854775806) (v:Int) (h:Lib.atoiAll s.data.toList=.ok v) (w:World) :
  Calls Tryz.prog 118 #[.string s] w fun e w'=>e=.returned (.tuple #[.int .i64 v,.nilIface])∧(w'=w∨∃t,w'=Lib.bytesWorld w 5 t):=Any.strconv_Atoi_ok Tryz.laysC172 s hmax v h w
open Go.RowKit in
theorem Tryz.strconv_Atoi_syntax_var (s:ByteArray) (hlim:s.size≤281474976710656) (h1:∀v,Lib.atoiAll s.data.toList≠.ok v) (h2:Lib.atoiAll s.data.toList≠.range) (tp:TypeId) (p:Value) (w:World) (hvar:w.var? Tryz.prog "strconv.ErrSyntax"=some #[.iface tp p]) :
  Calls Tryz.prog 118 #[.string s] w fun e w'=>∃N,e=.returned (.tuple #[.int .i64 0,.iface 202 (.pointer (some ⟨N,0,none⟩))])∧w.heap.size≤N∧w'.heap[N]?=some (.cells #[.string ⟨#[65,116,111,105]⟩,.string s,.iface tp p] 228 (0,0))∧Below w.heap.size w w':=Any.strconv_Atoi_syntax_var Tryz.laysC172 s hlim (by cases e:Lib.atoiAll s.data.toList<;>simp_all) tp p w hvar
open Go.RowKit in
theorem Tryz.strconv_Atoi_range_var (s:ByteArray) (hlim:s.size≤281474976710656) (h:Lib.atoiAll s.data.toList=.range) (tp:TypeId) (p:Value) (w:World) (hvar:w.var? Tryz.prog "strconv.ErrRange"=some #[.iface tp p]) :
  Calls Tryz.prog 118 #[.string s] w fun e w'=>∃N,e=.returned (.tuple #[.int .i64 (Lib.atoiSat s.data.toList),.iface 202 (.pointer (some ⟨N,0,none⟩))])∧w.heap.size≤N∧w'.heap[N]?=some (.cells #[.string ⟨#[65,116,111,105]⟩,.string s,.iface tp p] 228 (0,0))∧Below w.heap.size w w':=Any.strconv_Atoi_range_var Tryz.laysC172 s hlim h tp p w hvar
def Tryz.lays189_ren:Go.Shelf.Ren:=⟨fun|189=>156|125=>130|257=>193|128=>172|129=>173|294=>221|295=>222|296=>223|297=>224|298=>225|299=>226|216=>227|300=>228|301=>229|328=>240|329=>201|330=>202|331=>241|332=>242|215=>243|343=>245|n=>n,fun|28=>22|3=>3|46=>162|0=>0|51=>194|53=>180|4=>4|183=>187|182=>186|131=>51|5=>5|9=>9|218=>214|222=>140|228=>245|229=>246|n=>n,fun|n=>n⟩
theorem Tryz.lays189:Go.Proofs.Lays.n189 Tryz.prog Tryz.lays189_ren:=by repeat' (first|kernel_rfl|(intro w;kernel_rfl)|(intro w;rfl)|constructor)
open Go.Sort Go.RowKit in
theorem Tryz.slices_Sort_int (blk off cap:Nat) (zs:List Int) (w:World) (hH:Holds (Value.int .i64) w blk off zs.toArray) (hblk:blk<w.heap.size) (hsz:zs.length<4611686018427387904) :
  Calls Tryz.prog 156 #[.slice (some ⟨blk,off,none⟩) zs.length cap] w fun e w' =>
   e=.returned (.tuple #[])∧∃n os,w'=grow (putRow (Value.int .i64) (Sort.ahead w n) blk off (zs.mergeSort fun x y=>decide (x≤y)).toArray) os:=Any.slices_Sort_int Tryz.lays189 blk off cap zs w hH hblk hsz
def Tryz.lays190_ren:Go.Shelf.Ren:=⟨fun|190=>83|125=>130|258=>129|128=>172|129=>173|302=>163|303=>164|304=>165|305=>166|306=>167|307=>168|308=>169|309=>170|310=>171|333=>200|329=>201|330=>202|334=>203|335=>204|336=>205|344=>233|n=>n,fun|31=>43|9=>9|3=>3|46=>162|0=>0|51=>194|53=>180|4=>4|183=>187|182=>186|131=>51|5=>5|218=>214|222=>140|228=>245|229=>246|n=>n,fun|n=>n⟩
theorem Tryz.lays190:Go.Proofs.Lays.n190 Tryz.prog Tryz.lays190_ren:=by repeat' (first|kernel_rfl|(intro w;kernel_rfl)|(intro w;rfl)|constructor)
open Go.Sort Go.RowKit in
theorem Tryz.slices_Sort_string (blk off cap:Nat) (ss:List (List UInt8)) (w:World) (hH:Holds encStr w blk off ss.toArray) (hblk:blk<w.heap.size) (hsz:ss.length<4611686018427387904) :
  Calls Tryz.prog 83 #[.slice (some ⟨blk,off,none⟩) ss.length cap] w fun e w' =>
   e=.returned (.tuple #[])∧∃n os,w'=grow (putRow encStr (Sort.ahead w n) blk off (ss.mergeSort fun x y=>decide (x≤y)).toArray) os:=Any.slices_Sort_string Tryz.lays190 blk off cap ss w hH hblk hsz
def Tryz.laysNm220_ren:Go.Shelf.Ren:=⟨fun|20=>157|n=>n,fun|22=>22|3=>3|4=>4|0=>0|n=>n,fun|n=>n⟩
theorem Tryz.laysNm220:Go.Proofs.Lays2.n20 Tryz.prog Tryz.laysNm220_ren:=by repeat' (first|kernel_rfl|(intro w;kernel_rfl)|(intro w;rfl)|constructor)
open Go.RowKit Go.Lib Go.Sort in
theorem Tryz.slices_Compact_int_empty (a:Option Addr) (cap:Nat) (w:World) :
  Calls Tryz.prog 157 #[.slice a 0 cap] w fun e w'=>e=.returned (.slice a 0 cap)∧w'=w:=Any.slices_Compact_int_empty Tryz.laysNm220 a cap w
def Tryz.lays194_ren:Go.Shelf.Ren:=⟨fun|194=>42|n=>n,fun|31=>43|9=>9|3=>3|4=>4|0=>0|n=>n,fun|n=>n⟩
theorem Tryz.lays194:Go.Proofs.Lays.n194 Tryz.prog Tryz.lays194_ren:=by repeat' (first|kernel_rfl|(intro w;kernel_rfl)|(intro w;rfl)|constructor)
open Go.RowKit Go.Lib Go.Sort in
theorem Tryz.slices_Compact_string (blk off cap:Nat) (zs:List (List UInt8)) (w:World) (hH:Holds encStr w blk off zs.toArray) (hsz:zs.length≤9223372036854775807) (hcap:zs.length≤cap) :
  Calls Tryz.prog 42 #[.slice (some ⟨blk,off,none⟩) zs.length cap] w fun e w'=>e=.returned (.slice (some ⟨blk,off,none⟩) (Lib.compact zs).length cap)∧∃q,w'=putRow encStr (Sort.ahead w q) blk off (Lib.compact zs++List.replicate (zs.length - (Lib.compact zs).length) []).toArray:=Any.slices_Compact_string Tryz.lays194 blk off cap zs w hH hsz hcap
open Go.RowKit Go.Lib Go.Sort in
theorem Tryz.slices_Compact_string_empty (a:Option Addr) (cap:Nat) (w:World) :
  Calls Tryz.prog 42 #[.slice a 0 cap] w fun e w'=>e=.returned (.slice a 0 cap)∧w'=w:=Any.slices_Compact_string_empty Tryz.lays194 a cap w
open Go.RowKit Go.Lib Go.Sort in
theorem Tryz.slices_Compact_int_cells (b off n c:Nat) (zs:List Int) (w:World) (hz:n≤zs.length) (hbig:n≤9223372036854775807) (hcap:n≤c) (hc:∀j,j<zs.length→w.cell? ⟨b,off+j,none⟩=some (.int .i64 (zs.getD j 0))) (hf:∀j,j<n→w.frozen? ⟨b,off+j,none⟩=false) :
  Calls Tryz.prog 157 #[.slice (some ⟨b,off,none⟩) n c] w fun e w'=>e=.returned (.slice (some ⟨b,off,none⟩) (Lib.compact (zs.take n)).length c)∧∃q,w'=(w.drewN q).setCells b off ((Lib.compact (zs.take n)++List.replicate (n - (Lib.compact (zs.take n)).length) 0).map (Value.int .i64)):=Any.slices_Compact_int_cells Tryz.laysNm220 b off n c zs w hz hbig hcap hc hf
open Go.RowKit Go.Sort in
theorem Tryz.slices_Sort_string_none (p:Option Addr) (cap:Nat) (w:World) :
  Calls Tryz.prog 83 #[.slice p 0 cap] w fun e w'=>e=.returned (.tuple #[])∧w'=w:=Any.slices_Sort_string_none Tryz.lays190 p cap w
open Go.RowKit Go.Sort in
theorem Tryz.slices_Sort_int_none (p:Option Addr) (cap:Nat) (w:World) :
  Calls Tryz.prog 156 #[.slice p 0 cap] w fun e w'=>e=.returned (.tuple #[])∧w'=w:=Any.slices_Sort_int_none Tryz.lays189 p cap w
def Tryz.layJoin_ren:Go.Shelf.Ren:=⟨fun|156=>103|165=>140|166=>29|169=>34|240=>77|241=>177|276=>120|277=>207|n=>n,fun|31=>43|9=>9|3=>3|4=>4|0=>0|20=>20|72=>65|76=>68|70=>63|37=>57|75=>67|127=>128|164=>155|5=>5|80=>73|n=>n,fun|n=>n⟩
theorem Tryz.layJoin:Go.Proofs.Lays.n156 Tryz.prog Tryz.layJoin_ren:=by repeat' (first|kernel_rfl|(intro w;kernel_rfl)|(intro w;rfl)|constructor)
def Tryz.laySpl_ren:Go.Shelf.Ren:=⟨fun|146=>114|221=>147|268=>179|138=>180|143=>181|195=>208|197=>209|218=>210|219=>211|260=>234|217=>146|225=>235|224=>236|267=>237|266=>178|314=>244|n=>n,fun|9=>9|31=>43|3=>3|4=>4|0=>0|105=>222|21=>21|5=>5|46=>162|119=>256|139=>259|138=>258|146=>260|51=>194|n=>n,fun|1=>1|3=>6|4=>7|n=>n⟩
theorem Tryz.laySpl:Go.Proofs.Lays.n146 Tryz.prog Tryz.laySpl_ren:=by repeat' (first|kernel_rfl|(intro w;kernel_rfl)|(intro w;rfl)|constructor)
end Go.Proofs
namespace Go.Proofs
open Go.Deep Go.Ab Go.RowKit Go.Lib Go.Sort
theorem Tryz.joinX:Builder.Extra Tryz.prog Tryz.layJoin_ren:=⟨⟨by kernel_rfl,by kernel_rfl⟩,Tryz.underlying5,Tryz.isAgg5,Tryz.sizeOf5,Tryz.zeroValue5,by kernel_rfl,by kernel_rfl,by kernel_rfl,by decide⟩
end Go.Proofs
namespace Go.Ab
open Go.Proofs Go.RowKit
theorem g8y {s t:Str} {y:List Str} (hy:d2o s t=some y):a0o Tryz.prog 114 [.str s,.str t] [] (fun r H=>r=.sl (y.map V.str)∧H=[]):=by
 have h:=c2y Tryz.laySpl (by kernel_rfl) (by kernel_rfl) hy
 exact h
def c29 (xs:List Str) (sep:Str):Option Str:=chk (decide (xs.length≤140737488355328)&&decide ((Lib.join xs sep).length≤140737488355328)) (some (Lib.join xs sep))
theorem g8x {xs:List Str} {sep y:Str} (hy:c29 xs sep=some y):a0o Tryz.prog 103 [.sl (xs.map V.str),.str sep] [] (fun r H=>r=.str y∧H=[]):=by
 unfold c29 chk at hy
 cases hc:(decide (xs.length≤140737488355328)&&decide ((Lib.join xs sep).length≤140737488355328)) with
 | false=>rw [hc] at hy;cases hy
 | true =>
  rw [hc] at hy
  obtain rfl:=Option.some.inj hy
  simp only [Bool.and_eq_true,decide_eq_true_eq] at hc
  obtain ⟨h1,h2⟩:=hc
  refine a1y ⟨.str (Lib.join xs sep),[],[]⟩ (by kernel_rfl) fun g w vals hH hl hv=>?_
  obtain ⟨t,e1,e2,e3⟩:=(hv 1 _ rfl).str_inv
  have hrd:Rd g.S w (vals.getD 0 undef) (.sl (xs.map V.str)):=f8r (hv 0 _ rfl)
  rw [f3c hl,e1]
  generalize vals.getD 0 undef=v0 at hrd
  have fin:∀w':World,Below w.heap.size w w'→∃v g',Ending.returned (.string ⟨(Lib.join xs sep).toArray⟩)=.returned v∧a07 g [] w ⟨.str (Lib.join xs sep),[],[]⟩ g' w'∧a15 [] g g' ⟨[],[]⟩ ⟨.str (Lib.join xs sep),[],[]⟩∧VR g' w' v (.str (Lib.join xs sep)):=fun w' hb =>
   ⟨_,g,rfl,a07.grown _ [] hH.lt hb.os hb.tape hb.output hb.size (fun b h _=>hb.block b h),a15.none _ _,c3c _ (Nat.le_trans h2 (by decide))⟩
  have none_:∀(a:Option Addr) (c:Nat),xs=[]→Calls Tryz.prog 103 #[.slice a 0 c,.string t] w fun en w'=>∃v g',en=.returned v∧a07 g [] w ⟨.str (Lib.join xs sep),[],[]⟩ g' w'∧a15 [] g g' ⟨[],[]⟩ ⟨.str (Lib.join xs sep),[],[]⟩∧VR g' w' v (.str (Lib.join xs sep)):=by
   rintro a c rfl
   refine (Any.strings_Join_none Tryz.layJoin Tryz.joinX a c t w).mono ?_
   rintro en w' ⟨rfl,rfl⟩
   exact fin w' (Below.refl _ _)
  generalize hvs:xs.map V.str=vs at hrd
  cases hrd with
  | nilsl=>exact none_ none 0 (List.map_eq_nil_iff.1 hvs)
  | slz a c=>exact none_ (some a) c (List.map_eq_nil_iff.1 hvs)
  | sl bb oo len cap k cur e fz _ hS hg hln hm hcp hb hk hr =>
   by_cases hz:xs=[]
   ·have:len=0:=by rw [←hln,←hvs,hz];rfl
    subst this
    exact none_ _ cap hz
   ·have hlen:len=xs.length:=by rw [←hln,←hvs,List.length_map]
    have hk1:k=1:=by
     obtain ⟨x,r,rfl⟩:=List.exists_cons_of_ne_nil hz
     have:=(hk (V.str x) (by rw [←hvs];simp)).1
     simpa [V.cells] using this.symm
    subst hk1
    have hpos:0<xs.length:=List.length_pos_iff.2 hz
    have hid:xs.map ((fun b:ByteArray=>b.data.toList)∘fun s:Str=>(⟨s.toArray⟩:ByteArray))=xs:=by
     simp [Function.comp_def]
    have hj:=Any.strings_Join Tryz.layJoin Tryz.joinX bb oo cap (xs.map fun s=>(⟨s.toArray⟩:ByteArray)) t w (fun j x hx=>by
     rw [List.getElem?_map] at hx
     obtain ⟨s,hs,rfl⟩:=Option.map_eq_some_iff.1 hx
     have hjl:j<xs.length:=(List.getElem?_eq_some_iff.1 hs).1
     have h0:=hr j 0 (V.str s) (V.str s) (by rw [←hvs,List.getElem?_map,hs];rfl) rfl
     obtain ⟨q,q1,q2,_⟩:=(VR.rd (g:=g) h0).str_inv
     have hq:q=⟨s.toArray⟩:=by
      apply ByteArray.ext
      apply Array.toList_inj.1
      rw [q2]
     have hlt:oo+j<cur.size:=by omega
     simp only [Nat.mul_one,Nat.add_zero] at q1
     rw [Array.getD_eq_getD_getElem?,Array.getElem?_eq_getElem hlt,Option.getD_some] at q1
     simp only [World.cell?,hg]
     rw [Array.getElem?_eq_getElem hlt,q1,hq];rfl) (by
      have:=(Array.getElem?_eq_some_iff.1 hg).1
      exact this) (by rw [List.length_map];exact h1) (by rw [List.length_map];omega) (by rw [List.map_map,e2,hid];exact h2)
    rw [List.length_map,List.map_map,e2,hid] at hj
    rw [hlen]
    refine Calls.mono hj ?_
    rintro en w' ⟨rfl,hb'⟩
    exact fin w' hb'
theorem g1w {n:Int} {y:Str} (hy:a5l n=some y):a0o Tryz.prog 33 [.int .i64 n] [] (fun r H=>r=.str y∧H=[]):=by
 obtain ⟨hn,rfl⟩:=c9x hy
 have hn':-9223372036854775808≤n∧n≤9223372036854775807:=hn
 refine c6x (by kernel_rfl) fun g w vals hH hl hv=>?_
 rw [e5v hl,(hv 0 _ rfl).int_inv.1]
 have ht:=(hH.tabs w (fun _ _=>rfl)).1 _ List.mem_cons_self (by kernel_rfl)
 refine (Tryz.strconv_Itoa n hn'.1 hn'.2 w ht).mono ?_
 rintro en w' ⟨rfl,k,os,rfl⟩
 exact ⟨_,rfl,fun g w'=>c3c _ (Nat.le_trans (Lib.itoa_length_le n hn'.1 hn'.2) (by decide)),k,os,rfl⟩
theorem g8w {s:Str} {y:Int} (hy:d5v s=some y):a0o Tryz.prog 118 [.str s] [] (fun r H=>r=.tup [.int .i64 y,.any]∧H=[]):=by
 obtain ⟨hlen,rfl⟩:=d1i hy
 refine a1y ⟨.tup [.int .i64 (a4c s),.any],[],[]⟩ (by kernel_rfl) fun g w vals hH hl hv=>?_
 obtain ⟨t,e1,e2,e3⟩:=(hv 0 _ rfl).str_inv
 rw [e5v hl,e1]
 have hts:t.data.toList.length=t.size:=Array.length_toList
 have hsz:t.size≤281474976710656:=by rw [←hts,e2];exact hlen
 have hr:=c0j s
 have fin:∀(w':World) (n:Int) (z:Value),n=a4c s→Below w.heap.size w w'→∃v g',Ending.returned (.tuple #[.int .i64 n,z])=.returned v∧a07 g [] w ⟨.tup [.int .i64 (a4c s),.any],[],[]⟩ g' w'∧a15 [] g g' ⟨[],[]⟩ ⟨.tup [.int .i64 (a4c s),.any],[],[]⟩∧VR g' w' v (.tup [.int .i64 (a4c s),.any]):=by
  rintro w' n z rfl hb
  refine ⟨_,g,rfl,a07.grown _ [] hH.lt hb.os hb.tape hb.output hb.size (fun b h _=>hb.block b h),a15.none _ _,.tup _ _ rfl fun i x hx=>?_⟩
  match i with
  | 0=>simp at hx;subst hx;exact .rd (.int _ _ (a1q.2 hr))
  | 1=>simp at hx;subst hx;exact .any _
  | i+2=>simp at hx
 have htab:=(hH.tabs w (fun _ _=>rfl)).2
 cases h:Lib.atoiAll s with
 | ok v =>
  refine (Tryz.strconv_Atoi_ok t (by omega) v (by rw [e2];exact h) w).mono ?_
  rintro en w' ⟨rfl,hw⟩
  refine fin w' v _ (by simp [a4c,h]) ?_
  rcases hw with rfl|⟨u,rfl⟩
  ·exact Below.refl _ _
  ·exact Go.Joins.below_bytesWorld _ _ _ _ (Nat.le_refl _)
 | range =>
  obtain ⟨tp,p,hvar⟩:=htab "strconv.ErrRange" (by simp [c6d]) (by kernel_rfl)
  refine (Tryz.strconv_Atoi_range_var t hsz (by rw [e2];exact h) tp p w hvar).mono ?_
  rintro en w' ⟨N,rfl,_,_,hb⟩
  exact fin w' _ _ (by simp [a4c,h,e2]) hb
 | _ =>
  obtain ⟨tp,p,hvar⟩:=htab "strconv.ErrSyntax" (by simp [c6d]) (by kernel_rfl)
  refine (Tryz.strconv_Atoi_syntax_var t hsz (by rw [e2,h];intro v hv;cases hv) (by rw [e2,h];intro hv;cases hv) tp p w hvar).mono ?_
  rintro en w' ⟨N,rfl,_,_,hb⟩
  exact fin w' 0 _ (by simp [a4c,h]) hb
theorem g8v {s:Str} {y:Int×Bool} (hy:c0k s=some y):a0o Tryz.prog 118 [.str s] [] (fun r H=>r=.tup [.int .i64 y.1,.ifc y.2]∧H=[]):=by
 obtain ⟨hlen,rfl⟩:=d1j hy
 refine a1y ⟨.tup [.int .i64 (a4c s),.ifc (b0y s)],[],[]⟩ (by kernel_rfl) fun g w vals hH hl hv=>?_
 obtain ⟨t,e1,e2,e3⟩:=(hv 0 _ rfl).str_inv
 rw [e5v hl,e1]
 have hts:t.data.toList.length=t.size:=Array.length_toList
 have hsz:t.size≤281474976710656:=by rw [←hts,e2];exact hlen
 have hr:=c0j s
 have fin:∀(w':World) (n:Int) (z:Value),n=a4c s→VR g w' z (.ifc (b0y s))→Below w.heap.size w w'→∃v g',Ending.returned (.tuple #[.int .i64 n,z])=.returned v∧a07 g [] w ⟨.tup [.int .i64 (a4c s),.ifc (b0y s)],[],[]⟩ g' w'∧a15 [] g g' ⟨[],[]⟩ ⟨.tup [.int .i64 (a4c s),.ifc (b0y s)],[],[]⟩∧VR g' w' v (.tup [.int .i64 (a4c s),.ifc (b0y s)]):=by
  rintro w' n z rfl hz hb
  refine ⟨_,g,rfl,a07.grown _ [] hH.lt hb.os hb.tape hb.output hb.size (fun b h _=>hb.block b h),a15.none _ _,.tup _ _ rfl fun i x hx=>?_⟩
  match i with
  | 0=>simp at hx;subst hx;exact .rd (.int _ _ (a1q.2 hr))
  | 1=>simp at hx;subst hx;exact hz
  | i+2=>simp at hx
 have htab:=(hH.tabs w (fun _ _=>rfl)).2
 cases h:Lib.atoiAll s with
 | ok v =>
  refine (Tryz.strconv_Atoi_ok t (by omega) v (by rw [e2];exact h) w).mono ?_
  rintro en w' ⟨rfl,hw⟩
  refine fin w' v _ (by simp [a4c,h]) (by simp only [b0y,h];exact .rd .ifcn) ?_
  rcases hw with rfl|⟨u,rfl⟩
  ·exact Below.refl _ _
  ·exact Go.Joins.below_bytesWorld _ _ _ _ (Nat.le_refl _)
 | range =>
  obtain ⟨tp,p,hvar⟩:=htab "strconv.ErrRange" (by simp [c6d]) (by kernel_rfl)
  refine (Tryz.strconv_Atoi_range_var t hsz (by rw [e2];exact h) tp p w hvar).mono ?_
  rintro en w' ⟨N,rfl,_,_,hb⟩
  exact fin w' _ _ (by simp [a4c,h,e2]) (by simp only [b0y,h];exact .rd (.ifcs _ _)) hb
 | _ =>
  obtain ⟨tp,p,hvar⟩:=htab "strconv.ErrSyntax" (by simp [c6d]) (by kernel_rfl)
  refine (Tryz.strconv_Atoi_syntax_var t hsz (by rw [e2,h];intro v hv;cases hv) (by rw [e2,h];intro hv;cases hv) tp p w hvar).mono ?_
  rintro en w' ⟨N,rfl,_,_,hb⟩
  exact fin w' 0 _ (by simp [a4c,h]) (by simp only [b0y,h];exact .rd (.ifcs _ _)) hb
set_option maxRecDepth 20000
theorem e2t (b:Nat) (w:World) (h0:w.cell? ⟨b,0,none⟩=some (.pointer (some ⟨b,0,none⟩))) :
  Calls Tryz.prog 77 #[.pointer (some ⟨b,0,none⟩)] w fun e w'=>e=.returned (.tuple #[])∧w'=w:=by
 obtain ⟨j,hj,hjs⟩:=Option.map_eq_some_iff.1 (show (Tryz.prog.info? 65).map (·.size)=some 2 by kernel_rfl)
 go_enter Tryz.func77,Tryz.ntmps77
 go_wp2
 rw [Lib.run_neq_ptr_same w _ Tryz.underlying63 hj]
 go_wp2
 go_end0
 exact ⟨rfl,rfl⟩
theorem d5o (b:Nat) (w:World) (h0:w.cell? ⟨b,0,none⟩=some (.pointer none)) (hsh:w.shape? b=some (65,2)) (hfz:w.frozen? ⟨b,0,none⟩=false) :
  Calls Tryz.prog 77 #[.pointer (some ⟨b,0,none⟩)] w fun e w'=>e=.returned (.tuple #[])∧w'=w.setCell ⟨b,0,none⟩ (.pointer (some ⟨b,0,none⟩)):=by
 obtain ⟨j,hj,hjs⟩:=Option.map_eq_some_iff.1 (show (Tryz.prog.info? 65).map (·.size)=some 2 by kernel_rfl)
 go_enter Tryz.func77,Tryz.ntmps77
 go_wp2
 rw [Lib.run_to_unsafe w ⟨b,0,none⟩ Tryz.underlying63 Tryz.underlying155 hj (by rw [hjs];decide) hsh (Nat.zero_lt_succ 1)]
 simp only [Result.andThen]
 rw [Oper.upon_value]
 go_wp2
 rw [run_callFunc_extern Tryz.func120 (by kernel_rfl) (by kernel_rfl) (by kernel_rfl) (e:=Extern.AbiNoEscape.same) (by kernel_rfl)]
 rw [Lib.run_noEscape]
 simp only [Result.andThen]
 rw [Oper.upon_value]
 go_wp2
 rw [Lib.run_from_unsafe w ⟨b,0,none⟩ Tryz.underlying155 Tryz.underlying63 hj hsh (by kernel_rfl)]
 simp only [Result.andThen]
 rw [Oper.upon_value]
 go_wp2
 go_end0
 exact ⟨rfl,rfl⟩
theorem c2p (x:V):a0o Tryz.prog 77 [.ptr 1000 0] [(1000,.cells [.bptr 1000,x] (some 65))]
  (fun r H=>r=.tup []∧H=[(1000,.cells [.bptr 1000,x] (some 65))]):=by
 refine a1y ⟨.tup [],[],[(1000,.cells [.bptr 1000,x] (some 65))]⟩ (by kernel_rfl) fun g w vals hH hl hv=>?_
 rw [e5v hl]
 have h0:=(hv 0 _ rfl).ptr_inv
 rw [h0]
 obtain ⟨hn,cur,e,fz,h1,h2,⟨h3,h4⟩,h5⟩:=hH.obj 1000 _ rfl
 have h4:e=65:=by simpa [c1b,d8f] using h4
 subst h4
 simp only [List.length_cons,List.length_nil,Nat.zero_add,Nat.reduceAdd] at h2
 have hc0:w.cell? ⟨g.ρ 1000,0,none⟩=some (cur.getD 0 undef):=by
  simp [World.cell?,h1,Array.getD_eq_getD_getElem?,h2]
 have hp0:=h5 0 _ rfl
 rcases hp0.bptr_inv with hv0|hv0
 ·rw [hv0] at hc0
  refine (d5o (g.ρ 1000) w hc0 (by simp [World.shape?,h1,h2]) ?_).mono ?_
  ·have:=h3.at (i:=0) (by omega)
   simp only [World.frozen?,h1]
   exact this
  rintro en w' ⟨rfl,rfl⟩
  have hlt:g.ρ 1000<w.heap.size:=(Array.getElem?_eq_some_iff.1 h1).1
  have hother:∀b,b≠g.ρ 1000→(w.setCell ⟨g.ρ 1000,0,none⟩ (.pointer (some ⟨g.ρ 1000,0,none⟩))).heap[b]?=w.heap[b]?:=by
   intro b hb
   simp only [World.setCell,Array.getElem?_modify]
   rw [if_neg fun e=>hb e.symm]
  have hkeep:a2d g.S w (w.setCell ⟨g.ρ 1000,0,none⟩ (.pointer (some ⟨g.ρ 1000,0,none⟩))):=a2d.upd hH (n:=1000) rfl hn hother
  refine ⟨_,g,rfl,a07.upd _ 1000 _ _ hH rfl hn rfl rfl rfl (by simp [World.setCell]) hother ?_,a15.upd _,.tup _ _ rfl fun i x hx=>by simp at hx⟩
  refine ⟨hn,cur.setIfInBounds 0 (.pointer (some ⟨g.ρ 1000,0,none⟩)),_,fz,?_,by simp [h2],⟨by simpa using h3,rfl⟩,fun i c hc=>?_⟩
  ·simp [World.setCell,Array.getElem?_modify,h1]
  ·match i with
   | 0=>simp at hc;subst hc;simp [Array.getD_eq_getD_getElem?,h2];exact .bself 1000
   | 1 =>
    simp at hc;subst hc
    have:=(h5 1 x rfl).mono (g':=g) hkeep (fun _ h=>h) fun id _=>Gh.agree.refl _ _
    have e1:(cur.setIfInBounds 0 (.pointer (some ⟨g.ρ 1000,0,none⟩))).getD 1 undef=cur.getD 1 undef:=by
     simp [Array.getD_eq_getD_getElem?,Array.getElem?_setIfInBounds]
    rw [e1];exact this
   | i+2=>simp at hc
 ·rw [hv0] at hc0
  refine (e2t (g.ρ 1000) w hc0).mono ?_
  rintro en w' ⟨rfl,rfl⟩
  refine ⟨_,g,rfl,a07.upd _ 1000 _ _ hH rfl hn rfl rfl rfl rfl (fun _ _=>rfl) (hH.obj 1000 _ rfl),a15.upd _,.tup _ _ rfl fun i x hx=>by simp at hx⟩
def a2f:MC :=
 (.seq (.reg [⟨.mv (.c (.int .i64 0)),(some 4),none⟩,
 ⟨.mv (.c .nili),(some 5),none⟩])
 (.seq (.reg [⟨.mv (.t 0),(some 6),none⟩,
 ⟨.call (.f 77) [(.t 6)] [1000] [],(some 7),none⟩])
 (.seq (.reg [⟨.mv (.t 0),(some 8),none⟩,
 ⟨.mv (.t 0),(some 9),none⟩,
 ⟨.nck (.t 9),(some 10),none⟩,
 ⟨.fad 1 (.t 10),(some 11),none⟩,
 ⟨.ld none (.t 11),(some 12),none⟩,
 ⟨.mv (.t 1),(some 13),none⟩,
 ⟨.app 1 1 (.t 12) (.t 13) (some 5),(some 14),none⟩,
 ⟨.nck (.t 8),(some 15),none⟩,
 ⟨.fad 1 (.t 15),(some 16),none⟩,
 ⟨.st 1 (.t 16) (.t 14),none,none⟩])
 (.seq (.note (.ren 14 1002) (.reg [⟨.mv (.t 1),(some 17),none⟩,
 ⟨.len true (.t 17),(some 18),none⟩,
 ⟨.mv (.t 18),(some 4),none⟩,
 ⟨.mv (.c .nili),(some 5),none⟩]))
 .ret))))
theorem a3r:a2f.ok Tryz.prog Tryz.f29.ntmps (Tryz.f29.body.getD .skip)=true:=by kernel_rfl
theorem b8c {bs s:List UInt8} (hlen:bs.length+s.length≤140737488355328):a0o Tryz.prog 29 [.ptr 1000 0,.str s]
  [(1000,.cells [.bptr 1000,.osl 1001 1 0 bs.length] (some 65)),(1001,.arr 1 (bs.map a0r) (some 5))]
  (fun r H=>r=.tup [.int .i64 s.length,.nili]∧H=[(1000,.cells [.bptr 1000,.osl 1002 1 0 (bs.length+s.length)] (some 65)),(1002,.arr 1 ((bs++s).map a0r) (some 5))]):=by
 refine c6v [1000,1002] [.t 4,.t 5] Tryz.func29 rfl (by kernel_rfl) (by kernel_rfl) a3r (by kernel_rfl) rfl rfl fun M hf=>?_
 unfold a2f
 simp only [go_sem,Nat.reduceBEq,Nat.reduceAdd,Nat.reduceLeDiff,Nat.reduceSub]
 refine c3l (c2p _) rfl rfl ?_
 rw [M.lok_eq]
 simp only [go_sem,Nat.reduceBEq,Nat.reduceAdd,Nat.reduceLeDiff,Nat.reduceSub]
 exact ⟨by omega,by omega⟩
theorem e2z (b g o cap:Nat) (p:Value) (cur:Array Value) (fz:Nat×Nat) (l:List UInt8) (w:World) (T:TypeId) (fb:Nat×Nat) (hbk:w.heap[b]?=some (.cells #[p,.slice (some ⟨g,o,none⟩) l.length cap] T fb)) (hg:w.heap[g]?=some (.cells cur 5 fz)) (h0:l≠[])
  (hcap:l.length≤cap) (hn:o+l.length≤cur.size) (h63:l.length≤9223372036854775807) (hcell:∀j x,l[j]?=some x→w.cell? ((⟨g,o,none⟩:Addr).add j)=some (.int .u8 x.toNat)) :
  Calls Tryz.prog 34 #[.pointer (some ⟨b,0,none⟩)] w fun e w'=>e=.returned (.string ⟨l.toArray⟩)∧w'=w.drew.freeze ⟨g,o,none⟩ l.length:=by
 have hl0:l.length≠0:=by simpa using h0
 have c1:w.drew.cell? ⟨b,1,none⟩=some (.slice (some ⟨g,o,none⟩) l.length cap):=by
  have:w.drew.heap[b]?=some (.cells #[p,.slice (some ⟨g,o,none⟩) l.length cap] T fb):=hbk
  simp [World.cell?,this]
 have hSD:(Builtin.unsafeSliceData_ #[57] 128 #[.slice (some ⟨g,o,none⟩) l.length cap]).run Tryz.prog w.drew=.ok (.pointer (some ⟨g,o,none⟩)) w.drew :=
  Lib.run_unsafeSliceData_row _ _ _ _ _ _ (by omega)
 have hUS:(Builtin.unsafeString_ #[128,3] 9 #[.pointer (some ⟨g,o,none⟩),.int .i64 l.length]).run Tryz.prog w.drew=.ok (.string ⟨l.toArray⟩) (w.drew.freeze ⟨g,o,none⟩ l.length):=by
  refine a98 w.drew 128 3 9 5 Tryz.underlying128 (by kernel_rfl) g o cur.size (by have hg':w.drew.heap[g]?=some (.cells cur 5 fz):=hg;simp [World.shape?,hg']) l h0 hn h63 hcell
 clear hcell hn h63 h0
 have mixed:Tryz.prog.follows .mixedOrders=true:=by kernel_rfl
 go_enter Tryz.func34,Tryz.ntmps34
 go_wp2
 go_region_o
 all_goals (go_wp2;go_ret;exact ⟨rfl,rfl⟩)
theorem f2h (b:Nat) (p:Value) (w:World) (T:TypeId) (fb:Nat×Nat) (hbk:w.heap[b]?=some (.cells #[p,.slice none 0 0] T fb)) :
  Calls Tryz.prog 34 #[.pointer (some ⟨b,0,none⟩)] w fun e w'=>e=.returned (.string ⟨#[]⟩)∧w'=w.drew:=by
 have hUS:∀(W:World) (q:Option Addr),(Builtin.unsafeString_ #[128,3] 9 #[.pointer q,.int .i64 0]).run Tryz.prog W=.ok (.string .empty) W:=fun W q=>Lib.run_unsafeString_none W _ _ _ q
 have c1:w.drew.cell? ⟨b,1,none⟩=some (.slice none 0 0):=by
  have:w.drew.heap[b]?=some (.cells #[p,.slice none 0 0] T fb):=hbk
  simp [World.cell?,this]
 have hSD:(Builtin.unsafeSliceData_ #[57] 128 #[.slice none 0 0]).run Tryz.prog w.drew=.ok (.pointer none) w.drew:=rfl
 have mixed:Tryz.prog.follows .mixedOrders=true:=by kernel_rfl
 go_enter Tryz.func34,Tryz.ntmps34
 go_wp2
 go_region_o
 all_goals (go_wp2;go_ret;exact ⟨rfl,rfl⟩)
theorem e3a (b g o cap:Nat) (p:Value) (w:World) (T:TypeId) (fb:Nat×Nat) (hc0:cap≠0) (hbk:w.heap[b]?=some (.cells #[p,.slice (some ⟨g,o,none⟩) 0 cap] T fb)) :
  Calls Tryz.prog 34 #[.pointer (some ⟨b,0,none⟩)] w fun e w'=>e=.returned (.string ⟨#[]⟩)∧w'=w.drew:=by
 have hUS:∀(W:World) (q:Option Addr),(Builtin.unsafeString_ #[128,3] 9 #[.pointer q,.int .i64 0]).run Tryz.prog W=.ok (.string .empty) W:=fun W q=>Lib.run_unsafeString_none W _ _ _ q
 have c1:w.drew.cell? ⟨b,1,none⟩=some (.slice (some ⟨g,o,none⟩) 0 cap):=by
  have:w.drew.heap[b]?=some (.cells #[p,.slice (some ⟨g,o,none⟩) 0 cap] T fb):=hbk
  simp [World.cell?,this]
 have hSD:(Builtin.unsafeSliceData_ #[57] 128 #[.slice (some ⟨g,o,none⟩) 0 cap]).run Tryz.prog w.drew=.ok (.pointer (some ⟨g,o,none⟩)) w.drew :=
  Lib.run_unsafeSliceData_row _ _ _ _ _ _ hc0
 clear hc0
 have mixed:Tryz.prog.follows .mixedOrders=true:=by kernel_rfl
 go_enter Tryz.func34,Tryz.ntmps34
 go_wp2
 go_region_o
 all_goals (go_wp2;go_ret;exact ⟨rfl,rfl⟩)
theorem d1e (b g o:Nat) (p:Value) (w:World) (T:TypeId) (fb fz:Nat×Nat) (cur:Array Value) (e:TypeId) (hg:w.heap[g]?=some (.cells cur e fz)) (hbk:w.heap[b]?=some (.cells #[p,.slice (some ⟨g,o,none⟩) 0 0] T fb)) :
  Calls Tryz.prog 34 #[.pointer (some ⟨b,0,none⟩)] w fun e w'=>e=.returned (.string ⟨#[]⟩)∧w'=w.drew.alloc (.view ⟨g,o,none⟩ 5):=by
 have hUS:∀(W:World) (q:Option Addr),(Builtin.unsafeString_ #[128,3] 9 #[.pointer q,.int .i64 0]).run Tryz.prog W=.ok (.string .empty) W:=fun W q=>Lib.run_unsafeString_none W _ _ _ q
 have hlt:b<w.heap.size:=(Array.getElem?_eq_some_iff.1 hbk).1
 have c1:w.drew.cell? ⟨b,1,none⟩=some (.slice (some ⟨g,o,none⟩) 0 0):=by
  have:w.drew.heap[b]?=some (.cells #[p,.slice (some ⟨g,o,none⟩) 0 0] T fb):=hbk
  simp [World.cell?,this]
 have hSD:(Builtin.unsafeSliceData_ #[57] 128 #[.slice (some ⟨g,o,none⟩) 0 0]).run Tryz.prog w.drew=.ok (.pointer (some ⟨w.drew.heap.size,0,none⟩)) (w.drew.alloc (.view ⟨g,o,none⟩ 5)) :=
  Lib.run_unsafeSliceData_zero w.drew _ _ 5 Tryz.underlying128 ⟨g,o,none⟩ 0 (e,cur.size) (by have hg':w.drew.heap[g]?=some (.cells cur e fz):=hg;simp [World.shape?,hg'])
 have c2:(w.drew.alloc (.view ⟨g,o,none⟩ 5)).cell? ⟨b,1,none⟩=some (.slice (some ⟨g,o,none⟩) 0 0):=by
  have:(w.drew.alloc (.view ⟨g,o,none⟩ 5)).heap[b]?=some (.cells #[p,.slice (some ⟨g,o,none⟩) 0 0] T fb):=by
   simp only [World.alloc,World.drew]
   rw [Array.getElem?_push,if_neg (by omega)];exact hbk
  simp [World.cell?,this]
 have c0:w.cell? ⟨b,1,none⟩=some (.slice (some ⟨g,o,none⟩) 0 0):=by simp [World.cell?,hbk]
 clear hbk hg
 have mixed:Tryz.prog.follows .mixedOrders=true:=by kernel_rfl
 go_enter Tryz.func34,Tryz.ntmps34
 go_wp2
 go_region_o
 all_goals (go_wp2;go_ret;exact ⟨rfl,rfl⟩)
theorem d5q {p:V} {bs:List UInt8}:a0o Tryz.prog 34 [.ptr 1000 0]
  [(1000,.cells [p,.osl 1001 1 0 bs.length] (some 65)),(1001,.arr 1 (bs.map a0r) (some 5))] (fun r H=>r=.str bs∧H=[]):=by
 refine a1y ⟨.str bs,[1000,1001],[]⟩ (by kernel_rfl) fun g w vals hH hl hv=>?_
 rw [e5v hl,(hv 0 _ rfl).ptr_inv]
 obtain ⟨hn,cur,e,fz,h1,h2,⟨h3,h4⟩,h5⟩:=hH.obj 1000 _ rfl
 simp only [List.length_cons,List.length_nil,Nat.zero_add,Nat.reduceAdd] at h2
 have hcur:cur=#[cur.getD 0 undef,cur.getD 1 undef]:=g5i h2
 have hv1:=h5 1 _ rfl
 rw [hcur] at h1
 have hrow:=hH.obj 1001 _ rfl
 have hlen:∀rb:Nat,rb=rb→True:=fun _ _=>trivial
 have fin:∀(en:Ending) (w':World),(en=.returned (.string ⟨bs.toArray⟩)∧(w'=w.drew∨(∃a t,w'=w.drew.alloc (.view a t))∨∃o n,¬g.nil 1001∧w'=w.drew.freeze ⟨g.ρ 1001,o,none⟩ n))→bs.length≤9223372036854775807 →
   ∃v g',en=.returned v∧a07 g [(1000,.cells [p,.osl 1001 1 0 bs.length] (some 65)),(1001,.arr 1 (bs.map a0r) (some 5))] w ⟨.str bs,[1000,1001],[]⟩ g' w' ∧
    a15 [(1000,.cells [p,.osl 1001 1 0 bs.length] (some 65)),(1001,.arr 1 (bs.map a0r) (some 5))] g g' ⟨[],[(1000,.cells [p,.osl 1001 1 0 bs.length] (some 65)),(1001,.arr 1 (bs.map a0r) (some 5))]⟩ ⟨.str bs,[1000,1001],[]⟩∧VR g' w' v (.str bs):=by
  rintro en w' ⟨rfl,hw⟩ hb
  refine ⟨_,g,rfl,?_,a15.none _ _,c3c bs hb⟩
  rcases hw with rfl|⟨a,t,rfl⟩|⟨o,n,hnn,rfl⟩
  ·exact a07.grown _ _ hH.lt rfl rfl rfl (Nat.le_refl _) fun _ _ _=>rfl
  ·refine a07.grown _ _ hH.lt rfl rfl rfl (by show w.heap.size≤(w.heap.push _).size;simp) fun b hb _=>?_
   simp only [World.alloc,World.drew]
   rw [Array.getElem?_push,if_neg (by omega)]
  ·unfold World.freeze
   split
   ·exact a07.grown _ _ hH.lt rfl rfl rfl (Nat.le_refl _) fun _ _ _=>rfl
   ·refine a07.grown _ _ hH.lt rfl rfl rfl (by show w.heap.size≤(w.heap.modify _ _).size;simp) fun b hb hne=>?_
    have:=hne 1001 _ (by simp) rfl hnn
    simp only [World.drew,Array.getElem?_modify]
    rw [if_neg this]
 rcases hv1.osl_inv with ⟨hnil,ev,hn0⟩|⟨hnn,o',cc,ev,ho',hcap,hlc,hm⟩
 ·rw [ev] at h1
  have hb0:bs=[]:=List.eq_nil_of_length_eq_zero hn0
  subst hb0
  exact (f2h (g.ρ 1000) _ w e fz h1).mono fun en w' ⟨h6,h7⟩=>fin en w' ⟨h6,.inl h7⟩ (by simp)
 ·rcases hrow with ⟨hnil,_⟩|⟨_,hp,⟨rc,re,rf,k1,k2,⟨k3,k4⟩,k5⟩,k6,k7,k8⟩
  ·exact absurd hnil hnn
  have k4:re=5:=by simpa [c1b,d8f] using k4
  subst k4
  rw [ev] at h1
  by_cases hb0:bs=[]
  ·subst hb0
   by_cases hc0:cc=0
   ·subst hc0
    exact (d1e (g.ρ 1000) (g.ρ 1001) o' _ w e fz rf rc _ k1 h1).mono fun en w' ⟨h6,h7⟩=>fin en w' ⟨h6,.inr (.inl ⟨_,_,h7⟩)⟩ (by simp)
   ·exact (e3a (g.ρ 1000) (g.ρ 1001) o' cc _ w e fz hc0 h1).mono fun en w' ⟨h6,h7⟩=>fin en w' ⟨h6,.inl h7⟩ (by simp)
  ·have hbl:bs.length≠0:=by simpa using hb0
   have ho:o'=g.base 1001:=by
    rcases ho' with h|h
    ·omega
    ·simpa using h
   have h63:bs.length≤9223372036854775807:=a7x (by omega)
   refine (e2z (g.ρ 1000) (g.ρ 1001) o' cc _ rc rf bs w e fz h1 k1 hb0 hlc (by simp at k6;rw [k2,ho];omega) h63 ?_).mono fun en w' ⟨h6,h7⟩=>fin en w' ⟨h6,.inr (.inr ⟨_,_,hnn,h7⟩)⟩ h63
   intro j x hx
   have hrd:=k5 j 0 (a0r x) (a0r x) (by simp [hx]) rfl
   simp only [Nat.mul_one,Nat.add_zero] at hrd
   have hlt:g.base 1001+j<rc.size:=by
    have:=(List.getElem?_eq_some_iff.1 hx).1
    simp at k6;rw [k2];omega
   have hc:rc[g.base 1001+j]?=some (.int .u8 x.toNat):=by
    have h8:rc.getD (g.base 1001+j) undef=.int .u8 x.toNat:=by
     generalize rc.getD (g.base 1001+j) undef=u at hrd
     cases hrd;rfl
    rw [←h8];simp [Array.getD_eq_getD_getElem?,hlt]
   rw [Addr.add_lit]
   simp only [World.cell?,k1,ho,hc]
   rfl
theorem e5w {bs s y:Str} (hy:bws bs s=some y):a0o Tryz.prog 29 [.ptr 1000 0,.str s] [(1000,.cells [.bptr 1000,.osl 1001 1 0 bs.length] (some 65)),(1001,.arr 1 (bs.map a0r) (some 5))]
  (fun r H=>r=.tup [.int .i64 s.length,.nili]∧H=[(1000,.cells [.bptr 1000,.osl 1002 1 0 y.length] (some 65)),(1002,.arr 1 (y.map a0r) (some 5))]):=by
 obtain ⟨h,rfl⟩:=e2y hy
 rw [List.length_append]
 exact b8c h
theorem g4d {bs y:Str} (hy:e5u bs=some y):a0o Tryz.prog 34 [.ptr 1000 0] [(1000,.cells [.bptr 1000,.osl 1001 1 0 bs.length] (some 65)),(1001,.arr 1 (bs.map a0r) (some 5))] (fun r H=>r=.str y∧H=[]):=by
 cases hy
 exact d5q
theorem g4c {xs ys:List Int} (hy:b40 xs=some ys):a0o Tryz.prog 156 [.osl 1000 1 0 xs.length] [(1000,.arr 1 (xs.map (V.int .i64)))] (fun r H'=>r=.tup []∧H'=[(1000,.arr 1 (ys.map (V.int .i64)))]) :=
 c0s (by kernel_rfl) (fun blk off cap zs w h1 h2 h3=>Tryz.slices_Sort_int blk off cap zs w h1 h2 h3) (fun p cap w=>Tryz.slices_Sort_int_none p cap w) hy
theorem g4b {xs:List Int} {y:Nat×List Int} (hy:a5u xs=some y):a0o Tryz.prog 157 [.osl 1000 1 0 xs.length] [(1000,.arr 1 (xs.map (V.int .i64)))] (fun r H'=>r=.osl 1000 1 0 y.1∧H'=[(1000,.arr 1 (y.2.map (V.int .i64)))]) :=
 b5f (by kernel_rfl) (fun b off n c zs w h1 h2 h3 h4 h5=>Tryz.slices_Compact_int_cells b off n c zs w h1 h2 h3 h4 h5) (fun p cap w=>Tryz.slices_Compact_int_empty p cap w) hy
theorem g8u {xs ys:List Str} (hy:c1f xs=some ys):a0o Tryz.prog 83 [.osl 1000 1 0 xs.length] [(1000,.arr 1 (xs.map V.str))] (fun r H'=>r=.tup []∧H'=[(1000,.arr 1 (ys.map V.str))]) :=
 c2z (by kernel_rfl) (fun blk off cap zs w h1 h2 h3=>Tryz.slices_Sort_string blk off cap zs w h1 h2 h3) (fun p cap w=>Tryz.slices_Sort_string_none p cap w) hy
theorem g8t {xs:List Str} {y:Nat×List Str} (hy:a4u xs=some y):a0o Tryz.prog 42 [.osl 1000 1 0 xs.length] [(1000,.arr 1 (xs.map V.str))] (fun r H'=>r=.osl 1000 1 0 y.1∧H'=[(1000,.arr 1 (y.2.map V.str))]) :=
 b5t (by kernel_rfl) (fun blk off cap zs w h1 h2 h3=>Tryz.slices_Compact_string blk off cap zs w h1 h2 h3) (fun p cap w=>Tryz.slices_Compact_string_empty p cap w) hy
instance f6g {s t:Str}:WI (d2o s t) Tryz.prog 114 [.str s,.str t] [] (fun y=>.sl (y.map V.str)) (fun y=>[]):=⟨fun Q Q' h hQ=>by obtain ⟨y,hy,hq⟩:=h;exact (g8y hy).mono fun r H' e=>by rw [e.1,e.2];exact hQ y hq⟩
instance g1t {xs:List Str} {sep:Str}:WI (c29 xs sep) Tryz.prog 103 [.sl (xs.map V.str),.str sep] [] (fun y=>.str y) (fun y=>[]):=⟨fun Q Q' h hQ=>by obtain ⟨y,hy,hq⟩:=h;exact (g8x hy).mono fun r H' e=>by rw [e.1,e.2];exact hQ y hq⟩
instance g1u {n:Int}:WI (a5l n) Tryz.prog 33 [.int .i64 n] [] (fun y=>.str y) (fun y=>[]):=⟨fun Q Q' h hQ=>by obtain ⟨y,hy,hq⟩:=h;exact (g1w hy).mono fun r H' e=>by rw [e.1,e.2];exact hQ y hq⟩
instance g1v {s:Str}:WI (d5v s) Tryz.prog 118 [.str s] [] (fun y=>.tup [.int .i64 y,.any]) (fun y=>[]):=⟨fun Q Q' h hQ=>by obtain ⟨y,hy,hq⟩:=h;exact (g8w hy).mono fun r H' e=>by rw [e.1,e.2];exact hQ y hq⟩
instance f6i {s:Str}:WI (c0k s) Tryz.prog 118 [.str s] [] (fun y=>.tup [.int .i64 y.1,.ifc y.2]) (fun y=>[]):=⟨fun Q Q' h hQ=>by obtain ⟨y,hy,hq⟩:=h;exact (g8v hy).mono fun r H' e=>by rw [e.1,e.2];exact hQ y hq⟩
end Go.Ab