/- Shelf Shelf2 Shelf3 -/
import Derived.Test.YthjekgfoidmagaaGreatDoorProg
import Derived.Shelf.Strings.Trim
import Derived.Shelf.Small.Utf8
import Derived.Shelf.Small.Bits
import Derived.Shelf.Small.Wraps
import Derived.Shelf.Strconv.Itoa3
import Derived.Shelf.Strconv.ErrVarAll
import Derived.Shelf.Pu.ErrVarParseUint
import Derived.Shelf.Strings.Shaped
import Derived.Shelf.Sort.Plain
import Derived.Shelf.Strings.SplitShaped
import Derived.Shelf.Strings.Runes
import Derived.Shelf.Strings.AsciiSet
import Derived.Shelf.Strings.Repeat
import Derived.Shelf.Unicode.DecodeSlow
import Derived.Shelf.Strings.BuilderCap
import Derived.Shelf.Slices.Turned
import Derived.Shelf.Slices.Cells
import Derived.Shelf.Slices.In.SortNone
import Derived.Shelf.Slices.Empties2
set_option maxHeartbeats 16000000
set_option maxRecDepth 100000
section
namespace Go.Proofs
open Tryz
open Go.Shelf
def lays169_ren:Go.Shelf.Ren:=⟨fun|169=>114|n=>n,fun|70=>130|9=>9|0=>0|72=>132|37=>104|127=>184|3=>3|5=>5|n=>n,fun|n=>n⟩
theorem lays169:Go.Proofs.Lays.n169 prog lays169_ren:=by iterate 4 all_goals first|kernel_rfl|(intro _;kernel_rfl)|constructor|decide
theorem Builder_Extra_169:Builder.Extra prog lays169_ren:=by iterate 4 all_goals first|kernel_rfl|(intro _;kernel_rfl)|constructor|decide
open Go.RowKit in
theorem Builder_String_any(B b:Nat)(l:List UInt8)(w:World)(h:Lib.IsBuilder 132 5 B b (Lib.byteCells l) w)(hBw:B<=w.heap.size):
  Calls prog 114 #[.pointer (some ⟨b,0,none⟩)] w fun e w'=>e=.returned (.string ⟨l.toArray⟩)/\Below B w w':=Any.Builder_String_any lays169 Builder_Extra_169 B b l w h hBw
def lays161_ren:Go.Shelf.Ren:=⟨fun|161=>281|231=>209|227=>211|233=>212|235=>214|228=>259|197=>252|151=>260|260=>290|152=>297|137=>312|119=>313|224=>202|225=>201|217=>200|266=>254|n=>n,fun|9=>9|4=>4|3=>3|5=>5|117=>212|116=>211|0=>0|124=>215|105=>252|21=>21|119=>295|46=>129|139=>298|138=>297|n=>n,fun|3=>4|4=>5|n=>n⟩
theorem lays161:Go.Proofs.Lays.n161 prog lays161_ren:=by iterate 4 all_goals first|kernel_rfl|(intro _;kernel_rfl)|constructor|decide
open Go.RowKit in
theorem strings_TrimLeft_one(s:ByteArray)(c:UInt8)(hc:c.toNat<128)(w:World):
  Calls prog 281 #[.string s,.string ⟨#[c]⟩] w fun e w'=>e=.returned (.string ⟨(Lib.trimLeftB s.data.toList c).toArray⟩)/\w'=w:=Any.strings_TrimLeft_one lays161 s c hc w
def lays160_ren:Go.Shelf.Ren:=⟨fun|160=>144|232=>210|231=>209|227=>211|234=>213|233=>212|236=>215|235=>214|228=>259|271=>261|151=>260|197=>252|120=>298|152=>297|260=>290|137=>312|119=>313|224=>202|225=>201|217=>200|266=>254|n=>n,fun|9=>9|4=>4|3=>3|5=>5|117=>212|116=>211|0=>0|124=>215|21=>21|105=>252|46=>129|119=>295|139=>298|138=>297|n=>n,fun|3=>4|4=>5|n=>n⟩
theorem lays160:Go.Proofs.Lays.n160 prog lays160_ren:=by iterate 4 all_goals first|kernel_rfl|(intro _;kernel_rfl)|constructor|decide
def lays103_ren:Go.Shelf.Ren:=⟨fun|103=>280|210=>306|206=>244|n=>n,fun|9=>9|4=>4|24=>188|3=>3|n=>n,fun|n=>n⟩
theorem lays103:Go.Proofs.Lays.n103 prog lays103_ren:=by iterate 4 all_goals first|kernel_rfl|(intro _;kernel_rfl)|constructor|decide
open Go.RowKit in
theorem strings_CutPrefix(s p:ByteArray)(w:World):
  Calls prog 280 #[.string s,.string p] w fun e w'=>e=.returned (.tuple #[.string ⟨(Lib.trimPrefix s.data.toList p.data.toList).toArray⟩,.bool (Lib.hasPrefix s.data.toList p.data.toList)])/\w'=w:=Any.strings_CutPrefix lays103 s p w
def lays283_ren:Go.Shelf.Ren:=⟨fun|283=>236|n=>n,fun|3=>3|9=>9|4=>4|n=>n,fun|n=>n⟩
theorem lays283:Go.Proofs.Lays.n283 prog lays283_ren:=by iterate 4 all_goals first|kernel_rfl|(intro _;kernel_rfl)|constructor|decide
open Go.Lib in
theorem internal_strconv_small(i:Nat)(h:i<100)(w:World):
  Calls prog 236 #[.int .i64 i] w fun e w'=>e=.returned (.string ⟨(Lib.decDigits i).toArray⟩)/\w'=w:=Any.internal_strconv_small lays283 i h w
def laysM284_ren:Go.Shelf.Ren:=⟨fun|284=>237|129=>172|317=>276|318=>277|n=>n,fun|53=>182|3=>3|212=>275|0=>0|4=>4|46=>129|5=>5|9=>9|n=>n,fun|17=>1|n=>n⟩
theorem laysM284:Go.Proofs.LaysM.n284 prog laysM284_ren:=by iterate 4 all_goals first|kernel_rfl|(intro _;kernel_rfl)|constructor|decide
open Go.Lib in
theorem internal_strconv_numDigits (u : Nat) (h1 : 1 ≤ u) (h2 : u < 18446744073709551616) (w : World) (htab : Lib.TabIs prog w "internal/strconv.uint64pow10" .u64 Lib.pow10Tab) :
  Calls prog 237 #[.int .u64 u] w fun e w'=>e=.returned (.int .i64 (Lib.nDigits u))/\w'=w:=Any.internal_strconv_numDigits laysM284 u h1 h2 w htab
def lays285_ren:Go.Shelf.Ren:=⟨fun|285=>238|n=>n,fun|37=>104|53=>182|3=>3|4=>4|51=>180|9=>9|5=>5|0=>0|n=>n,fun|n=>n⟩
theorem lays285:Go.Proofs.Lays.n285 prog lays285_ren:=by iterate 4 all_goals first|kernel_rfl|(intro _;kernel_rfl)|constructor|decide
open Go.RowKit Go.Sort Go.Lib in
theorem internal_strconv_formatBase10(blk off cap:Nat)(u:Nat)(d:Array UInt8)(w:World)(hH:Holds (fun (b:UInt8)=>Value.int .u8 (b.toNat:Int)) w blk off d)(hu:u<10^d.size)(hu64:u<18446744073709551616)(hsz:d.size<4611686018427387904):
  Calls prog 238 #[.slice (some ⟨blk,off,none⟩) d.size cap,.int .u64 u] w fun e w' =>
   e=.returned (.tuple #[])/\∃(n v':Nat) (dk:Array UInt8),w'=(putRow (fun (b:UInt8)=>Value.int .u8 (b.toNat:Int)) w blk off dk).drewN n/\FmtInv d.size u 0 v' dk:=Any.internal_strconv_formatBase10 lays285 blk off cap u d w hH hu hu64 hsz
def laysM171_ren:Go.Shelf.Ren:=⟨fun|171=>55|243=>111|246=>173|283=>236|284=>237|285=>238|286=>239|129=>172|317=>276|318=>277|319=>278|320=>279|337=>304|338=>305|n=>n,fun|3=>3|9=>9|2=>2|4=>4|171=>239|0=>0|53=>182|37=>104|5=>5|173=>241|212=>275|51=>180|20=>20|213=>276|46=>129|232=>301|233=>302|n=>n,fun|17=>1|18=>6|19=>7|n=>n⟩
theorem laysM171:Go.Proofs.LaysM.n171 prog laysM171_ren:=by iterate 4 all_goals first|kernel_rfl|(intro _;kernel_rfl)|constructor|decide
open Go.RowKit Go.Sort Go.Lib in
theorem strconv_Itoa (n : Int) (h0 : -9223372036854775808 ≤ n) (h1 : n ≤ 9223372036854775807) (w : World) (htab : Lib.TabIs prog w "internal/strconv.uint64pow10" .u64 Lib.pow10Tab) :
  Calls prog 55 #[.int .i64 n] w fun e w'=>e=.returned (.string ⟨(Lib.itoa n).toArray⟩)/\∃k os,w'=grow (w.drewN k) os:=Any.strconv_Itoa laysM171 n h0 h1 w htab
def laysC172_ren:Go.Shelf.Ren:=⟨fun|172=>187|244=>247|245=>248|247=>285|279=>286|280=>287|281=>288|282=>289|287=>300|316=>309|171=>55|205=>310|321=>314|322=>315|243=>111|246=>173|283=>236|284=>237|285=>238|286=>239|129=>172|317=>276|318=>277|319=>278|320=>279|337=>304|338=>305|n=>n,fun|9=>9|3=>3|75=>135|76=>136|4=>4|5=>5|167=>280|37=>104|0=>0|85=>281|2=>2|168=>283|53=>182|175=>263|46=>129|210=>293|127=>184|145=>308|143=>306|21=>21|171=>239|173=>241|212=>275|51=>180|20=>20|213=>276|232=>301|233=>302|80=>138|n=>n,fun|15=>2|16=>3|17=>1|18=>6|19=>7|n=>n⟩
theorem laysC172:Go.Proofs.LaysC.n172 prog laysC172_ren:=by iterate 4 all_goals first|kernel_rfl|(intro _;kernel_rfl)|constructor|decide
open Go.RowKit in
theorem strconv_Atoi_ok(s:ByteArray)(hmax:s.size<=9223372036854775806)(v:Int)(h:Lib.atoiAll s.data.toList=.ok v)(w:World):
  Calls prog 187 #[.string s] w fun e w'=>e=.returned (.tuple #[.int .i64 v,.nilIface])/\(w'=w∨∃t,w'=Lib.bytesWorld w 5 t):=Any.strconv_Atoi_ok laysC172 s hmax v h w
open Go.RowKit in
theorem strconv_Atoi_range(s:ByteArray)(hlim:s.size<=281474976710656)(h:Lib.atoiAll s.data.toList=.range)(ev:Value)(w:World)(hv:w.cell? ⟨3,0,none⟩=some ev)(hev:ev=.nilIface∨∃te pe,ev=.iface te pe):
  Calls prog 187 #[.string s] w fun e w'=>∃N,e=.returned (.tuple #[.int .i64 (Lib.atoiSat s.data.toList),.iface 283 (.pointer (some ⟨N,0,none⟩))])/\w.heap.size<=N/\w'.heap[N]?=some (.cells #[.string ⟨#[65,116,111,105]⟩,.string s,ev] 293 (0,0))/\Below w.heap.size w w':=Any.strconv_Atoi_range laysC172 s hlim h ev w hv hev
def laysPu14_ren:Go.Shelf.Ren:=⟨fun|14=>265|16=>300|17=>248|19=>314|20=>315|21=>286|22=>287|23=>288|24=>289|25=>309|27=>55|26=>310|28=>111|29=>173|30=>236|31=>237|32=>238|33=>239|35=>172|34=>276|36=>277|37=>278|38=>279|39=>304|40=>305|n=>n,fun|9=>9|3=>3|22=>182|24=>135|25=>263|4=>4|34=>280|5=>5|36=>129|37=>104|0=>0|39=>283|21=>21|44=>293|47=>184|50=>308|48=>306|2=>2|52=>239|55=>241|59=>275|60=>180|20=>20|61=>276|65=>301|66=>302|67=>138|n=>n,fun|0=>2|1=>3|2=>1|3=>6|4=>7|n=>n⟩
theorem laysPu14:Go.Proofs.LaysPu.n14 prog laysPu14_ren:=by iterate 4 all_goals first|kernel_rfl|(intro _;kernel_rfl)|constructor|decide
open Go.RowKit in
theorem strconv_ParseUint_10_at64_ok(s:ByteArray)(hmax:s.size<=9223372036854775806)(u:Nat)(h:Lib.parseUintB 64 s.data.toList=.ok u)(w:World):
  Calls prog 265 #[.string s,.int .i64 10,.int .i64 64] w fun e w'=>e=.returned (.tuple #[.int .u64 u,.nilIface])/\(w'=w∨w'=Lib.bytesWorld w 5 s):=Any.strconv_ParseUint_10_at64_ok laysPu14 s hmax u h w
def lays145_ren:Go.Shelf.Ren:=⟨fun|145=>216|220=>262|219=>135|217=>200|225=>201|224=>202|267=>203|266=>254|314=>255|n=>n,fun|9=>9|4=>4|59=>216|3=>3|5=>5|46=>129|146=>246|51=>180|n=>n,fun|1=>0|n=>n⟩
theorem lays145:Go.Proofs.Lays.n145 prog lays145_ren:=by iterate 4 all_goals first|kernel_rfl|(intro _;kernel_rfl)|constructor|decide
open Go.RowKit Go.Lib in
theorem strings_Cut(s sep:ByteArray)(m:Int)(w:World)(hs:s.size<4294967281)(hm:w.cell? ⟨0,0,none⟩=some (.int .i64 m)):
  Calls prog 216 #[.string s,.string sep] w fun e w'=>e=.returned (.tuple #[.string ⟨(Lib.cut s.data.toList sep.data.toList).1.toArray⟩,.string ⟨(Lib.cut s.data.toList sep.data.toList).2.1.toArray⟩,.bool (Lib.cut s.data.toList sep.data.toList).2.2])/\∃n,w'=w.drewN n:=Any.strings_Cut lays145 s sep m w hs hm
def lays105_ren:Go.Shelf.Ren:=⟨fun|105=>117|212=>177|99=>178|165=>112|166=>113|170=>179|169=>114|263=>242|264=>243|206=>244|240=>174|241=>175|276=>240|277=>241|n=>n,fun|9=>9|3=>3|4=>4|20=>20|0=>0|46=>129|109=>185|5=>5|72=>132|76=>136|51=>180|146=>246|53=>182|148=>248|70=>130|37=>104|75=>135|127=>184|164=>243|80=>138|n=>n,fun|n=>n⟩
theorem lays105:Go.Proofs.Lays.n105 prog lays105_ren:=by iterate 4 all_goals first|kernel_rfl|(intro _;kernel_rfl)|constructor|decide
theorem Builder_Extra_105:Builder.Extra prog lays105_ren:=by iterate 4 all_goals first|kernel_rfl|(intro _;kernel_rfl)|constructor|decide
open Go.RowKit Go.Lib in
theorem strings_Repeat(s:ByteArray)(c:Nat)(w:World)(hc:c<=9223372036854775807)(hlen:s.size*c<=140737488355328):
  Calls prog 117 #[.string s,.int .i64 c] w fun e w'=>e=.returned (.string ⟨(Lib.repeatL s.data.toList c).toArray⟩)/\Below w.heap.size w w':=Any.strings_Repeat lays105 Builder_Extra_105 s c w hc hlen
end Go.Proofs
end
section
namespace Go.Proofs
open Tryz
def lays101_ren:Go.Shelf.Ren:=⟨fun|101=>208|208=>258|206=>244|n=>n,fun|9=>9|4=>4|3=>3|n=>n,fun|n=>n⟩
theorem lays101:Go.Proofs.Lays.n101 prog lays101_ren:=by iterate 4 all_goals first|kernel_rfl|(intro _;kernel_rfl)|constructor|decide
open Go.RowKit Go.Lib in
theorem strings_TrimPrefix(s p:ByteArray)(w:World):
  Calls prog 208 #[.string s,.string p] w fun e w'=>e=.returned (.string ⟨(Lib.trimPrefix s.data.toList p.data.toList).toArray⟩)/\w'=w:=Any.strings_TrimPrefix lays101 s p w
end Go.Proofs
end
section
namespace Go.Proofs
open Tryz
def lays190_ren:Go.Shelf.Ren:=⟨fun|190=>50|125=>110|258=>109|128=>171|129=>172|302=>162|303=>163|304=>164|305=>165|306=>166|307=>167|308=>168|309=>169|310=>170|333=>231|329=>232|330=>233|334=>234|335=>235|336=>107|344=>275|n=>n,fun|31=>36|9=>9|3=>3|46=>129|0=>0|51=>180|53=>182|4=>4|183=>174|182=>173|131=>153|5=>5|218=>233|222=>237|228=>271|229=>272|n=>n,fun|n=>n⟩
theorem lays190:Go.Proofs.Lays.n190 prog lays190_ren:=by iterate 4 all_goals first|kernel_rfl|(intro _;kernel_rfl)|constructor|decide
open Go.Sort Go.RowKit in
theorem slices_Sort_string(blk off cap:Nat)(ss:List (List UInt8))(w:World)(hH:Holds encStr w blk off ss.toArray)(hblk:blk<w.heap.size)(hsz:ss.length<4611686018427387904):
  Calls prog 50 #[.slice (some ⟨blk,off,none⟩) ss.length cap] w fun e w' =>
   e=.returned (.tuple #[])/\∃n os,w'=grow (putRow encStr (Sort.ahead w n) blk off (ss.mergeSort fun x y=>decide (x<=y)).toArray) os:=Any.slices_Sort_string lays190 blk off cap ss w hH hblk hsz
def lays193_ren:Go.Shelf.Ren:=⟨fun|193=>16|n=>n,fun|31=>36|9=>9|4=>4|3=>3|0=>0|n=>n,fun|n=>n⟩
theorem lays193:Go.Proofs.Lays.n193 prog lays193_ren:=by iterate 4 all_goals first|kernel_rfl|(intro _;kernel_rfl)|constructor|decide
open Go.RowKit Go.Lib in
theorem slices_Equal_string(b1 o1 n c b2 o2 m d:Nat)(xs ys:List ByteArray)(w:World)(hx:n<=xs.length)(hy:m<=ys.length)(hbig:n<=9223372036854775807)(hbig2:m<=9223372036854775807)(hc1:∀j,j<xs.length->w.cell? ⟨b1,o1+j,none⟩=some (.string (xs.getD j ByteArray.empty)))(hc2:∀j,j<ys.length->w.cell? ⟨b2,o2+j,none⟩=some (.string (ys.getD j ByteArray.empty))):
  Calls prog 16 #[.slice (some ⟨b1,o1,none⟩) n c,.slice (some ⟨b2,o2,none⟩) m d] w fun e w'=>e=.returned (.bool (decide (xs.take n=ys.take m)))/\∃q,w'=w.drewN q:=Any.slices_Equal_string lays193 b1 o1 n c b2 o2 m d xs ys w hx hy hbig hbig2 hc1 hc2
open Go.RowKit Go.Lib in
theorem slices_Equal_string_empty(a1 a2:Option Addr)(c m d:Nat)(w:World)(hbig2:m<=9223372036854775807):
  Calls prog 16 #[.slice a1 0 c,.slice a2 m d] w fun e w'=>e=.returned (.bool (decide (m=0)))/\w'=w:=Any.slices_Equal_string_empty lays193 a1 a2 c m d w hbig2
def lays194_ren:Go.Shelf.Ren:=⟨fun|194=>51|n=>n,fun|31=>36|9=>9|3=>3|4=>4|0=>0|n=>n,fun|n=>n⟩
theorem lays194:Go.Proofs.Lays.n194 prog lays194_ren:=by iterate 4 all_goals first|kernel_rfl|(intro _;kernel_rfl)|constructor|decide
open Go.RowKit Go.Lib Go.Sort in
theorem slices_Compact_string(blk off cap:Nat)(zs:List (List UInt8))(w:World)(hH:Holds encStr w blk off zs.toArray)(hsz:zs.length<=9223372036854775807)(hcap:zs.length<=cap):
  Calls prog 51 #[.slice (some ⟨blk,off,none⟩) zs.length cap] w fun e w'=>e=.returned (.slice (some ⟨blk,off,none⟩) (Lib.compact zs).length cap)/\∃q,w'=putRow encStr (Sort.ahead w q) blk off (Lib.compact zs++List.replicate (zs.length-(Lib.compact zs).length) []).toArray:=Any.slices_Compact_string lays194 blk off cap zs w hH hsz hcap
open Go.RowKit Go.Lib Go.Sort in
theorem slices_Compact_string_empty(a:Option Addr)(cap:Nat)(w:World):
  Calls prog 51 #[.slice a 0 cap] w fun e w'=>e=.returned (.slice a 0 cap)/\w'=w:=Any.slices_Compact_string_empty lays194 a cap w
open Go.RowKit Go.Sort in
theorem slices_Sort_string_none(p:Option Addr)(cap:Nat)(w:World):
  Calls prog 50 #[.slice p 0 cap] w fun e w'=>e=.returned (.tuple #[])/\w'=w:=Any.slices_Sort_string_none lays190 p cap w
open Go.RowKit Go.Lib in
theorem slices_Equal_string_lens(a1 a2:Option Addr)(n c m d:Nat)(w:World)(hnm:n≠m):
  Calls prog 16 #[.slice a1 n c,.slice a2 m d] w fun e w'=>e=.returned (.bool false)/\w'=w:=Any.slices_Equal_string_lens lays193 a1 a2 n c m d w hnm
end Go.Proofs
end
