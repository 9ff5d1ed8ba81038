/- Shelf Shelf2 Shelf3 -/
import Derived.Test.YtejkibnaidiklaaGreatDoorProg
import Derived.Shelf.Strings.Trim
import Derived.Shelf.Small.Utf8
import Derived.Shelf.Small.Wraps
import Derived.Shelf.Strconv.Itoa3
import Derived.Shelf.Strconv.ErrVarAll
import Derived.Shelf.Pu.ErrVarParseUint
import Derived.Shelf.Strings.Shaped
import Derived.Shelf.Strings.Runes
import Derived.Shelf.Strings.AsciiSet
import Derived.Shelf.Strings.Repeat
import Derived.Shelf.Unicode.DecodeSlow
import Derived.Shelf.Strings.BuilderCap
import Derived.Shelf.Slices.Empties2
set_option maxHeartbeats 16000000
set_option maxRecDepth 100000
section
namespace Go.Proofs
open Go.Shelf
def Tryz.lays169_ren:Go.Shelf.Ren:=⟨fun|169=>107|n=>n,fun|70=>140|9=>9|0=>0|72=>143|37=>141|127=>183|3=>3|5=>5|n=>n,fun|n=>n⟩
theorem Tryz.lays169:Go.Proofs.Lays.n169 Tryz.prog Tryz.lays169_ren:=by iterate 4 all_goals first|kernel_rfl|(intro _;kernel_rfl)|constructor|decide
theorem Tryz.Builder_Extra_169:Builder.Extra Tryz.prog Tryz.lays169_ren:=by iterate 4 all_goals first|kernel_rfl|(intro _;kernel_rfl)|constructor|decide
open Go.RowKit in
theorem Tryz.Builder_String_any(B b:Nat)(l:List UInt8)(w:World)(h:Lib.IsBuilder 143 5 B b (Lib.byteCells l) w)(hBw:B<=w.heap.size):
  Calls Tryz.prog 107 #[.pointer (some ⟨b,0,none⟩)] w fun e w'=>e=.returned (.string ⟨l.toArray⟩)/\Below B w w':=Any.Builder_String_any Tryz.lays169 Tryz.Builder_Extra_169 B b l w h hBw
def Tryz.lays161_ren:Go.Shelf.Ren:=⟨fun|161=>143|231=>195|227=>197|233=>198|235=>200|228=>242|197=>243|151=>244|260=>265|152=>266|137=>275|119=>276|224=>277|225=>278|217=>282|266=>284|n=>n,fun|9=>9|4=>4|3=>3|5=>5|117=>222|116=>221|0=>0|124=>225|105=>260|21=>21|119=>282|46=>163|139=>285|138=>284|n=>n,fun|3=>4|4=>5|n=>n⟩
theorem Tryz.lays161:Go.Proofs.Lays.n161 Tryz.prog Tryz.lays161_ren:=by iterate 4 all_goals first|kernel_rfl|(intro _;kernel_rfl)|constructor|decide
open Go.RowKit in
theorem Tryz.strings_TrimLeft_one(s:ByteArray)(c:UInt8)(hc:c.toNat<128)(w:World):
  Calls Tryz.prog 143 #[.string s,.string ⟨#[c]⟩] w fun e w'=>e=.returned (.string ⟨(Lib.trimLeftB s.data.toList c).toArray⟩)/\w'=w:=Any.strings_TrimLeft_one Tryz.lays161 s c hc w
def Tryz.lays160_ren:Go.Shelf.Ren:=⟨fun|160=>142|232=>196|231=>195|227=>197|234=>199|233=>198|236=>201|235=>200|228=>242|271=>245|151=>244|197=>243|120=>267|152=>266|260=>265|137=>275|119=>276|224=>277|225=>278|217=>282|266=>284|n=>n,fun|9=>9|4=>4|3=>3|5=>5|117=>222|116=>221|0=>0|124=>225|21=>21|105=>260|46=>163|119=>282|139=>285|138=>284|n=>n,fun|3=>4|4=>5|n=>n⟩
theorem Tryz.lays160:Go.Proofs.Lays.n160 Tryz.prog Tryz.lays160_ren:=by iterate 4 all_goals first|kernel_rfl|(intro _;kernel_rfl)|constructor|decide
def Tryz.lays103_ren:Go.Shelf.Ren:=⟨fun|103=>141|210=>194|206=>215|n=>n,fun|9=>9|4=>4|24=>132|3=>3|n=>n,fun|n=>n⟩
theorem Tryz.lays103:Go.Proofs.Lays.n103 Tryz.prog Tryz.lays103_ren:=by iterate 4 all_goals first|kernel_rfl|(intro _;kernel_rfl)|constructor|decide
open Go.RowKit in
theorem Tryz.strings_CutPrefix(s p:ByteArray)(w:World):
  Calls Tryz.prog 141 #[.string s,.string p] w fun e w'=>e=.returned (.tuple #[.string ⟨(Lib.trimPrefix s.data.toList p.data.toList).toArray⟩,.bool (Lib.hasPrefix s.data.toList p.data.toList)])/\w'=w:=Any.strings_CutPrefix Tryz.lays103 s p w
def Tryz.lays283_ren:Go.Shelf.Ren:=⟨fun|283=>209|n=>n,fun|3=>3|9=>9|4=>4|n=>n,fun|n=>n⟩
theorem Tryz.lays283:Go.Proofs.Lays.n283 Tryz.prog Tryz.lays283_ren:=by iterate 4 all_goals first|kernel_rfl|(intro _;kernel_rfl)|constructor|decide
open Go.Lib in
theorem Tryz.internal_strconv_small(i:Nat)(h:i<100)(w:World):
  Calls Tryz.prog 209 #[.int .i64 i] w fun e w'=>e=.returned (.string ⟨(Lib.decDigits i).toArray⟩)/\w'=w:=Any.internal_strconv_small Tryz.lays283 i h w
def Tryz.laysM284_ren:Go.Shelf.Ren:=⟨fun|284=>210|129=>250|317=>249|318=>251|n=>n,fun|53=>134|3=>3|212=>268|0=>0|4=>4|46=>163|5=>5|9=>9|n=>n,fun|17=>2|n=>n⟩
theorem Tryz.laysM284:Go.Proofs.LaysM.n284 Tryz.prog Tryz.laysM284_ren:=by iterate 4 all_goals first|kernel_rfl|(intro _;kernel_rfl)|constructor|decide
open Go.Lib in
theorem Tryz.internal_strconv_numDigits (u : Nat) (h1 : 1 ≤ u) (h2 : u < 18446744073709551616) (w : World) (htab : Lib.TabIs Tryz.prog w "internal/strconv.uint64pow10" .u64 Lib.pow10Tab) :
  Calls Tryz.prog 210 #[.int .u64 u] w fun e w'=>e=.returned (.int .i64 (Lib.nDigits u))/\w'=w:=Any.internal_strconv_numDigits Tryz.laysM284 u h1 h2 w htab
def Tryz.lays285_ren:Go.Shelf.Ren:=⟨fun|285=>211|n=>n,fun|37=>141|53=>134|3=>3|4=>4|51=>238|9=>9|5=>5|0=>0|n=>n,fun|n=>n⟩
theorem Tryz.lays285:Go.Proofs.Lays.n285 Tryz.prog Tryz.lays285_ren:=by iterate 4 all_goals first|kernel_rfl|(intro _;kernel_rfl)|constructor|decide
open Go.RowKit Go.Sort Go.Lib in
theorem Tryz.internal_strconv_formatBase10(blk off cap:Nat)(u:Nat)(d:Array UInt8)(w:World)(hH:Holds (fun (b:UInt8)=>Value.int .u8 (b.toNat:Int)) w blk off d)(hu:u<10^d.size)(hu64:u<18446744073709551616)(hsz:d.size<4611686018427387904):
  Calls Tryz.prog 211 #[.slice (some ⟨blk,off,none⟩) d.size cap,.int .u64 u] w fun e w' =>
   e=.returned (.tuple #[])/\∃(n v':Nat) (dk:Array UInt8),w'=(putRow (fun (b:UInt8)=>Value.int .u8 (b.toNat:Int)) w blk off dk).drewN n/\FmtInv d.size u 0 v' dk:=Any.internal_strconv_formatBase10 Tryz.lays285 blk off cap u d w hH hu hu64 hsz
def Tryz.laysM171_ren:Go.Shelf.Ren:=⟨fun|171=>248|243=>268|246=>279|283=>209|284=>210|285=>211|286=>212|129=>250|317=>249|318=>251|319=>252|320=>253|337=>269|338=>270|n=>n,fun|3=>3|9=>9|2=>2|4=>4|171=>233|0=>0|53=>134|37=>141|5=>5|173=>236|212=>268|51=>238|20=>20|213=>269|46=>163|232=>289|233=>290|n=>n,fun|17=>2|18=>6|19=>7|n=>n⟩
theorem Tryz.laysM171:Go.Proofs.LaysM.n171 Tryz.prog Tryz.laysM171_ren:=by iterate 4 all_goals first|kernel_rfl|(intro _;kernel_rfl)|constructor|decide
open Go.RowKit Go.Sort Go.Lib in
theorem Tryz.strconv_Itoa (n : Int) (h0 : -9223372036854775808 ≤ n) (h1 : n ≤ 9223372036854775807) (w : World) (htab : Lib.TabIs Tryz.prog w "internal/strconv.uint64pow10" .u64 Lib.pow10Tab) :
  Calls Tryz.prog 248 #[.int .i64 n] w fun e w'=>e=.returned (.string ⟨(Lib.itoa n).toArray⟩)/\∃k os,w'=grow (w.drewN k) os:=Any.strconv_Itoa Tryz.laysM171 n h0 h1 w htab
def Tryz.laysC172_ren:Go.Shelf.Ren:=⟨fun|172=>263|244=>274|245=>145|247=>281|279=>204|280=>205|281=>206|282=>207|287=>144|316=>246|171=>248|205=>247|321=>202|322=>203|243=>268|246=>279|283=>209|284=>210|285=>211|286=>212|129=>250|317=>249|318=>251|319=>252|320=>253|337=>269|338=>270|n=>n,fun|9=>9|3=>3|75=>136|76=>145|4=>4|5=>5|167=>226|37=>141|0=>0|85=>291|2=>2|168=>228|53=>134|175=>137|46=>163|210=>265|127=>183|145=>280|143=>278|21=>21|171=>233|173=>236|212=>268|51=>238|20=>20|213=>269|232=>289|233=>290|80=>149|n=>n,fun|15=>0|16=>1|17=>2|18=>6|19=>7|n=>n⟩
theorem Tryz.laysC172:Go.Proofs.LaysC.n172 Tryz.prog Tryz.laysC172_ren:=by iterate 4 all_goals first|kernel_rfl|(intro _;kernel_rfl)|constructor|decide
open Go.RowKit in
theorem Tryz.strconv_Atoi_ok(s:ByteArray)(hmax:s.size<=9223372036854775806)(v:Int)(h:Lib.atoiAll s.data.toList=.ok v)(w:World):
  Calls Tryz.prog 263 #[.string s] w fun e w'=>e=.returned (.tuple #[.int .i64 v,.nilIface])/\(w'=w∨∃t,w'=Lib.bytesWorld w 5 t):=Any.strconv_Atoi_ok Tryz.laysC172 s hmax v h w
open Go.RowKit in
theorem Tryz.strconv_Atoi_range(s:ByteArray)(hlim:s.size<=281474976710656)(h:Lib.atoiAll s.data.toList=.range)(ev:Value)(w:World)(hv:w.cell? ⟨1,0,none⟩=some ev)(hev:ev=.nilIface∨∃te pe,ev=.iface te pe):
  Calls Tryz.prog 263 #[.string s] w fun e w'=>∃N,e=.returned (.tuple #[.int .i64 (Lib.atoiSat s.data.toList),.iface 228 (.pointer (some ⟨N,0,none⟩))])/\w.heap.size<=N/\w'.heap[N]?=some (.cells #[.string ⟨#[65,116,111,105]⟩,.string s,ev] 265 (0,0))/\Below w.heap.size w w':=Any.strconv_Atoi_range Tryz.laysC172 s hlim h ev w hv hev
def Tryz.laysPu14_ren:Go.Shelf.Ren:=⟨fun|14=>101|16=>144|17=>145|19=>202|20=>203|21=>204|22=>205|23=>206|24=>207|25=>246|27=>248|26=>247|28=>268|29=>279|30=>209|31=>210|32=>211|33=>212|35=>250|34=>249|36=>251|37=>252|38=>253|39=>269|40=>270|n=>n,fun|9=>9|3=>3|22=>134|24=>136|25=>137|4=>4|34=>226|5=>5|36=>163|37=>141|0=>0|39=>228|21=>21|44=>265|47=>183|50=>280|48=>278|2=>2|52=>233|55=>236|59=>268|60=>238|20=>20|61=>269|65=>289|66=>290|67=>149|n=>n,fun|0=>0|1=>1|2=>2|3=>6|4=>7|n=>n⟩
theorem Tryz.laysPu14:Go.Proofs.LaysPu.n14 Tryz.prog Tryz.laysPu14_ren:=by iterate 4 all_goals first|kernel_rfl|(intro _;kernel_rfl)|constructor|decide
open Go.RowKit in
theorem Tryz.strconv_ParseUint_10_at64_ok(s:ByteArray)(hmax:s.size<=9223372036854775806)(u:Nat)(h:Lib.parseUintB 64 s.data.toList=.ok u)(w:World):
  Calls Tryz.prog 101 #[.string s,.int .i64 10,.int .i64 64] w fun e w'=>e=.returned (.tuple #[.int .u64 u,.nilIface])/\(w'=w∨w'=Lib.bytesWorld w 5 s):=Any.strconv_ParseUint_10_at64_ok Tryz.laysPu14 s hmax u h w
def Tryz.lays145_ren:Go.Shelf.Ren:=⟨fun|145=>262|220=>273|219=>280|217=>282|225=>278|224=>277|267=>283|266=>284|314=>285|n=>n,fun|9=>9|4=>4|59=>274|3=>3|5=>5|46=>163|146=>239|51=>238|n=>n,fun|1=>3|n=>n⟩
theorem Tryz.lays145:Go.Proofs.Lays.n145 Tryz.prog Tryz.lays145_ren:=by iterate 4 all_goals first|kernel_rfl|(intro _;kernel_rfl)|constructor|decide
open Go.RowKit Go.Lib in
theorem Tryz.strings_Cut(s sep:ByteArray)(m:Int)(w:World)(hs:s.size<4294967281)(hm:w.cell? ⟨3,0,none⟩=some (.int .i64 m)):
  Calls Tryz.prog 262 #[.string s,.string sep] w fun e w'=>e=.returned (.tuple #[.string ⟨(Lib.cut s.data.toList sep.data.toList).1.toArray⟩,.string ⟨(Lib.cut s.data.toList sep.data.toList).2.1.toArray⟩,.bool (Lib.cut s.data.toList sep.data.toList).2.2])/\∃n,w'=w.drewN n:=Any.strings_Cut Tryz.lays145 s sep m w hs hm
def Tryz.lays105_ren:Go.Shelf.Ren:=⟨fun|105=>106|212=>148|99=>149|165=>150|166=>104|170=>151|169=>107|263=>213|264=>214|206=>215|240=>146|241=>216|276=>208|277=>254|n=>n,fun|9=>9|3=>3|4=>4|20=>20|0=>0|46=>163|109=>178|5=>5|72=>143|76=>145|51=>238|146=>239|53=>134|148=>241|70=>140|37=>141|75=>136|127=>183|164=>231|80=>149|n=>n,fun|n=>n⟩
theorem Tryz.lays105:Go.Proofs.Lays.n105 Tryz.prog Tryz.lays105_ren:=by iterate 4 all_goals first|kernel_rfl|(intro _;kernel_rfl)|constructor|decide
theorem Tryz.Builder_Extra_105:Builder.Extra Tryz.prog Tryz.lays105_ren:=by iterate 4 all_goals first|kernel_rfl|(intro _;kernel_rfl)|constructor|decide
open Go.RowKit Go.Lib in
theorem Tryz.strings_Repeat(s:ByteArray)(c:Nat)(w:World)(hc:c<=9223372036854775807)(hlen:s.size*c<=140737488355328):
  Calls Tryz.prog 106 #[.string s,.int .i64 c] w fun e w'=>e=.returned (.string ⟨(Lib.repeatL s.data.toList c).toArray⟩)/\Below w.heap.size w w':=Any.strings_Repeat Tryz.lays105 Tryz.Builder_Extra_105 s c w hc hlen
end Go.Proofs
end
section
namespace Go.Proofs
def Tryz.lays101_ren:Go.Shelf.Ren:=⟨fun|101=>261|208=>272|206=>215|n=>n,fun|9=>9|4=>4|3=>3|n=>n,fun|n=>n⟩
theorem Tryz.lays101:Go.Proofs.Lays.n101 Tryz.prog Tryz.lays101_ren:=by iterate 4 all_goals first|kernel_rfl|(intro _;kernel_rfl)|constructor|decide
open Go.RowKit Go.Lib in
theorem Tryz.strings_TrimPrefix(s p:ByteArray)(w:World):
  Calls Tryz.prog 261 #[.string s,.string p] w fun e w'=>e=.returned (.string ⟨(Lib.trimPrefix s.data.toList p.data.toList).toArray⟩)/\w'=w:=Any.strings_TrimPrefix Tryz.lays101 s p w
end Go.Proofs
end
section
namespace Go.Proofs
def Tryz.lays193_ren:Go.Shelf.Ren:=⟨fun|193=>38|n=>n,fun|31=>62|9=>9|4=>4|3=>3|0=>0|n=>n,fun|n=>n⟩
theorem Tryz.lays193:Go.Proofs.Lays.n193 Tryz.prog Tryz.lays193_ren:=by iterate 4 all_goals first|kernel_rfl|(intro _;kernel_rfl)|constructor|decide
open Go.RowKit Go.Lib in
theorem Tryz.slices_Equal_string(b1 o1 n c b2 o2 m d:Nat)(xs ys:List ByteArray)(w:World)(hx:n<=xs.length)(hy:m<=ys.length)(hbig:n<=9223372036854775807)(hbig2:m<=9223372036854775807)(hc1:∀j,j<xs.length->w.cell? ⟨b1,o1+j,none⟩=some (.string (xs.getD j ByteArray.empty)))(hc2:∀j,j<ys.length->w.cell? ⟨b2,o2+j,none⟩=some (.string (ys.getD j ByteArray.empty))):
  Calls Tryz.prog 38 #[.slice (some ⟨b1,o1,none⟩) n c,.slice (some ⟨b2,o2,none⟩) m d] w fun e w'=>e=.returned (.bool (decide (xs.take n=ys.take m)))/\∃q,w'=w.drewN q:=Any.slices_Equal_string Tryz.lays193 b1 o1 n c b2 o2 m d xs ys w hx hy hbig hbig2 hc1 hc2
open Go.RowKit Go.Lib in
theorem Tryz.slices_Equal_string_empty(a1 a2:Option Addr)(c m d:Nat)(w:World)(hbig2:m<=9223372036854775807):
  Calls Tryz.prog 38 #[.slice a1 0 c,.slice a2 m d] w fun e w'=>e=.returned (.bool (decide (m=0)))/\w'=w:=Any.slices_Equal_string_empty Tryz.lays193 a1 a2 c m d w hbig2
open Go.RowKit Go.Lib in
theorem Tryz.slices_Equal_string_lens(a1 a2:Option Addr)(n c m d:Nat)(w:World)(hnm:n≠m):
  Calls Tryz.prog 38 #[.slice a1 n c,.slice a2 m d] w fun e w'=>e=.returned (.bool false)/\w'=w:=Any.slices_Equal_string_lens Tryz.lays193 a1 a2 n c m d w hnm
end Go.Proofs
end
