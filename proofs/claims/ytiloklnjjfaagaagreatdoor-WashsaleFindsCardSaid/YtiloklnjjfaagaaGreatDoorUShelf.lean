/- Shelf Shelf2 -/
import Derived.Test.YtiloklnjjfaagaaGreatDoorProg
import Derived.Shelf.Strings.Trim
import Derived.Shelf.Small.Utf8
import Derived.Shelf.Small.Wraps
import Derived.Shelf.Strconv.Itoa3
import Derived.Shelf.Strconv.ErrVarAll
import Derived.Shelf.Pu.ErrVarParseUint
import Derived.Shelf.Strings.Shaped
import Derived.Shelf.Strings.Runes
import Derived.Shelf.Strings.AsciiSet
import Derived.Shelf.Strings.Repeat
import Derived.Shelf.Unicode.DecodeSlow
import Derived.Shelf.Strings.BuilderCap
import Derived.Shelf.Slices.Empties2
set_option maxHeartbeats 16000000
set_option maxRecDepth 100000
section
namespace Go.Proofs
open Tryz
open Go.Shelf
def lays169_ren:Go.Shelf.Ren:=⟨fun|169=>118|n=>n,fun|70=>151|9=>9|0=>0|72=>154|37=>152|127=>189|3=>3|5=>5|n=>n,fun|n=>n⟩
theorem lays169:Go.Proofs.Lays.n169 prog lays169_ren:=by iterate 4 all_goals first|kernel_rfl|(intro _;kernel_rfl)|constructor|decide
theorem Builder_Extra_169:Builder.Extra prog lays169_ren:=by iterate 4 all_goals first|kernel_rfl|(intro _;kernel_rfl)|constructor|decide
open Go.RowKit in
theorem Builder_String_any(B b:Nat)(l:List UInt8)(w:World)(h:Lib.IsBuilder 154 5 B b (Lib.byteCells l) w)(hBw:B<=w.heap.size):
  Calls prog 118 #[.pointer (some ⟨b,0,none⟩)] w fun e w'=>e=.returned (.string ⟨l.toArray⟩)/\Below B w w':=Any.Builder_String_any lays169 Builder_Extra_169 B b l w h hBw
def lays161_ren:Go.Shelf.Ren:=⟨fun|161=>156|231=>187|227=>189|233=>190|235=>192|228=>222|197=>223|151=>224|260=>248|152=>249|137=>257|119=>258|224=>236|225=>235|217=>234|266=>253|n=>n,fun|9=>9|4=>4|3=>3|5=>5|117=>204|116=>203|0=>0|124=>207|105=>235|21=>21|119=>263|46=>183|139=>266|138=>265|n=>n,fun|3=>4|4=>5|n=>n⟩
theorem lays161:Go.Proofs.Lays.n161 prog lays161_ren:=by iterate 4 all_goals first|kernel_rfl|(intro _;kernel_rfl)|constructor|decide
open Go.RowKit in
theorem strings_TrimLeft_one(s:ByteArray)(c:UInt8)(hc:c.toNat<128)(w:World):
  Calls prog 156 #[.string s,.string ⟨#[c]⟩] w fun e w'=>e=.returned (.string ⟨(Lib.trimLeftB s.data.toList c).toArray⟩)/\w'=w:=Any.strings_TrimLeft_one lays161 s c hc w
def lays160_ren:Go.Shelf.Ren:=⟨fun|160=>155|232=>188|231=>187|227=>189|234=>191|233=>190|236=>193|235=>192|228=>222|271=>225|151=>224|197=>223|120=>250|152=>249|260=>248|137=>257|119=>258|224=>236|225=>235|217=>234|266=>253|n=>n,fun|9=>9|4=>4|3=>3|5=>5|117=>204|116=>203|0=>0|124=>207|21=>21|105=>235|46=>183|119=>263|139=>266|138=>265|n=>n,fun|3=>4|4=>5|n=>n⟩
theorem lays160:Go.Proofs.Lays.n160 prog lays160_ren:=by iterate 4 all_goals first|kernel_rfl|(intro _;kernel_rfl)|constructor|decide
def lays103_ren:Go.Shelf.Ren:=⟨fun|103=>154|210=>186|206=>207|n=>n,fun|9=>9|4=>4|24=>142|3=>3|n=>n,fun|n=>n⟩
theorem lays103:Go.Proofs.Lays.n103 prog lays103_ren:=by iterate 4 all_goals first|kernel_rfl|(intro _;kernel_rfl)|constructor|decide
open Go.RowKit in
theorem strings_CutPrefix(s p:ByteArray)(w:World):
  Calls prog 154 #[.string s,.string p] w fun e w'=>e=.returned (.tuple #[.string ⟨(Lib.trimPrefix s.data.toList p.data.toList).toArray⟩,.bool (Lib.hasPrefix s.data.toList p.data.toList)])/\w'=w:=Any.strings_CutPrefix lays103 s p w
def lays283_ren:Go.Shelf.Ren:=⟨fun|283=>201|n=>n,fun|3=>3|9=>9|4=>4|n=>n,fun|n=>n⟩
theorem lays283:Go.Proofs.Lays.n283 prog lays283_ren:=by iterate 4 all_goals first|kernel_rfl|(intro _;kernel_rfl)|constructor|decide
open Go.Lib in
theorem internal_strconv_small(i:Nat)(h:i<100)(w:World):
  Calls prog 201 #[.int .i64 i] w fun e w'=>e=.returned (.string ⟨(Lib.decDigits i).toArray⟩)/\w'=w:=Any.internal_strconv_small lays283 i h w
def laysM284_ren:Go.Shelf.Ren:=⟨fun|284=>202|129=>229|317=>228|318=>230|n=>n,fun|53=>144|3=>3|212=>244|0=>0|4=>4|46=>183|5=>5|9=>9|n=>n,fun|17=>2|n=>n⟩
theorem laysM284:Go.Proofs.LaysM.n284 prog laysM284_ren:=by iterate 4 all_goals first|kernel_rfl|(intro _;kernel_rfl)|constructor|decide
open Go.Lib in
theorem internal_strconv_numDigits (u : Nat) (h1 : 1 ≤ u) (h2 : u < 18446744073709551616) (w : World) (htab : Lib.TabIs prog w "internal/strconv.uint64pow10" .u64 Lib.pow10Tab) :
  Calls prog 202 #[.int .u64 u] w fun e w'=>e=.returned (.int .i64 (Lib.nDigits u))/\w'=w:=Any.internal_strconv_numDigits laysM284 u h1 h2 w htab
def lays285_ren:Go.Shelf.Ren:=⟨fun|285=>203|n=>n,fun|37=>152|53=>144|3=>3|4=>4|51=>220|9=>9|5=>5|0=>0|n=>n,fun|n=>n⟩
theorem lays285:Go.Proofs.Lays.n285 prog lays285_ren:=by iterate 4 all_goals first|kernel_rfl|(intro _;kernel_rfl)|constructor|decide
open Go.RowKit Go.Sort Go.Lib in
theorem internal_strconv_formatBase10(blk off cap:Nat)(u:Nat)(d:Array UInt8)(w:World)(hH:Holds (fun (b:UInt8)=>Value.int .u8 (b.toNat:Int)) w blk off d)(hu:u<10^d.size)(hu64:u<18446744073709551616)(hsz:d.size<4611686018427387904):
  Calls prog 203 #[.slice (some ⟨blk,off,none⟩) d.size cap,.int .u64 u] w fun e w' =>
   e=.returned (.tuple #[])/\∃(n v':Nat) (dk:Array UInt8),w'=(putRow (fun (b:UInt8)=>Value.int .u8 (b.toNat:Int)) w blk off dk).drewN n/\FmtInv d.size u 0 v' dk:=Any.internal_strconv_formatBase10 lays285 blk off cap u d w hH hu hu64 hsz
def laysM171_ren:Go.Shelf.Ren:=⟨fun|171=>90|243=>140|246=>175|283=>201|284=>202|285=>203|286=>204|129=>229|317=>228|318=>230|319=>231|320=>232|337=>251|338=>252|n=>n,fun|3=>3|9=>9|2=>2|4=>4|171=>215|0=>0|53=>144|37=>152|5=>5|173=>218|212=>244|51=>220|20=>20|213=>245|46=>183|232=>268|233=>269|n=>n,fun|17=>2|18=>6|19=>7|n=>n⟩
theorem laysM171:Go.Proofs.LaysM.n171 prog laysM171_ren:=by iterate 4 all_goals first|kernel_rfl|(intro _;kernel_rfl)|constructor|decide
open Go.RowKit Go.Sort Go.Lib in
theorem strconv_Itoa (n : Int) (h0 : -9223372036854775808 ≤ n) (h1 : n ≤ 9223372036854775807) (w : World) (htab : Lib.TabIs prog w "internal/strconv.uint64pow10" .u64 Lib.pow10Tab) :
  Calls prog 90 #[.int .i64 n] w fun e w'=>e=.returned (.string ⟨(Lib.itoa n).toArray⟩)/\∃k os,w'=grow (w.drewN k) os:=Any.strconv_Itoa laysM171 n h0 h1 w htab
def laysC172_ren:Go.Shelf.Ren:=⟨fun|172=>120|244=>167|245=>158|247=>210|279=>196|280=>197|281=>198|282=>199|287=>157|316=>226|171=>90|205=>227|321=>194|322=>195|243=>140|246=>175|283=>201|284=>202|285=>203|286=>204|129=>229|317=>228|318=>230|319=>231|320=>232|337=>251|338=>252|n=>n,fun|9=>9|3=>3|75=>146|76=>156|4=>4|5=>5|167=>208|37=>152|0=>0|85=>225|2=>2|168=>210|53=>144|175=>147|46=>183|210=>240|127=>189|145=>255|143=>253|21=>21|171=>215|173=>218|212=>244|51=>220|20=>20|213=>245|232=>268|233=>269|80=>159|n=>n,fun|15=>0|16=>1|17=>2|18=>6|19=>7|n=>n⟩
theorem laysC172:Go.Proofs.LaysC.n172 prog laysC172_ren:=by iterate 4 all_goals first|kernel_rfl|(intro _;kernel_rfl)|constructor|decide
open Go.RowKit in
theorem strconv_Atoi_ok(s:ByteArray)(hmax:s.size<=9223372036854775806)(v:Int)(h:Lib.atoiAll s.data.toList=.ok v)(w:World):
  Calls prog 120 #[.string s] w fun e w'=>e=.returned (.tuple #[.int .i64 v,.nilIface])/\(w'=w∨∃t,w'=Lib.bytesWorld w 5 t):=Any.strconv_Atoi_ok laysC172 s hmax v h w
open Go.RowKit in
theorem strconv_Atoi_range(s:ByteArray)(hlim:s.size<=281474976710656)(h:Lib.atoiAll s.data.toList=.range)(ev:Value)(w:World)(hv:w.cell? ⟨1,0,none⟩=some ev)(hev:ev=.nilIface∨∃te pe,ev=.iface te pe):
  Calls prog 120 #[.string s] w fun e w'=>∃N,e=.returned (.tuple #[.int .i64 (Lib.atoiSat s.data.toList),.iface 210 (.pointer (some ⟨N,0,none⟩))])/\w.heap.size<=N/\w'.heap[N]?=some (.cells #[.string ⟨#[65,116,111,105]⟩,.string s,ev] 240 (0,0))/\Below w.heap.size w w':=Any.strconv_Atoi_range laysC172 s hlim h ev w hv hev
def laysPu14_ren:Go.Shelf.Ren:=⟨fun|14=>110|16=>157|17=>158|19=>194|20=>195|21=>196|22=>197|23=>198|24=>199|25=>226|27=>90|26=>227|28=>140|29=>175|30=>201|31=>202|32=>203|33=>204|35=>229|34=>228|36=>230|37=>231|38=>232|39=>251|40=>252|n=>n,fun|9=>9|3=>3|22=>144|24=>146|25=>147|4=>4|34=>208|5=>5|36=>183|37=>152|0=>0|39=>210|21=>21|44=>240|47=>189|50=>255|48=>253|2=>2|52=>215|55=>218|59=>244|60=>220|20=>20|61=>245|65=>268|66=>269|67=>159|n=>n,fun|0=>0|1=>1|2=>2|3=>6|4=>7|n=>n⟩
theorem laysPu14:Go.Proofs.LaysPu.n14 prog laysPu14_ren:=by iterate 4 all_goals first|kernel_rfl|(intro _;kernel_rfl)|constructor|decide
open Go.RowKit in
theorem strconv_ParseUint_10_at64_ok(s:ByteArray)(hmax:s.size<=9223372036854775806)(u:Nat)(h:Lib.parseUintB 64 s.data.toList=.ok u)(w:World):
  Calls prog 110 #[.string s,.int .i64 10,.int .i64 64] w fun e w'=>e=.returned (.tuple #[.int .u64 u,.nilIface])/\(w'=w∨w'=Lib.bytesWorld w 5 s):=Any.strconv_ParseUint_10_at64_ok laysPu14 s hmax u h w
def lays145_ren:Go.Shelf.Ren:=⟨fun|145=>119|220=>166|219=>209|217=>234|225=>235|224=>236|267=>237|266=>253|314=>254|n=>n,fun|9=>9|4=>4|59=>160|3=>3|5=>5|46=>183|146=>221|51=>220|n=>n,fun|1=>3|n=>n⟩
theorem lays145:Go.Proofs.Lays.n145 prog lays145_ren:=by iterate 4 all_goals first|kernel_rfl|(intro _;kernel_rfl)|constructor|decide
open Go.RowKit Go.Lib in
theorem strings_Cut(s sep:ByteArray)(m:Int)(w:World)(hs:s.size<4294967281)(hm:w.cell? ⟨3,0,none⟩=some (.int .i64 m)):
  Calls prog 119 #[.string s,.string sep] w fun e w'=>e=.returned (.tuple #[.string ⟨(Lib.cut s.data.toList sep.data.toList).1.toArray⟩,.string ⟨(Lib.cut s.data.toList sep.data.toList).2.1.toArray⟩,.bool (Lib.cut s.data.toList sep.data.toList).2.2])/\∃n,w'=w.drewN n:=Any.strings_Cut lays145 s sep m w hs hm
def lays105_ren:Go.Shelf.Ren:=⟨fun|105=>117|212=>162|99=>163|165=>164|166=>115|170=>165|169=>118|263=>205|264=>206|206=>207|240=>160|241=>208|276=>200|277=>233|n=>n,fun|9=>9|3=>3|4=>4|20=>20|0=>0|46=>183|109=>184|5=>5|72=>154|76=>156|51=>220|146=>221|53=>144|148=>223|70=>151|37=>152|75=>146|127=>189|164=>213|80=>159|n=>n,fun|n=>n⟩
theorem lays105:Go.Proofs.Lays.n105 prog lays105_ren:=by iterate 4 all_goals first|kernel_rfl|(intro _;kernel_rfl)|constructor|decide
theorem Builder_Extra_105:Builder.Extra prog lays105_ren:=by iterate 4 all_goals first|kernel_rfl|(intro _;kernel_rfl)|constructor|decide
open Go.RowKit Go.Lib in
theorem strings_Repeat(s:ByteArray)(c:Nat)(w:World)(hc:c<=9223372036854775807)(hlen:s.size*c<=140737488355328):
  Calls prog 117 #[.string s,.int .i64 c] w fun e w'=>e=.returned (.string ⟨(Lib.repeatL s.data.toList c).toArray⟩)/\Below w.heap.size w w':=Any.strings_Repeat lays105 Builder_Extra_105 s c w hc hlen
end Go.Proofs
end
