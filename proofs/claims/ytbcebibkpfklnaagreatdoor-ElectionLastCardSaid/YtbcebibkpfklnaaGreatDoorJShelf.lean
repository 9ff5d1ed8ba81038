/- Shelf Shelf2 Shelf3 -/
import Derived.Test.YtbcebibkpfklnaaGreatDoorProg
import Derived.Shelf.Strings.Builder1
import Derived.Shelf.Strings.Builder2
import Derived.Shelf.Strings.Trim
import Derived.Shelf.Small.Utf8
import Derived.Shelf.Small.Strs
import Derived.Shelf.Small.Wraps
import Derived.Shelf.Strings.BuilderF
import Derived.Shelf.Strings.BuilderK
import Derived.Shelf.Strings.Builder2Cap
import Derived.Shelf.Strconv.Atoi
import Derived.Shelf.Strconv.Itoa0
import Derived.Shelf.Strconv.Itoa1
import Derived.Shelf.LaysM
import Derived.Shelf.Strconv.Itoa2
import Derived.Shelf.Strconv.Itoa3
import Derived.Shelf.Strconv.AtoiErrFast
import Derived.Shelf.Strconv.ParseIntEmpty
import Derived.Shelf.Strconv.AtoiFail
import Derived.Shelf.Strconv.Clone
import Derived.Shelf.Strconv.SyntaxError
import Derived.Shelf.LaysC
import Derived.Shelf.Strconv.ToError
import Derived.Shelf.Strconv.Lower
import Derived.Shelf.Strconv.ParseUint10
import Derived.Shelf.Strconv.ParseUint10Empty
import Derived.Shelf.Strconv.ParseUint10Any
import Derived.Shelf.Strconv.ParseInt10
import Derived.Shelf.Strconv.AtoiLong
import Derived.Shelf.Strconv.AtoiInnerAll
import Derived.Shelf.Strconv.RangeError
import Derived.Shelf.Strconv.ToErrorRange
import Derived.Shelf.Strconv.AtoiAll
import Derived.Shelf.Strconv.ErrVarAll
import Derived.Ground.MpProg
import Derived.Shelf.Pu.ParseUintPublic10
import Derived.Shelf.Pu.ErrVarParseUint
import Derived.Shelf.Strings.Search1
import Derived.Shelf.Strings.Search2
import Derived.Shelf.Strings.Cut
import Derived.Shelf.Strings.Shaped
import Derived.Shelf.Strings.Prefix
import Derived.Shelf.Strings.Runes
import Derived.Shelf.Strings.AsciiSet
import Derived.Shelf.Bits.Mul64
import Derived.Shelf.Strings.Repeat
import Derived.Shelf.Unicode.DecodeSlow
import Derived.Shelf.Strings.BuilderCap
import Derived.Shelf.Slices.Turned
import Derived.Shelf.Slices.Equal
import Derived.Shelf.Slices.Empties2
set_option maxHeartbeats 16000000
set_option maxRecDepth 100000
section
namespace Go.Proofs
open Go.Shelf
def Tryz.lays169_ren:Go.Shelf.Ren:=⟨fun|169=>188|n=>n,fun|70=>196|9=>9|0=>0|72=>198|37=>100|127=>222|3=>3|5=>5|n=>n,fun|n=>n⟩
theorem Tryz.lays169:Go.Proofs.Lays.n169 Tryz.prog Tryz.lays169_ren:={
 mixed:=by kernel_rfl
 f169:=Tryz.func188.trans (congrArg some (by kernel_rfl))
 t0:=Tryz.underlying0
 a0:=Tryz.isAgg0
 z0:=Tryz.sizeOf0
 v0:=Tryz.zeroValue0
 t3:=Tryz.underlying3
 a3:=Tryz.isAgg3
 z3:=Tryz.sizeOf3
 v3:=Tryz.zeroValue3
 t9:=Tryz.underlying9
 a9:=Tryz.isAgg9
 z9:=Tryz.sizeOf9
 v9:=Tryz.zeroValue9
 t37:=Tryz.underlying100
 a37:=Tryz.isAgg100
 z37:=Tryz.sizeOf100
 v37:=Tryz.zeroValue100
 t70:=Tryz.underlying196
 a70:=Tryz.isAgg196
 z70:=Tryz.sizeOf196
 v70:=Tryz.zeroValue196
 t72:=Tryz.underlying198
 a72:=Tryz.isAgg198
 z72:=Tryz.sizeOf198
 v72:=Tryz.zeroValue198
 t127:=Tryz.underlying222
 a127:=Tryz.isAgg222
 z127:=Tryz.sizeOf222
 v127:=Tryz.zeroValue222 }
theorem Tryz.Builder_Extra_169:Builder.Extra Tryz.prog Tryz.lays169_ren:={
 sizeBuilder:=by kernel_rfl
 liesBuilder:=by kernel_rfl
 t5:=Tryz.underlying5
 a5:=Tryz.isAgg5
 z5:=Tryz.sizeOf5
 v5:=Tryz.zeroValue5
 infoByte:=by kernel_rfl
 cellsByte:=by kernel_rfl
 sizeByte:=by kernel_rfl
 neB5:=by decide }
open Go.RowKit in
theorem Tryz.Builder_String_any(B b:Nat)(l:List UInt8)(w:World)(h:Lib.IsBuilder 198 5 B b (Lib.byteCells l) w)(hBw:B≤w.heap.size):
  Calls Tryz.prog 188 #[.pointer (some ⟨b,0,none⟩)] w fun e w'=>e=.returned (.string ⟨l.toArray⟩)∧Below B w w':=Any.Builder_String_any Tryz.lays169 Tryz.Builder_Extra_169 B b l w h hBw
def Tryz.lays161_ren:Go.Shelf.Ren:=⟨fun|161=>217|231=>140|227=>142|233=>143|235=>145|228=>171|197=>172|151=>173|260=>205|152=>206|137=>230|119=>231|224=>232|225=>233|217=>234|266=>252|n=>n,fun|9=>9|4=>4|3=>3|5=>5|117=>150|116=>149|0=>0|124=>153|105=>187|21=>21|119=>228|46=>103|139=>231|138=>230|n=>n,fun|3=>0|4=>1|n=>n⟩
theorem Tryz.lays161:Go.Proofs.Lays.n161 Tryz.prog Tryz.lays161_ren:={
 mixed:=by kernel_rfl
 f119:=Tryz.func231.trans (congrArg some (by kernel_rfl))
 f137:=Tryz.func230.trans (congrArg some (by kernel_rfl))
 f151:=Tryz.func173.trans (congrArg some (by kernel_rfl))
 f152:=Tryz.func206.trans (congrArg some (by kernel_rfl))
 f161:=Tryz.func217.trans (congrArg some (by kernel_rfl))
 f197:=Tryz.func172.trans (congrArg some (by kernel_rfl))
 f217:=Tryz.func234.trans (congrArg some (by kernel_rfl))
 f224:=Tryz.func232.trans (congrArg some (by kernel_rfl))
 f225:=Tryz.func233.trans (congrArg some (by kernel_rfl))
 f227:=Tryz.func142.trans (congrArg some (by kernel_rfl))
 f228:=Tryz.func171.trans (congrArg some (by kernel_rfl))
 f231:=Tryz.func140.trans (congrArg some (by kernel_rfl))
 f233:=Tryz.func143.trans (congrArg some (by kernel_rfl))
 f235:=Tryz.func145.trans (congrArg some (by kernel_rfl))
 f260:=Tryz.func205.trans (congrArg some (by kernel_rfl))
 f266:=Tryz.func252.trans (congrArg some (by kernel_rfl))
 t0:=Tryz.underlying0
 a0:=Tryz.isAgg0
 z0:=Tryz.sizeOf0
 v0:=Tryz.zeroValue0
 t3:=Tryz.underlying3
 a3:=Tryz.isAgg3
 z3:=Tryz.sizeOf3
 v3:=Tryz.zeroValue3
 t4:=Tryz.underlying4
 a4:=Tryz.isAgg4
 z4:=Tryz.sizeOf4
 v4:=Tryz.zeroValue4
 t5:=Tryz.underlying5
 a5:=Tryz.isAgg5
 z5:=Tryz.sizeOf5
 v5:=Tryz.zeroValue5
 t9:=Tryz.underlying9
 a9:=Tryz.isAgg9
 z9:=Tryz.sizeOf9
 v9:=Tryz.zeroValue9
 t21:=Tryz.underlying21
 a21:=Tryz.isAgg21
 z21:=Tryz.sizeOf21
 v21:=Tryz.zeroValue21
 t46:=Tryz.underlying103
 a46:=Tryz.isAgg103
 z46:=Tryz.sizeOf103
 v46:=Tryz.zeroValue103
 t105:=Tryz.underlying187
 a105:=Tryz.isAgg187
 z105:=Tryz.sizeOf187
 v105:=Tryz.zeroValue187
 t116:=Tryz.underlying149
 a116:=Tryz.isAgg149
 z116:=Tryz.sizeOf149
 t117:=Tryz.underlying150
 a117:=Tryz.isAgg150
 z117:=Tryz.sizeOf150
 v117:=Tryz.zeroValue150
 t119:=Tryz.underlying228
 a119:=Tryz.isAgg228
 z119:=Tryz.sizeOf228
 t124:=Tryz.underlying153
 a124:=Tryz.isAgg153
 z124:=Tryz.sizeOf153
 v124:=Tryz.zeroValue153
 t138:=Tryz.underlying230
 a138:=Tryz.isAgg230
 z138:=Tryz.sizeOf230
 v138:=Tryz.zeroValue230
 t139:=Tryz.underlying231
 a139:=Tryz.isAgg231
 z139:=Tryz.sizeOf231
 v139:=Tryz.zeroValue231
 g3:=by kernel_rfl
 g4:=by kernel_rfl }
open Go.RowKit in
theorem Tryz.strings_TrimLeft_one(s:ByteArray)(c:UInt8)(hc:c.toNat<128)(w:World):
  Calls Tryz.prog 217 #[.string s,.string ⟨#[c]⟩] w fun e w'=>e=.returned (.string ⟨(Lib.trimLeftB s.data.toList c).toArray⟩)∧w'=w:=Any.strings_TrimLeft_one Tryz.lays161 s c hc w
def Tryz.lays160_ren:Go.Shelf.Ren:=⟨fun|160=>116|232=>141|231=>140|227=>142|234=>144|233=>143|236=>146|235=>145|228=>171|271=>174|151=>173|197=>172|120=>207|152=>206|260=>205|137=>230|119=>231|224=>232|225=>233|217=>234|266=>252|n=>n,fun|9=>9|4=>4|3=>3|5=>5|117=>150|116=>149|0=>0|124=>153|21=>21|105=>187|46=>103|119=>228|139=>231|138=>230|n=>n,fun|3=>0|4=>1|n=>n⟩
theorem Tryz.lays160:Go.Proofs.Lays.n160 Tryz.prog Tryz.lays160_ren:={
 mixed:=by kernel_rfl
 f119:=Tryz.func231.trans (congrArg some (by kernel_rfl))
 f120:=Tryz.func207.trans (congrArg some (by kernel_rfl))
 f137:=Tryz.func230.trans (congrArg some (by kernel_rfl))
 f151:=Tryz.func173.trans (congrArg some (by kernel_rfl))
 f152:=Tryz.func206.trans (congrArg some (by kernel_rfl))
 f160:=Tryz.func116.trans (congrArg some (by kernel_rfl))
 f197:=Tryz.func172.trans (congrArg some (by kernel_rfl))
 f217:=Tryz.func234.trans (congrArg some (by kernel_rfl))
 f224:=Tryz.func232.trans (congrArg some (by kernel_rfl))
 f225:=Tryz.func233.trans (congrArg some (by kernel_rfl))
 f227:=Tryz.func142.trans (congrArg some (by kernel_rfl))
 f228:=Tryz.func171.trans (congrArg some (by kernel_rfl))
 f231:=Tryz.func140.trans (congrArg some (by kernel_rfl))
 f232:=Tryz.func141.trans (congrArg some (by kernel_rfl))
 f233:=Tryz.func143.trans (congrArg some (by kernel_rfl))
 f234:=Tryz.func144.trans (congrArg some (by kernel_rfl))
 f235:=Tryz.func145.trans (congrArg some (by kernel_rfl))
 f236:=Tryz.func146.trans (congrArg some (by kernel_rfl))
 f260:=Tryz.func205.trans (congrArg some (by kernel_rfl))
 f266:=Tryz.func252.trans (congrArg some (by kernel_rfl))
 f271:=Tryz.func174.trans (congrArg some (by kernel_rfl))
 t0:=Tryz.underlying0
 a0:=Tryz.isAgg0
 z0:=Tryz.sizeOf0
 v0:=Tryz.zeroValue0
 t3:=Tryz.underlying3
 a3:=Tryz.isAgg3
 z3:=Tryz.sizeOf3
 v3:=Tryz.zeroValue3
 t4:=Tryz.underlying4
 a4:=Tryz.isAgg4
 z4:=Tryz.sizeOf4
 v4:=Tryz.zeroValue4
 t5:=Tryz.underlying5
 a5:=Tryz.isAgg5
 z5:=Tryz.sizeOf5
 v5:=Tryz.zeroValue5
 t9:=Tryz.underlying9
 a9:=Tryz.isAgg9
 z9:=Tryz.sizeOf9
 v9:=Tryz.zeroValue9
 t21:=Tryz.underlying21
 a21:=Tryz.isAgg21
 z21:=Tryz.sizeOf21
 v21:=Tryz.zeroValue21
 t46:=Tryz.underlying103
 a46:=Tryz.isAgg103
 z46:=Tryz.sizeOf103
 v46:=Tryz.zeroValue103
 t105:=Tryz.underlying187
 a105:=Tryz.isAgg187
 z105:=Tryz.sizeOf187
 v105:=Tryz.zeroValue187
 t116:=Tryz.underlying149
 a116:=Tryz.isAgg149
 z116:=Tryz.sizeOf149
 t117:=Tryz.underlying150
 a117:=Tryz.isAgg150
 z117:=Tryz.sizeOf150
 v117:=Tryz.zeroValue150
 t119:=Tryz.underlying228
 a119:=Tryz.isAgg228
 z119:=Tryz.sizeOf228
 t124:=Tryz.underlying153
 a124:=Tryz.isAgg153
 z124:=Tryz.sizeOf153
 v124:=Tryz.zeroValue153
 t138:=Tryz.underlying230
 a138:=Tryz.isAgg230
 z138:=Tryz.sizeOf230
 v138:=Tryz.zeroValue230
 t139:=Tryz.underlying231
 a139:=Tryz.isAgg231
 z139:=Tryz.sizeOf231
 v139:=Tryz.zeroValue231
 g3:=by kernel_rfl
 g4:=by kernel_rfl }
def Tryz.lays103_ren:Go.Shelf.Ren:=⟨fun|103=>216|210=>242|206=>204|n=>n,fun|9=>9|4=>4|24=>170|3=>3|n=>n,fun|n=>n⟩
theorem Tryz.lays103:Go.Proofs.Lays.n103 Tryz.prog Tryz.lays103_ren:={
 mixed:=by kernel_rfl
 f103:=Tryz.func216.trans (congrArg some (by kernel_rfl))
 f206:=Tryz.func204.trans (congrArg some (by kernel_rfl))
 f210:=Tryz.func242.trans (congrArg some (by kernel_rfl))
 t3:=Tryz.underlying3
 a3:=Tryz.isAgg3
 z3:=Tryz.sizeOf3
 v3:=Tryz.zeroValue3
 t4:=Tryz.underlying4
 a4:=Tryz.isAgg4
 z4:=Tryz.sizeOf4
 v4:=Tryz.zeroValue4
 t9:=Tryz.underlying9
 a9:=Tryz.isAgg9
 z9:=Tryz.sizeOf9
 v9:=Tryz.zeroValue9
 t24:=Tryz.underlying170
 a24:=Tryz.isAgg170
 z24:=Tryz.sizeOf170
 v24:=Tryz.zeroValue170 }
open Go.RowKit in
theorem Tryz.strings_CutPrefix(s p:ByteArray)(w:World):
  Calls Tryz.prog 216 #[.string s,.string p] w fun e w'=>e=.returned (.tuple #[.string ⟨(Lib.trimPrefix s.data.toList p.data.toList).toArray⟩,.bool (Lib.hasPrefix s.data.toList p.data.toList)])∧w'=w:=Any.strings_CutPrefix Tryz.lays103 s p w
def Tryz.lays283_ren:Go.Shelf.Ren:=⟨fun|283=>238|n=>n,fun|3=>3|9=>9|4=>4|n=>n,fun|n=>n⟩
theorem Tryz.lays283:Go.Proofs.Lays.n283 Tryz.prog Tryz.lays283_ren:={
 mixed:=by kernel_rfl
 f283:=Tryz.func238.trans (congrArg some (by kernel_rfl))
 t3:=Tryz.underlying3
 a3:=Tryz.isAgg3
 z3:=Tryz.sizeOf3
 v3:=Tryz.zeroValue3
 t4:=Tryz.underlying4
 a4:=Tryz.isAgg4
 z4:=Tryz.sizeOf4
 v4:=Tryz.zeroValue4
 t9:=Tryz.underlying9
 a9:=Tryz.isAgg9
 z9:=Tryz.sizeOf9
 v9:=Tryz.zeroValue9 }
open Go.Lib in
theorem Tryz.internal_strconv_small(i:Nat)(h:i<100)(w:World):
  Calls Tryz.prog 238 #[.int .i64 i] w fun e w'=>e=.returned (.string ⟨(Lib.decDigits i).toArray⟩)∧w'=w:=Any.internal_strconv_small Tryz.lays283 i h w
def Tryz.laysM284_ren:Go.Shelf.Ren:=⟨fun|284=>239|129=>255|317=>254|318=>256|n=>n,fun|53=>192|3=>3|212=>259|0=>0|4=>4|46=>103|5=>5|9=>9|n=>n,fun|17=>5|n=>n⟩
theorem Tryz.laysM284:Go.Proofs.LaysM.n284 Tryz.prog Tryz.laysM284_ren:={
 mixed:=by kernel_rfl
 f129:=Tryz.func255.trans (congrArg some (by kernel_rfl))
 f284:=Tryz.func239.trans (congrArg some (by kernel_rfl))
 f317:=Tryz.func254.trans (congrArg some (by kernel_rfl))
 f318:=Tryz.func256.trans (congrArg some (by kernel_rfl))
 t0:=Tryz.underlying0
 a0:=Tryz.isAgg0
 z0:=Tryz.sizeOf0
 v0:=Tryz.zeroValue0
 t3:=Tryz.underlying3
 a3:=Tryz.isAgg3
 z3:=Tryz.sizeOf3
 v3:=Tryz.zeroValue3
 t4:=Tryz.underlying4
 a4:=Tryz.isAgg4
 z4:=Tryz.sizeOf4
 v4:=Tryz.zeroValue4
 t5:=Tryz.underlying5
 a5:=Tryz.isAgg5
 z5:=Tryz.sizeOf5
 v5:=Tryz.zeroValue5
 t9:=Tryz.underlying9
 a9:=Tryz.isAgg9
 z9:=Tryz.sizeOf9
 v9:=Tryz.zeroValue9
 t46:=Tryz.underlying103
 a46:=Tryz.isAgg103
 z46:=Tryz.sizeOf103
 v46:=Tryz.zeroValue103
 t53:=Tryz.underlying192
 a53:=Tryz.isAgg192
 z53:=Tryz.sizeOf192
 v53:=Tryz.zeroValue192
 t212:=Tryz.underlying259
 a212:=Tryz.isAgg259
 z212:=Tryz.sizeOf259
 v212:=Tryz.zeroValue259
 g17:=by kernel_rfl
 i0:=by kernel_rfl
 i3:=by kernel_rfl
 i4:=by kernel_rfl
 i5:=by kernel_rfl
 i9:=by kernel_rfl
 i46:=by kernel_rfl
 i53:=by kernel_rfl
 i212:=by kernel_rfl
 m17:=by kernel_rfl }
open Go.Lib in
theorem Tryz.internal_strconv_numDigits (u : Nat) (h1 : 1 ≤ u) (h2 : u < 18446744073709551616) (w : World) (htab : Lib.TabIs Tryz.prog w "internal/strconv.uint64pow10" .u64 Lib.pow10Tab) :
  Calls Tryz.prog 239 #[.int .u64 u] w fun e w'=>e=.returned (.int .i64 (Lib.nDigits u))∧w'=w:=Any.internal_strconv_numDigits Tryz.laysM284 u h1 h2 w htab
def Tryz.lays285_ren:Go.Shelf.Ren:=⟨fun|285=>240|n=>n,fun|37=>100|53=>192|3=>3|4=>4|51=>246|9=>9|5=>5|0=>0|n=>n,fun|n=>n⟩
theorem Tryz.lays285:Go.Proofs.Lays.n285 Tryz.prog Tryz.lays285_ren:={
 mixed:=by kernel_rfl
 f285:=Tryz.func240.trans (congrArg some (by kernel_rfl))
 t0:=Tryz.underlying0
 a0:=Tryz.isAgg0
 z0:=Tryz.sizeOf0
 v0:=Tryz.zeroValue0
 t3:=Tryz.underlying3
 a3:=Tryz.isAgg3
 z3:=Tryz.sizeOf3
 v3:=Tryz.zeroValue3
 t4:=Tryz.underlying4
 a4:=Tryz.isAgg4
 z4:=Tryz.sizeOf4
 v4:=Tryz.zeroValue4
 t5:=Tryz.underlying5
 a5:=Tryz.isAgg5
 z5:=Tryz.sizeOf5
 v5:=Tryz.zeroValue5
 t9:=Tryz.underlying9
 a9:=Tryz.isAgg9
 z9:=Tryz.sizeOf9
 v9:=Tryz.zeroValue9
 t37:=Tryz.underlying100
 a37:=Tryz.isAgg100
 z37:=Tryz.sizeOf100
 v37:=Tryz.zeroValue100
 t51:=Tryz.underlying246
 a51:=Tryz.isAgg246
 z51:=Tryz.sizeOf246
 v51:=Tryz.zeroValue246
 t53:=Tryz.underlying192
 a53:=Tryz.isAgg192
 z53:=Tryz.sizeOf192
 v53:=Tryz.zeroValue192 }
open Go.RowKit Go.Sort Go.Lib in
theorem Tryz.internal_strconv_formatBase10(blk off cap:Nat)(u:Nat)(d:Array UInt8)(w:World)(hH:Holds (fun (b:UInt8)=>Value.int .u8 (b.toNat:Int)) w blk off d)(hu:u<10^d.size)(hu64:u<18446744073709551616)(hsz:d.size<4611686018427387904):
  Calls Tryz.prog 240 #[.slice (some ⟨blk,off,none⟩) d.size cap,.int .u64 u] w fun e w' =>
   e=.returned (.tuple #[])∧∃(n v':Nat) (dk:Array UInt8),w'=(putRow (fun (b:UInt8)=>Value.int .u8 (b.toNat:Int)) w blk off dk).drewN n∧FmtInv d.size u 0 v' dk:=Any.internal_strconv_formatBase10 Tryz.lays285 blk off cap u d w hH hu hu64 hsz
def Tryz.laysM171_ren:Go.Shelf.Ren:=⟨fun|171=>149|243=>178|246=>214|283=>238|284=>239|285=>240|286=>241|129=>255|317=>254|318=>256|319=>257|320=>258|337=>261|338=>262|n=>n,fun|3=>3|9=>9|2=>2|4=>4|171=>238|0=>0|53=>192|37=>100|5=>5|173=>241|212=>259|51=>246|20=>20|213=>260|46=>103|232=>266|233=>267|n=>n,fun|17=>5|18=>6|19=>7|n=>n⟩
theorem Tryz.laysM171:Go.Proofs.LaysM.n171 Tryz.prog Tryz.laysM171_ren:={
 mixed:=by kernel_rfl
 f129:=Tryz.func255.trans (congrArg some (by kernel_rfl))
 f171:=Tryz.func149.trans (congrArg some (by kernel_rfl))
 f243:=Tryz.func178.trans (congrArg some (by kernel_rfl))
 f246:=Tryz.func214.trans (congrArg some (by kernel_rfl))
 f283:=Tryz.func238.trans (congrArg some (by kernel_rfl))
 f284:=Tryz.func239.trans (congrArg some (by kernel_rfl))
 f285:=Tryz.func240.trans (congrArg some (by kernel_rfl))
 f286:=Tryz.func241.trans (congrArg some (by kernel_rfl))
 f317:=Tryz.func254.trans (congrArg some (by kernel_rfl))
 f318:=Tryz.func256.trans (congrArg some (by kernel_rfl))
 f319:=Tryz.func257.trans (congrArg some (by kernel_rfl))
 f320:=Tryz.func258.trans (congrArg some (by kernel_rfl))
 f337:=Tryz.func261.trans (congrArg some (by kernel_rfl))
 f338:=Tryz.func262.trans (congrArg some (by kernel_rfl))
 t0:=Tryz.underlying0
 a0:=Tryz.isAgg0
 z0:=Tryz.sizeOf0
 v0:=Tryz.zeroValue0
 t2:=Tryz.underlying2
 a2:=Tryz.isAgg2
 z2:=Tryz.sizeOf2
 v2:=Tryz.zeroValue2
 t3:=Tryz.underlying3
 a3:=Tryz.isAgg3
 z3:=Tryz.sizeOf3
 v3:=Tryz.zeroValue3
 t4:=Tryz.underlying4
 a4:=Tryz.isAgg4
 z4:=Tryz.sizeOf4
 v4:=Tryz.zeroValue4
 t5:=Tryz.underlying5
 a5:=Tryz.isAgg5
 z5:=Tryz.sizeOf5
 v5:=Tryz.zeroValue5
 t9:=Tryz.underlying9
 a9:=Tryz.isAgg9
 z9:=Tryz.sizeOf9
 v9:=Tryz.zeroValue9
 t20:=Tryz.underlying20
 a20:=Tryz.isAgg20
 z20:=Tryz.sizeOf20
 v20:=Tryz.zeroValue20
 t37:=Tryz.underlying100
 a37:=Tryz.isAgg100
 z37:=Tryz.sizeOf100
 v37:=Tryz.zeroValue100
 t46:=Tryz.underlying103
 a46:=Tryz.isAgg103
 z46:=Tryz.sizeOf103
 v46:=Tryz.zeroValue103
 t51:=Tryz.underlying246
 a51:=Tryz.isAgg246
 z51:=Tryz.sizeOf246
 v51:=Tryz.zeroValue246
 t53:=Tryz.underlying192
 a53:=Tryz.isAgg192
 z53:=Tryz.sizeOf192
 v53:=Tryz.zeroValue192
 t171:=Tryz.underlying238
 a171:=Tryz.isAgg238
 z171:=Tryz.sizeOf238
 v171:=Tryz.zeroValue238
 t173:=Tryz.underlying241
 a173:=Tryz.isAgg241
 z173:=Tryz.sizeOf241
 v173:=Tryz.zeroValue241
 t212:=Tryz.underlying259
 a212:=Tryz.isAgg259
 z212:=Tryz.sizeOf259
 v212:=Tryz.zeroValue259
 t213:=Tryz.underlying260
 a213:=Tryz.isAgg260
 z213:=Tryz.sizeOf260
 t232:=Tryz.underlying266
 a232:=Tryz.isAgg266
 z232:=Tryz.sizeOf266
 v232:=Tryz.zeroValue266
 t233:=Tryz.underlying267
 a233:=Tryz.isAgg267
 z233:=Tryz.sizeOf267
 v233:=Tryz.zeroValue267
 g17:=by kernel_rfl
 g18:=by kernel_rfl
 g19:=by kernel_rfl
 i0:=by kernel_rfl
 i2:=by kernel_rfl
 i3:=by kernel_rfl
 i4:=by kernel_rfl
 i5:=by kernel_rfl
 i9:=by kernel_rfl
 i20:=by kernel_rfl
 i37:=by kernel_rfl
 i46:=by kernel_rfl
 i51:=by kernel_rfl
 i53:=by kernel_rfl
 i171:=by kernel_rfl
 i173:=by kernel_rfl
 i212:=by kernel_rfl
 i232:=by kernel_rfl
 i233:=by kernel_rfl
 m17:=by kernel_rfl
 m18:=by kernel_rfl
 m19:=by kernel_rfl }
open Go.RowKit Go.Sort Go.Lib in
theorem Tryz.strconv_Itoa (n : Int) (h0 : -9223372036854775808 ≤ n) (h1 : n ≤ 9223372036854775807) (w : World) (htab : Lib.TabIs Tryz.prog w "internal/strconv.uint64pow10" .u64 Lib.pow10Tab) :
  Calls Tryz.prog 149 #[.int .i64 n] w fun e w'=>e=.returned (.string ⟨(Lib.itoa n).toArray⟩)∧∃k os,w'=grow (w.drewN k) os:=Any.strconv_Itoa Tryz.laysM171 n h0 h1 w htab
def Tryz.laysC172_ren:Go.Shelf.Ren:=⟨fun|172=>148|244=>176|245=>177|247=>209|279=>210|280=>211|281=>212|282=>213|287=>218|316=>236|171=>149|205=>237|321=>243|322=>244|243=>178|246=>214|283=>238|284=>239|285=>240|286=>241|129=>255|317=>254|318=>256|319=>257|320=>258|337=>261|338=>262|n=>n,fun|9=>9|3=>3|75=>157|76=>158|4=>4|5=>5|167=>210|37=>100|0=>0|85=>211|2=>2|168=>213|53=>192|175=>193|46=>103|210=>236|127=>222|145=>257|143=>255|21=>21|171=>238|173=>241|212=>259|51=>246|20=>20|213=>260|232=>266|233=>267|80=>202|n=>n,fun|15=>3|16=>4|17=>5|18=>6|19=>7|n=>n⟩
theorem Tryz.laysC172:Go.Proofs.LaysC.n172 Tryz.prog Tryz.laysC172_ren:={
 mixed:=by kernel_rfl
 f129:=Tryz.func255.trans (congrArg some (by kernel_rfl))
 f171:=Tryz.func149.trans (congrArg some (by kernel_rfl))
 f172:=Tryz.func148.trans (congrArg some (by kernel_rfl))
 f205:=Tryz.func237.trans (congrArg some (by kernel_rfl))
 f243:=Tryz.func178.trans (congrArg some (by kernel_rfl))
 f244:=Tryz.func176.trans (congrArg some (by kernel_rfl))
 f245:=Tryz.func177.trans (congrArg some (by kernel_rfl))
 f246:=Tryz.func214.trans (congrArg some (by kernel_rfl))
 f247:=Tryz.func209.trans (congrArg some (by kernel_rfl))
 f279:=Tryz.func210.trans (congrArg some (by kernel_rfl))
 f280:=Tryz.func211.trans (congrArg some (by kernel_rfl))
 f281:=Tryz.func212.trans (congrArg some (by kernel_rfl))
 f282:=Tryz.func213.trans (congrArg some (by kernel_rfl))
 f283:=Tryz.func238.trans (congrArg some (by kernel_rfl))
 f284:=Tryz.func239.trans (congrArg some (by kernel_rfl))
 f285:=Tryz.func240.trans (congrArg some (by kernel_rfl))
 f286:=Tryz.func241.trans (congrArg some (by kernel_rfl))
 f287:=Tryz.func218.trans (congrArg some (by kernel_rfl))
 f316:=Tryz.func236.trans (congrArg some (by kernel_rfl))
 f317:=Tryz.func254.trans (congrArg some (by kernel_rfl))
 f318:=Tryz.func256.trans (congrArg some (by kernel_rfl))
 f319:=Tryz.func257.trans (congrArg some (by kernel_rfl))
 f320:=Tryz.func258.trans (congrArg some (by kernel_rfl))
 f321:=Tryz.func243.trans (congrArg some (by kernel_rfl))
 f322:=Tryz.func244.trans (congrArg some (by kernel_rfl))
 f337:=Tryz.func261.trans (congrArg some (by kernel_rfl))
 f338:=Tryz.func262.trans (congrArg some (by kernel_rfl))
 t0:=Tryz.underlying0
 a0:=Tryz.isAgg0
 z0:=Tryz.sizeOf0
 v0:=Tryz.zeroValue0
 t2:=Tryz.underlying2
 a2:=Tryz.isAgg2
 z2:=Tryz.sizeOf2
 v2:=Tryz.zeroValue2
 t3:=Tryz.underlying3
 a3:=Tryz.isAgg3
 z3:=Tryz.sizeOf3
 v3:=Tryz.zeroValue3
 t4:=Tryz.underlying4
 a4:=Tryz.isAgg4
 z4:=Tryz.sizeOf4
 v4:=Tryz.zeroValue4
 t5:=Tryz.underlying5
 a5:=Tryz.isAgg5
 z5:=Tryz.sizeOf5
 v5:=Tryz.zeroValue5
 t9:=Tryz.underlying9
 a9:=Tryz.isAgg9
 z9:=Tryz.sizeOf9
 v9:=Tryz.zeroValue9
 t20:=Tryz.underlying20
 a20:=Tryz.isAgg20
 z20:=Tryz.sizeOf20
 v20:=Tryz.zeroValue20
 t21:=Tryz.underlying21
 a21:=Tryz.isAgg21
 z21:=Tryz.sizeOf21
 v21:=Tryz.zeroValue21
 t37:=Tryz.underlying100
 a37:=Tryz.isAgg100
 z37:=Tryz.sizeOf100
 v37:=Tryz.zeroValue100
 t46:=Tryz.underlying103
 a46:=Tryz.isAgg103
 z46:=Tryz.sizeOf103
 v46:=Tryz.zeroValue103
 t51:=Tryz.underlying246
 a51:=Tryz.isAgg246
 z51:=Tryz.sizeOf246
 v51:=Tryz.zeroValue246
 t53:=Tryz.underlying192
 a53:=Tryz.isAgg192
 z53:=Tryz.sizeOf192
 v53:=Tryz.zeroValue192
 t75:=Tryz.underlying157
 a75:=Tryz.isAgg157
 z75:=Tryz.sizeOf157
 v75:=Tryz.zeroValue157
 t76:=Tryz.underlying158
 a76:=Tryz.isAgg158
 z76:=Tryz.sizeOf158
 v76:=Tryz.zeroValue158
 t85:=Tryz.underlying211
 a85:=Tryz.isAgg211
 z85:=Tryz.sizeOf211
 v85:=Tryz.zeroValue211
 t127:=Tryz.underlying222
 a127:=Tryz.isAgg222
 z127:=Tryz.sizeOf222
 v127:=Tryz.zeroValue222
 t143:=Tryz.underlying255
 a143:=Tryz.isAgg255
 z143:=Tryz.sizeOf255
 v143:=Tryz.zeroValue255
 t145:=Tryz.underlying257
 a145:=Tryz.isAgg257
 z145:=Tryz.sizeOf257
 v145:=Tryz.zeroValue257
 t167:=Tryz.underlying210
 a167:=Tryz.isAgg210
 z167:=Tryz.sizeOf210
 v167:=Tryz.zeroValue210
 t168:=Tryz.underlying213
 a168:=Tryz.isAgg213
 z168:=Tryz.sizeOf213
 v168:=Tryz.zeroValue213
 t171:=Tryz.underlying238
 a171:=Tryz.isAgg238
 z171:=Tryz.sizeOf238
 v171:=Tryz.zeroValue238
 t173:=Tryz.underlying241
 a173:=Tryz.isAgg241
 z173:=Tryz.sizeOf241
 v173:=Tryz.zeroValue241
 t175:=Tryz.underlying193
 a175:=Tryz.isAgg193
 z175:=Tryz.sizeOf193
 v175:=Tryz.zeroValue193
 t210:=Tryz.underlying236
 a210:=Tryz.isAgg236
 z210:=Tryz.sizeOf236
 v210:=Tryz.zeroValue236
 t212:=Tryz.underlying259
 a212:=Tryz.isAgg259
 z212:=Tryz.sizeOf259
 v212:=Tryz.zeroValue259
 t213:=Tryz.underlying260
 a213:=Tryz.isAgg260
 z213:=Tryz.sizeOf260
 t232:=Tryz.underlying266
 a232:=Tryz.isAgg266
 z232:=Tryz.sizeOf266
 v232:=Tryz.zeroValue266
 t233:=Tryz.underlying267
 a233:=Tryz.isAgg267
 z233:=Tryz.sizeOf267
 v233:=Tryz.zeroValue267
 g15:=by kernel_rfl
 g16:=by kernel_rfl
 g17:=by kernel_rfl
 g18:=by kernel_rfl
 g19:=by kernel_rfl
 t80:=Tryz.underlying202
 a80:=Tryz.isAgg202
 z80:=Tryz.sizeOf202
 v80:=Tryz.zeroValue202
 i0:=by kernel_rfl
 i2:=by kernel_rfl
 i3:=by kernel_rfl
 i4:=by kernel_rfl
 i5:=by kernel_rfl
 i9:=by kernel_rfl
 i20:=by kernel_rfl
 i21:=by kernel_rfl
 i37:=by kernel_rfl
 i46:=by kernel_rfl
 i51:=by kernel_rfl
 i53:=by kernel_rfl
 i75:=by kernel_rfl
 i76:=by kernel_rfl
 i80:=by kernel_rfl
 i85:=by kernel_rfl
 i127:=by kernel_rfl
 i143:=by kernel_rfl
 i145:=by kernel_rfl
 i167:=by kernel_rfl
 i168:=by kernel_rfl
 i171:=by kernel_rfl
 i173:=by kernel_rfl
 i175:=by kernel_rfl
 i210:=by kernel_rfl
 i212:=by kernel_rfl
 i232:=by kernel_rfl
 i233:=by kernel_rfl
 m15:=by kernel_rfl
 m16:=by kernel_rfl
 m17:=by kernel_rfl
 m18:=by kernel_rfl
 m19:=by kernel_rfl
 c0:=by kernel_rfl
 c2:=by kernel_rfl
 c3:=by kernel_rfl
 c4:=by kernel_rfl
 c5:=by kernel_rfl
 c9:=by kernel_rfl
 c20:=by kernel_rfl
 c21:=by kernel_rfl
 c37:=by kernel_rfl
 c46:=by kernel_rfl
 c51:=by kernel_rfl
 c53:=by kernel_rfl
 c75:=by kernel_rfl
 c76:=by kernel_rfl
 c80:=by kernel_rfl
 c85:=by kernel_rfl
 c127:=by kernel_rfl
 c143:=by kernel_rfl
 c145:=by kernel_rfl
 c167:=by kernel_rfl
 c168:=by kernel_rfl
 c171:=by kernel_rfl
 c173:=by kernel_rfl
 c175:=by kernel_rfl
 c210:=by kernel_rfl
 c212:=by kernel_rfl
 c213:=by kernel_rfl
 c232:=by kernel_rfl
 c233:=by kernel_rfl }
open Go.RowKit in
theorem Tryz.strconv_Atoi_ok(s:ByteArray)(hmax:s.size≤9223372036854775806)(v:Int)(h:Lib.atoiAll s.data.toList=.ok v)(w:World):
  Calls Tryz.prog 148 #[.string s] w fun e w'=>e=.returned (.tuple #[.int .i64 v,.nilIface])∧(w'=w∨∃t,w'=Lib.bytesWorld w 5 t):=Any.strconv_Atoi_ok Tryz.laysC172 s hmax v h w
open Go.RowKit in
theorem Tryz.strconv_Atoi_range(s:ByteArray)(hlim:s.size≤281474976710656)(h:Lib.atoiAll s.data.toList=.range)(ev:Value)(w:World)(hv:w.cell? ⟨4,0,none⟩=some ev)(hev:ev=.nilIface∨∃te pe,ev=.iface te pe):
  Calls Tryz.prog 148 #[.string s] w fun e w'=>∃N,e=.returned (.tuple #[.int .i64 (Lib.atoiSat s.data.toList),.iface 213 (.pointer (some ⟨N,0,none⟩))])∧w.heap.size≤N∧w'.heap[N]?=some (.cells #[.string ⟨#[65,116,111,105]⟩,.string s,ev] 236 (0,0))∧Below w.heap.size w w':=Any.strconv_Atoi_range Tryz.laysC172 s hlim h ev w hv hev
def Tryz.laysPu14_ren:Go.Shelf.Ren:=⟨fun|14=>182|16=>218|17=>177|19=>243|20=>244|21=>210|22=>211|23=>212|24=>213|25=>236|27=>149|26=>237|28=>178|29=>214|30=>238|31=>239|32=>240|33=>241|35=>255|34=>254|36=>256|37=>257|38=>258|39=>261|40=>262|n=>n,fun|9=>9|3=>3|22=>192|24=>157|25=>193|4=>4|34=>210|5=>5|36=>103|37=>100|0=>0|39=>213|21=>21|44=>236|47=>222|50=>257|48=>255|2=>2|52=>238|55=>241|59=>259|60=>246|20=>20|61=>260|65=>266|66=>267|67=>202|n=>n,fun|0=>3|1=>4|2=>5|3=>6|4=>7|n=>n⟩
theorem Tryz.laysPu14:Go.Proofs.LaysPu.n14 Tryz.prog Tryz.laysPu14_ren:={
 mixed:=by kernel_rfl
 f14:=Tryz.func182.trans (congrArg some (by kernel_rfl))
 f16:=Tryz.func218.trans (congrArg some (by kernel_rfl))
 f17:=Tryz.func177.trans (congrArg some (by kernel_rfl))
 f19:=Tryz.func243.trans (congrArg some (by kernel_rfl))
 f20:=Tryz.func244.trans (congrArg some (by kernel_rfl))
 f21:=Tryz.func210.trans (congrArg some (by kernel_rfl))
 f22:=Tryz.func211.trans (congrArg some (by kernel_rfl))
 f23:=Tryz.func212.trans (congrArg some (by kernel_rfl))
 f24:=Tryz.func213.trans (congrArg some (by kernel_rfl))
 f25:=Tryz.func236.trans (congrArg some (by kernel_rfl))
 f26:=Tryz.func237.trans (congrArg some (by kernel_rfl))
 f27:=Tryz.func149.trans (congrArg some (by kernel_rfl))
 f28:=Tryz.func178.trans (congrArg some (by kernel_rfl))
 f29:=Tryz.func214.trans (congrArg some (by kernel_rfl))
 f30:=Tryz.func238.trans (congrArg some (by kernel_rfl))
 f31:=Tryz.func239.trans (congrArg some (by kernel_rfl))
 f32:=Tryz.func240.trans (congrArg some (by kernel_rfl))
 f33:=Tryz.func241.trans (congrArg some (by kernel_rfl))
 f34:=Tryz.func254.trans (congrArg some (by kernel_rfl))
 f35:=Tryz.func255.trans (congrArg some (by kernel_rfl))
 f36:=Tryz.func256.trans (congrArg some (by kernel_rfl))
 f37:=Tryz.func257.trans (congrArg some (by kernel_rfl))
 f38:=Tryz.func258.trans (congrArg some (by kernel_rfl))
 f39:=Tryz.func261.trans (congrArg some (by kernel_rfl))
 f40:=Tryz.func262.trans (congrArg some (by kernel_rfl))
 t0:=Tryz.underlying0
 a0:=Tryz.isAgg0
 z0:=Tryz.sizeOf0
 v0:=Tryz.zeroValue0
 i0:=by kernel_rfl
 t2:=Tryz.underlying2
 a2:=Tryz.isAgg2
 z2:=Tryz.sizeOf2
 v2:=Tryz.zeroValue2
 i2:=by kernel_rfl
 t3:=Tryz.underlying3
 a3:=Tryz.isAgg3
 z3:=Tryz.sizeOf3
 v3:=Tryz.zeroValue3
 i3:=by kernel_rfl
 t4:=Tryz.underlying4
 a4:=Tryz.isAgg4
 z4:=Tryz.sizeOf4
 v4:=Tryz.zeroValue4
 i4:=by kernel_rfl
 t5:=Tryz.underlying5
 a5:=Tryz.isAgg5
 z5:=Tryz.sizeOf5
 v5:=Tryz.zeroValue5
 i5:=by kernel_rfl
 t9:=Tryz.underlying9
 a9:=Tryz.isAgg9
 z9:=Tryz.sizeOf9
 v9:=Tryz.zeroValue9
 i9:=by kernel_rfl
 t20:=Tryz.underlying20
 a20:=Tryz.isAgg20
 z20:=Tryz.sizeOf20
 v20:=Tryz.zeroValue20
 i20:=by kernel_rfl
 t21:=Tryz.underlying21
 a21:=Tryz.isAgg21
 z21:=Tryz.sizeOf21
 v21:=Tryz.zeroValue21
 i21:=by kernel_rfl
 t22:=Tryz.underlying192
 a22:=Tryz.isAgg192
 z22:=Tryz.sizeOf192
 v22:=Tryz.zeroValue192
 i22:=by kernel_rfl
 t24:=Tryz.underlying157
 a24:=Tryz.isAgg157
 z24:=Tryz.sizeOf157
 v24:=Tryz.zeroValue157
 i24:=by kernel_rfl
 t25:=Tryz.underlying193
 a25:=Tryz.isAgg193
 z25:=Tryz.sizeOf193
 v25:=Tryz.zeroValue193
 i25:=by kernel_rfl
 t34:=Tryz.underlying210
 a34:=Tryz.isAgg210
 z34:=Tryz.sizeOf210
 v34:=Tryz.zeroValue210
 i34:=by kernel_rfl
 c34:=by kernel_rfl
 t36:=Tryz.underlying103
 a36:=Tryz.isAgg103
 z36:=Tryz.sizeOf103
 v36:=Tryz.zeroValue103
 i36:=by kernel_rfl
 t37:=Tryz.underlying100
 a37:=Tryz.isAgg100
 z37:=Tryz.sizeOf100
 v37:=Tryz.zeroValue100
 i37:=by kernel_rfl
 t39:=Tryz.underlying213
 a39:=Tryz.isAgg213
 z39:=Tryz.sizeOf213
 v39:=Tryz.zeroValue213
 i39:=by kernel_rfl
 t44:=Tryz.underlying236
 a44:=Tryz.isAgg236
 z44:=Tryz.sizeOf236
 v44:=Tryz.zeroValue236
 i44:=by kernel_rfl
 t47:=Tryz.underlying222
 a47:=Tryz.isAgg222
 z47:=Tryz.sizeOf222
 v47:=Tryz.zeroValue222
 i47:=by kernel_rfl
 t48:=Tryz.underlying255
 a48:=Tryz.isAgg255
 z48:=Tryz.sizeOf255
 v48:=Tryz.zeroValue255
 i48:=by kernel_rfl
 t50:=Tryz.underlying257
 a50:=Tryz.isAgg257
 z50:=Tryz.sizeOf257
 v50:=Tryz.zeroValue257
 i50:=by kernel_rfl
 t52:=Tryz.underlying238
 a52:=Tryz.isAgg238
 z52:=Tryz.sizeOf238
 v52:=Tryz.zeroValue238
 i52:=by kernel_rfl
 t55:=Tryz.underlying241
 a55:=Tryz.isAgg241
 z55:=Tryz.sizeOf241
 v55:=Tryz.zeroValue241
 i55:=by kernel_rfl
 t59:=Tryz.underlying259
 a59:=Tryz.isAgg259
 z59:=Tryz.sizeOf259
 v59:=Tryz.zeroValue259
 i59:=by kernel_rfl
 t60:=Tryz.underlying246
 a60:=Tryz.isAgg246
 z60:=Tryz.sizeOf246
 v60:=Tryz.zeroValue246
 i60:=by kernel_rfl
 t61:=Tryz.underlying260
 a61:=Tryz.isAgg260
 z61:=Tryz.sizeOf260
 t65:=Tryz.underlying266
 a65:=Tryz.isAgg266
 z65:=Tryz.sizeOf266
 v65:=Tryz.zeroValue266
 i65:=by kernel_rfl
 t66:=Tryz.underlying267
 a66:=Tryz.isAgg267
 z66:=Tryz.sizeOf267
 v66:=Tryz.zeroValue267
 i66:=by kernel_rfl
 t67:=Tryz.underlying202
 a67:=Tryz.isAgg202
 z67:=Tryz.sizeOf202
 v67:=Tryz.zeroValue202
 i67:=by kernel_rfl
 g0:=by kernel_rfl
 m0:=by kernel_rfl
 g1:=by kernel_rfl
 m1:=by kernel_rfl
 g2:=by kernel_rfl
 m2:=by kernel_rfl
 g3:=by kernel_rfl
 m3:=by kernel_rfl
 g4:=by kernel_rfl
 m4:=by kernel_rfl }
open Go.RowKit in
theorem Tryz.strconv_ParseUint_10_at64_ok(s:ByteArray)(hmax:s.size≤9223372036854775806)(u:Nat)(h:Lib.parseUintB 64 s.data.toList=.ok u)(w:World):
  Calls Tryz.prog 182 #[.string s,.int .i64 10,.int .i64 64] w fun e w'=>e=.returned (.tuple #[.int .u64 u,.nilIface])∧(w'=w∨w'=Lib.bytesWorld w 5 s):=Any.strconv_ParseUint_10_at64_ok Tryz.laysPu14 s hmax u h w
def Tryz.lays145_ren:Go.Shelf.Ren:=⟨fun|145=>147|220=>175|219=>208|217=>234|225=>233|224=>232|267=>235|266=>252|314=>253|n=>n,fun|9=>9|4=>4|59=>154|3=>3|5=>5|46=>103|146=>247|51=>246|n=>n,fun|1=>2|n=>n⟩
theorem Tryz.lays145:Go.Proofs.Lays.n145 Tryz.prog Tryz.lays145_ren:={
 mixed:=by kernel_rfl
 f145:=Tryz.func147.trans (congrArg some (by kernel_rfl))
 f217:=Tryz.func234.trans (congrArg some (by kernel_rfl))
 f219:=Tryz.func208.trans (congrArg some (by kernel_rfl))
 f220:=Tryz.func175.trans (congrArg some (by kernel_rfl))
 f224:=Tryz.func232.trans (congrArg some (by kernel_rfl))
 f225:=Tryz.func233.trans (congrArg some (by kernel_rfl))
 f266:=Tryz.func252.trans (congrArg some (by kernel_rfl))
 f267:=Tryz.func235.trans (congrArg some (by kernel_rfl))
 f314:=Tryz.func253.trans (congrArg some (by kernel_rfl))
 t3:=Tryz.underlying3
 a3:=Tryz.isAgg3
 z3:=Tryz.sizeOf3
 v3:=Tryz.zeroValue3
 t4:=Tryz.underlying4
 a4:=Tryz.isAgg4
 z4:=Tryz.sizeOf4
 v4:=Tryz.zeroValue4
 t5:=Tryz.underlying5
 a5:=Tryz.isAgg5
 z5:=Tryz.sizeOf5
 v5:=Tryz.zeroValue5
 t9:=Tryz.underlying9
 a9:=Tryz.isAgg9
 z9:=Tryz.sizeOf9
 v9:=Tryz.zeroValue9
 t46:=Tryz.underlying103
 a46:=Tryz.isAgg103
 z46:=Tryz.sizeOf103
 v46:=Tryz.zeroValue103
 t51:=Tryz.underlying246
 a51:=Tryz.isAgg246
 z51:=Tryz.sizeOf246
 v51:=Tryz.zeroValue246
 t59:=Tryz.underlying154
 a59:=Tryz.isAgg154
 z59:=Tryz.sizeOf154
 v59:=Tryz.zeroValue154
 t146:=Tryz.underlying247
 a146:=Tryz.isAgg247
 z146:=Tryz.sizeOf247
 v146:=Tryz.zeroValue247
 g1:=by kernel_rfl }
open Go.RowKit Go.Lib in
theorem Tryz.strings_Cut(s sep:ByteArray)(m:Int)(w:World)(hs:s.size<4294967281)(hm:w.cell? ⟨2,0,none⟩=some (.int .i64 m)):
  Calls Tryz.prog 147 #[.string s,.string sep] w fun e w'=>e=.returned (.tuple #[.string ⟨(Lib.cut s.data.toList sep.data.toList).1.toArray⟩,.string ⟨(Lib.cut s.data.toList sep.data.toList).2.1.toArray⟩,.bool (Lib.cut s.data.toList sep.data.toList).2.2])∧∃n,w'=w.drewN n:=Any.strings_Cut Tryz.lays145 s sep m w hs hm
def Tryz.lays105_ren:Go.Shelf.Ren:=⟨fun|105=>187|212=>221|99=>222|165=>223|166=>185|170=>224|169=>188|263=>246|264=>247|206=>204|240=>219|241=>248|276=>245|277=>259|n=>n,fun|9=>9|3=>3|4=>4|20=>20|0=>0|46=>103|109=>218|5=>5|72=>198|76=>158|51=>246|146=>247|53=>192|148=>249|70=>196|37=>100|75=>157|127=>222|164=>244|80=>202|n=>n,fun|n=>n⟩
theorem Tryz.lays105:Go.Proofs.Lays.n105 Tryz.prog Tryz.lays105_ren:={
 mixed:=by kernel_rfl
 f99:=Tryz.func222.trans (congrArg some (by kernel_rfl))
 f105:=Tryz.func187.trans (congrArg some (by kernel_rfl))
 f165:=Tryz.func223.trans (congrArg some (by kernel_rfl))
 f166:=Tryz.func185.trans (congrArg some (by kernel_rfl))
 f169:=Tryz.func188.trans (congrArg some (by kernel_rfl))
 f170:=Tryz.func224.trans (congrArg some (by kernel_rfl))
 f206:=Tryz.func204.trans (congrArg some (by kernel_rfl))
 f212:=Tryz.func221.trans (congrArg some (by kernel_rfl))
 f240:=Tryz.func219.trans (congrArg some (by kernel_rfl))
 f241:=Tryz.func248.trans (congrArg some (by kernel_rfl))
 f263:=Tryz.func246.trans (congrArg some (by kernel_rfl))
 f264:=Tryz.func247.trans (congrArg some (by kernel_rfl))
 f276:=Tryz.func245.trans (congrArg some (by kernel_rfl))
 f277:=Tryz.func259.trans (congrArg some (by kernel_rfl))
 t0:=Tryz.underlying0
 a0:=Tryz.isAgg0
 z0:=Tryz.sizeOf0
 v0:=Tryz.zeroValue0
 t3:=Tryz.underlying3
 a3:=Tryz.isAgg3
 z3:=Tryz.sizeOf3
 v3:=Tryz.zeroValue3
 t4:=Tryz.underlying4
 a4:=Tryz.isAgg4
 z4:=Tryz.sizeOf4
 v4:=Tryz.zeroValue4
 t5:=Tryz.underlying5
 a5:=Tryz.isAgg5
 z5:=Tryz.sizeOf5
 v5:=Tryz.zeroValue5
 t9:=Tryz.underlying9
 a9:=Tryz.isAgg9
 z9:=Tryz.sizeOf9
 v9:=Tryz.zeroValue9
 t20:=Tryz.underlying20
 a20:=Tryz.isAgg20
 z20:=Tryz.sizeOf20
 v20:=Tryz.zeroValue20
 t37:=Tryz.underlying100
 a37:=Tryz.isAgg100
 z37:=Tryz.sizeOf100
 v37:=Tryz.zeroValue100
 t46:=Tryz.underlying103
 a46:=Tryz.isAgg103
 z46:=Tryz.sizeOf103
 v46:=Tryz.zeroValue103
 t51:=Tryz.underlying246
 a51:=Tryz.isAgg246
 z51:=Tryz.sizeOf246
 v51:=Tryz.zeroValue246
 t53:=Tryz.underlying192
 a53:=Tryz.isAgg192
 z53:=Tryz.sizeOf192
 v53:=Tryz.zeroValue192
 t70:=Tryz.underlying196
 a70:=Tryz.isAgg196
 z70:=Tryz.sizeOf196
 v70:=Tryz.zeroValue196
 t72:=Tryz.underlying198
 a72:=Tryz.isAgg198
 z72:=Tryz.sizeOf198
 v72:=Tryz.zeroValue198
 t75:=Tryz.underlying157
 a75:=Tryz.isAgg157
 z75:=Tryz.sizeOf157
 v75:=Tryz.zeroValue157
 t76:=Tryz.underlying158
 a76:=Tryz.isAgg158
 z76:=Tryz.sizeOf158
 v76:=Tryz.zeroValue158
 t109:=Tryz.underlying218
 a109:=Tryz.isAgg218
 z109:=Tryz.sizeOf218
 v109:=Tryz.zeroValue218
 t127:=Tryz.underlying222
 a127:=Tryz.isAgg222
 z127:=Tryz.sizeOf222
 v127:=Tryz.zeroValue222
 t146:=Tryz.underlying247
 a146:=Tryz.isAgg247
 z146:=Tryz.sizeOf247
 v146:=Tryz.zeroValue247
 t148:=Tryz.underlying249
 a148:=Tryz.isAgg249
 z148:=Tryz.sizeOf249
 v148:=Tryz.zeroValue249
 t164:=Tryz.underlying244
 a164:=Tryz.isAgg244
 z164:=Tryz.sizeOf244
 v164:=Tryz.zeroValue244 }
theorem Tryz.Builder_Extra_105:Builder.Extra Tryz.prog Tryz.lays105_ren:={
 sizeBuilder:=by kernel_rfl
 liesBuilder:=by kernel_rfl
 t5:=Tryz.underlying5
 a5:=Tryz.isAgg5
 z5:=Tryz.sizeOf5
 v5:=Tryz.zeroValue5
 infoByte:=by kernel_rfl
 cellsByte:=by kernel_rfl
 sizeByte:=by kernel_rfl
 neB5:=by decide }
open Go.RowKit Go.Lib in
theorem Tryz.strings_Repeat(s:ByteArray)(c:Nat)(w:World)(hc:c≤9223372036854775807)(hlen:s.size*c≤140737488355328):
  Calls Tryz.prog 187 #[.string s,.int .i64 c] w fun e w'=>e=.returned (.string ⟨(Lib.repeatL s.data.toList c).toArray⟩)∧Below w.heap.size w w':=Any.strings_Repeat Tryz.lays105 Tryz.Builder_Extra_105 s c w hc hlen
end Go.Proofs
end
section
namespace Go.Proofs
def Tryz.lays101_ren:Go.Shelf.Ren:=⟨fun|101=>139|208=>170|206=>204|n=>n,fun|9=>9|4=>4|3=>3|n=>n,fun|n=>n⟩
theorem Tryz.lays101:Go.Proofs.Lays.n101 Tryz.prog Tryz.lays101_ren:={
 mixed:=by kernel_rfl
 f101:=Tryz.func139.trans (congrArg some (by kernel_rfl))
 f206:=Tryz.func204.trans (congrArg some (by kernel_rfl))
 f208:=Tryz.func170.trans (congrArg some (by kernel_rfl))
 t3:=Tryz.underlying3
 a3:=Tryz.isAgg3
 z3:=Tryz.sizeOf3
 v3:=Tryz.zeroValue3
 t4:=Tryz.underlying4
 a4:=Tryz.isAgg4
 z4:=Tryz.sizeOf4
 v4:=Tryz.zeroValue4
 t9:=Tryz.underlying9
 a9:=Tryz.isAgg9
 z9:=Tryz.sizeOf9
 v9:=Tryz.zeroValue9 }
open Go.RowKit Go.Lib in
theorem Tryz.strings_TrimPrefix(s p:ByteArray)(w:World):
  Calls Tryz.prog 139 #[.string s,.string p] w fun e w'=>e=.returned (.string ⟨(Lib.trimPrefix s.data.toList p.data.toList).toArray⟩)∧w'=w:=Any.strings_TrimPrefix Tryz.lays101 s p w
end Go.Proofs
end
section
namespace Go.Proofs
def Tryz.lays193_ren:Go.Shelf.Ren:=⟨fun|193=>29|n=>n,fun|31=>45|9=>9|4=>4|3=>3|0=>0|n=>n,fun|n=>n⟩
theorem Tryz.lays193:Go.Proofs.Lays.n193 Tryz.prog Tryz.lays193_ren:={
 mixed:=by kernel_rfl
 f193:=Tryz.func29.trans (congrArg some (by kernel_rfl))
 t0:=Tryz.underlying0
 a0:=Tryz.isAgg0
 z0:=Tryz.sizeOf0
 v0:=Tryz.zeroValue0
 t3:=Tryz.underlying3
 a3:=Tryz.isAgg3
 z3:=Tryz.sizeOf3
 v3:=Tryz.zeroValue3
 t4:=Tryz.underlying4
 a4:=Tryz.isAgg4
 z4:=Tryz.sizeOf4
 v4:=Tryz.zeroValue4
 t9:=Tryz.underlying9
 a9:=Tryz.isAgg9
 z9:=Tryz.sizeOf9
 v9:=Tryz.zeroValue9
 t31:=Tryz.underlying45
 a31:=Tryz.isAgg45
 z31:=Tryz.sizeOf45
 v31:=Tryz.zeroValue45 }
open Go.RowKit Go.Lib in
theorem Tryz.slices_Equal_string(b1 o1 n c b2 o2 m d:Nat)(xs ys:List ByteArray)(w:World)(hx:n≤xs.length)(hy:m≤ys.length)(hbig:n≤9223372036854775807)(hbig2:m≤9223372036854775807)(hc1:∀j,j<xs.length→w.cell? ⟨b1,o1+j,none⟩=some (.string (xs.getD j ByteArray.empty)))(hc2:∀j,j<ys.length→w.cell? ⟨b2,o2+j,none⟩=some (.string (ys.getD j ByteArray.empty))):
  Calls Tryz.prog 29 #[.slice (some ⟨b1,o1,none⟩) n c,.slice (some ⟨b2,o2,none⟩) m d] w fun e w'=>e=.returned (.bool (decide (xs.take n=ys.take m)))∧∃q,w'=w.drewN q:=Any.slices_Equal_string Tryz.lays193 b1 o1 n c b2 o2 m d xs ys w hx hy hbig hbig2 hc1 hc2
open Go.RowKit Go.Lib in
theorem Tryz.slices_Equal_string_empty(a1 a2:Option Addr)(c m d:Nat)(w:World)(hbig2:m≤9223372036854775807):
  Calls Tryz.prog 29 #[.slice a1 0 c,.slice a2 m d] w fun e w'=>e=.returned (.bool (decide (m=0)))∧w'=w:=Any.slices_Equal_string_empty Tryz.lays193 a1 a2 c m d w hbig2
open Go.RowKit Go.Lib in
theorem Tryz.slices_Equal_string_lens(a1 a2:Option Addr)(n c m d:Nat)(w:World)(hnm:n≠m):
  Calls Tryz.prog 29 #[.slice a1 n c,.slice a2 m d] w fun e w'=>e=.returned (.bool false)∧w'=w:=Any.slices_Equal_string_lens Tryz.lays193 a1 a2 n c m d w hnm
end Go.Proofs
end
