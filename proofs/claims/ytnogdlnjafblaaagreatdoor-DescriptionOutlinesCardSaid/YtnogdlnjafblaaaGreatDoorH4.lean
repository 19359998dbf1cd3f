/- Steps of the proof. -/
import Derived.Shelf.Strings.Builder1
import Derived.Shelf.Strings.Builder2
import Derived.Shelf.Strings.OnBuilder
import Derived.Shelf.Small.Strs
import Derived.Shelf.Strings.BuilderF
import Derived.Shelf.Strings.BuilderK
import Derived.Shelf.Strconv.Itoa0
import Derived.Shelf.Strconv.Itoa1
import Derived.Shelf.LaysM
import Derived.Shelf.Strconv.Itoa2
import Derived.Shelf.Strconv.Itoa3
import Derived.Shelf.Strings.Search1
import Derived.Shelf.Strings.Search2
import Derived.Shelf.Strings.Search3
import Derived.Shelf.Strings.Count
import Derived.Shelf.Strings.Shaped
import Derived.Shelf.Strings.Prefix
import Derived.Shelf.Strings.Split
import Derived.Shelf.Strings.SplitShaped
import Derived.Shelf.Bits.Mul64
import Derived.Shelf.Strings.Repeat
import Derived.Shelf.Unicode.DecodeSlow
import Derived.Test.YtnogdlnjafblaaaGreatDoorProg
import Derived.Test.YtnogdlnjafblaaaGreatDoorH3
import Derived.Shelf.RegionOpen
set_option linter.all false
set_option maxHeartbeats 40000000
set_option maxRecDepth 100000
open Go.Proofs.Tryz
namespace Go.Proofs
open Go.Shelf
def Tryz.aJn:Go.Shelf.Ren:=⟨fun|169=>47|n=>n,fun|70=>121|9=>9|0=>0|72=>123|37=>45|127=>182|3=>3|5=>5|n=>n,fun|n=>n⟩
theorem Tryz.aBG:Go.Proofs.Lays.n169 prog Tryz.aJn:={
 mixed:=by kernel_rfl
 f169:=func47.trans (congrArg some (by kernel_rfl))
 t0:=underlying0
 a0:=Tryz.isAgg0
 z0:=Tryz.sizeOf0
 v0:=Tryz.zeroValue0
 t3:=underlying3
 a3:=Tryz.isAgg3
 z3:=Tryz.sizeOf3
 v3:=Tryz.zeroValue3
 t9:=underlying9
 a9:=Tryz.isAgg9
 z9:=Tryz.sizeOf9
 v9:=Tryz.zeroValue9
 t37:=underlying45
 a37:=Tryz.isAgg45
 z37:=Tryz.sizeOf45
 v37:=Tryz.zeroValue45
 t70:=underlying121
 a70:=Tryz.isAgg121
 z70:=Tryz.sizeOf121
 v70:=Tryz.zeroValue121
 t72:=underlying123
 a72:=Tryz.isAgg123
 z72:=Tryz.sizeOf123
 v72:=Tryz.zeroValue123
 t127:=underlying182
 a127:=Tryz.isAgg182
 z127:=Tryz.sizeOf182
 v127:=Tryz.zeroValue182 }
theorem Tryz.aJj:Builder.Extra prog Tryz.aJn:={
 sizeBuilder:=by kernel_rfl
 liesBuilder:=by kernel_rfl
 t5:=underlying5
 a5:=Tryz.isAgg5
 z5:=Tryz.sizeOf5
 v5:=Tryz.zeroValue5
 infoByte:=by kernel_rfl
 cellsByte:=by kernel_rfl
 sizeByte:=by kernel_rfl
 neB5:=by decide }
def Tryz.aJo:Go.Shelf.Ren:=⟨fun|156=>45|165=>102|166=>103|169=>47|240=>137|241=>138|276=>162|277=>163|n=>n,fun|31=>55|9=>9|3=>3|4=>4|0=>0|20=>20|72=>123|76=>180|70=>121|37=>45|75=>179|127=>182|164=>237|5=>5|80=>47|n=>n,fun|n=>n⟩
theorem Tryz.aRM:Go.Proofs.Lays.n156 prog Tryz.aJo:={
 mixed:=by kernel_rfl
 f156:=func45.trans (congrArg some (by kernel_rfl))
 f165:=func102.trans (congrArg some (by kernel_rfl))
 f166:=func103.trans (congrArg some (by kernel_rfl))
 f169:=func47.trans (congrArg some (by kernel_rfl))
 f240:=func137.trans (congrArg some (by kernel_rfl))
 f241:=func138.trans (congrArg some (by kernel_rfl))
 f276:=func162.trans (congrArg some (by kernel_rfl))
 f277:=func163.trans (congrArg some (by kernel_rfl))
 t0:=underlying0
 a0:=Tryz.isAgg0
 z0:=Tryz.sizeOf0
 v0:=Tryz.zeroValue0
 t3:=underlying3
 a3:=Tryz.isAgg3
 z3:=Tryz.sizeOf3
 v3:=Tryz.zeroValue3
 t4:=underlying4
 a4:=Tryz.isAgg4
 z4:=Tryz.sizeOf4
 v4:=Tryz.zeroValue4
 t9:=underlying9
 a9:=Tryz.isAgg9
 z9:=Tryz.sizeOf9
 v9:=Tryz.zeroValue9
 t20:=underlying20
 a20:=Tryz.isAgg20
 z20:=Tryz.sizeOf20
 v20:=Tryz.zeroValue20
 t31:=underlying55
 a31:=Tryz.isAgg55
 z31:=Tryz.sizeOf55
 v31:=Tryz.zeroValue55
 t37:=underlying45
 a37:=Tryz.isAgg45
 z37:=Tryz.sizeOf45
 v37:=Tryz.zeroValue45
 t70:=underlying121
 a70:=Tryz.isAgg121
 z70:=Tryz.sizeOf121
 v70:=Tryz.zeroValue121
 t72:=underlying123
 a72:=Tryz.isAgg123
 z72:=Tryz.sizeOf123
 v72:=Tryz.zeroValue123
 t75:=underlying179
 a75:=Tryz.isAgg179
 z75:=Tryz.sizeOf179
 v75:=Tryz.zeroValue179
 t76:=underlying180
 a76:=Tryz.isAgg180
 z76:=Tryz.sizeOf180
 v76:=Tryz.zeroValue180
 t127:=underlying182
 a127:=Tryz.isAgg182
 z127:=Tryz.sizeOf182
 v127:=Tryz.zeroValue182
 t164:=underlying237
 a164:=Tryz.isAgg237
 z164:=Tryz.sizeOf237
 v164:=Tryz.zeroValue237 }
theorem Tryz.aRN:Builder.Extra prog Tryz.aJo:={
 sizeBuilder:=by kernel_rfl
 liesBuilder:=by kernel_rfl
 t5:=underlying5
 a5:=Tryz.isAgg5
 z5:=Tryz.sizeOf5
 v5:=Tryz.zeroValue5
 infoByte:=by kernel_rfl
 cellsByte:=by kernel_rfl
 sizeByte:=by kernel_rfl
 neB5:=by decide }
open Go.RowKit in
theorem Tryz.strings_Join(bk o c:Nat)(xs:List ByteArray)(sep:ByteArray)(w:World)(hcells:∀(j:Nat) x,xs[j]?=some x->w.cell? ⟨bk,o+j,none⟩=some (.string x))(hbk:bk<w.heap.size)(hN:xs.length<=140737488355328)(hcap:xs.length<=c)(hlen:(Lib.join (xs.map (·.data.toList)) sep.data.toList).length<=140737488355328) :
  Calls prog 45 #[.slice (some ⟨bk,o,none⟩) xs.length c,.string sep] w fun e w'=>e=.returned (.string ⟨(Lib.join (xs.map (·.data.toList)) sep.data.toList).toArray⟩)/\Below w.heap.size w w':=Any.strings_Join Tryz.aRM Tryz.aRN bk o c xs sep w hcells hbk hN hcap hlen
def Tryz.aRO:Go.Shelf.Ren:=⟨fun|106=>183|213=>194|265=>198|n=>n,fun|9=>9|3=>3|n=>n,fun|n=>n⟩
theorem Tryz.aRP:Go.Proofs.Lays.n106 prog Tryz.aRO:={
 mixed:=by kernel_rfl
 f106:=func183.trans (congrArg some (by kernel_rfl))
 f213:=func194.trans (congrArg some (by kernel_rfl))
 f265:=func198.trans (congrArg some (by kernel_rfl))
 t3:=underlying3
 a3:=Tryz.isAgg3
 z3:=Tryz.sizeOf3
 v3:=Tryz.zeroValue3
 t9:=underlying9
 a9:=Tryz.isAgg9
 z9:=Tryz.sizeOf9
 v9:=Tryz.zeroValue9 }
open Go.RowKit in
theorem Tryz.strings_Compare(a b:ByteArray)(w:World) :
  Calls prog 183 #[.string a,.string b] w fun e w'=>e=.returned (.int .i64 (Lib.compareBytes a.data.toList b.data.toList))/\w'=w:=Any.strings_Compare Tryz.aRP a b w
def Tryz.aRQ:Go.Shelf.Ren:=⟨fun|137=>82|217=>123|266=>149|n=>n,fun|9=>9|5=>5|3=>3|n=>n,fun|n=>n⟩
theorem Tryz.aRR:Go.Proofs.Lays.n137 prog Tryz.aRQ:={
 mixed:=by kernel_rfl
 f137:=func82.trans (congrArg some (by kernel_rfl))
 f217:=func123.trans (congrArg some (by kernel_rfl))
 f266:=func149.trans (congrArg some (by kernel_rfl))
 t3:=underlying3
 a3:=Tryz.isAgg3
 z3:=Tryz.sizeOf3
 v3:=Tryz.zeroValue3
 t5:=underlying5
 a5:=Tryz.isAgg5
 z5:=Tryz.sizeOf5
 v5:=Tryz.zeroValue5
 t9:=underlying9
 a9:=Tryz.isAgg9
 z9:=Tryz.sizeOf9
 v9:=Tryz.zeroValue9 }
open Go.RowKit in
theorem Tryz.strings_IndexByte(s:ByteArray)(c:Int)(w:World) :
  Calls prog 82 #[.string s,.int .u8 c] w fun e w'=>e=.returned (.int .i64 (Lib.indexByte s.data.toList c.toNat.toUInt8))/\w'=w:=Any.strings_IndexByte Tryz.aRR s c w
def Tryz.aRS:Go.Shelf.Ren:=⟨fun|283=>150|n=>n,fun|3=>3|9=>9|4=>4|n=>n,fun|n=>n⟩
theorem Tryz.aRT:Go.Proofs.Lays.n283 prog Tryz.aRS:={
 mixed:=by kernel_rfl
 f283:=func150.trans (congrArg some (by kernel_rfl))
 t3:=underlying3
 a3:=Tryz.isAgg3
 z3:=Tryz.sizeOf3
 v3:=Tryz.zeroValue3
 t4:=underlying4
 a4:=Tryz.isAgg4
 z4:=Tryz.sizeOf4
 v4:=Tryz.zeroValue4
 t9:=underlying9
 a9:=Tryz.isAgg9
 z9:=Tryz.sizeOf9
 v9:=Tryz.zeroValue9 }
open Go.Lib in
theorem Tryz.internal_strconv_small(i:Nat)(h:i<100)(w:World) :
  Calls prog 150 #[.int .i64 i] w fun e w'=>e=.returned (.string ⟨(Lib.decDigits i).toArray⟩)/\w'=w:=Any.internal_strconv_small Tryz.aRT i h w
def Tryz.aRU:Go.Shelf.Ren:=⟨fun|284=>151|129=>171|317=>170|318=>172|n=>n,fun|53=>96|3=>3|212=>245|0=>0|4=>4|46=>243|5=>5|9=>9|n=>n,fun|17=>1|n=>n⟩
theorem Tryz.aRV:Go.Proofs.LaysM.n284 prog Tryz.aRU:={
 mixed:=by kernel_rfl
 f129:=func171.trans (congrArg some (by kernel_rfl))
 f284:=func151.trans (congrArg some (by kernel_rfl))
 f317:=func170.trans (congrArg some (by kernel_rfl))
 f318:=func172.trans (congrArg some (by kernel_rfl))
 t0:=underlying0
 a0:=Tryz.isAgg0
 z0:=Tryz.sizeOf0
 v0:=Tryz.zeroValue0
 t3:=underlying3
 a3:=Tryz.isAgg3
 z3:=Tryz.sizeOf3
 v3:=Tryz.zeroValue3
 t4:=underlying4
 a4:=Tryz.isAgg4
 z4:=Tryz.sizeOf4
 v4:=Tryz.zeroValue4
 t5:=underlying5
 a5:=Tryz.isAgg5
 z5:=Tryz.sizeOf5
 v5:=Tryz.zeroValue5
 t9:=underlying9
 a9:=Tryz.isAgg9
 z9:=Tryz.sizeOf9
 v9:=Tryz.zeroValue9
 t46:=underlying243
 a46:=Tryz.isAgg243
 z46:=Tryz.sizeOf243
 v46:=Tryz.zeroValue243
 t53:=underlying96
 a53:=Tryz.isAgg96
 z53:=Tryz.sizeOf96
 v53:=Tryz.zeroValue96
 t212:=underlying245
 a212:=Tryz.isAgg245
 z212:=Tryz.sizeOf245
 v212:=Tryz.zeroValue245
 g17:=by kernel_rfl
 i0:=by kernel_rfl
 i3:=by kernel_rfl
 i4:=by kernel_rfl
 i5:=by kernel_rfl
 i9:=by kernel_rfl
 i46:=by kernel_rfl
 i53:=by kernel_rfl
 i212:=by kernel_rfl
 m17:=by kernel_rfl }
open Go.Lib in
theorem Tryz.internal_strconv_numDigits(u:Nat)(h1:1<=u)(h2:u<18446744073709551616)(w:World)(htab:Lib.TabIs prog w "internal/strconv.uint64pow10" .u64 Lib.pow10Tab) :
  Calls prog 151 #[.int .u64 u] w fun e w'=>e=.returned (.int .i64 (Lib.nDigits u))/\w'=w:=Any.internal_strconv_numDigits Tryz.aRV u h1 h2 w htab
def Tryz.aRW:Go.Shelf.Ren:=⟨fun|285=>152|n=>n,fun|37=>45|53=>96|3=>3|4=>4|51=>246|9=>9|5=>5|0=>0|n=>n,fun|n=>n⟩
theorem Tryz.aRX:Go.Proofs.Lays.n285 prog Tryz.aRW:={
 mixed:=by kernel_rfl
 f285:=func152.trans (congrArg some (by kernel_rfl))
 t0:=underlying0
 a0:=Tryz.isAgg0
 z0:=Tryz.sizeOf0
 v0:=Tryz.zeroValue0
 t3:=underlying3
 a3:=Tryz.isAgg3
 z3:=Tryz.sizeOf3
 v3:=Tryz.zeroValue3
 t4:=underlying4
 a4:=Tryz.isAgg4
 z4:=Tryz.sizeOf4
 v4:=Tryz.zeroValue4
 t5:=underlying5
 a5:=Tryz.isAgg5
 z5:=Tryz.sizeOf5
 v5:=Tryz.zeroValue5
 t9:=underlying9
 a9:=Tryz.isAgg9
 z9:=Tryz.sizeOf9
 v9:=Tryz.zeroValue9
 t37:=underlying45
 a37:=Tryz.isAgg45
 z37:=Tryz.sizeOf45
 v37:=Tryz.zeroValue45
 t51:=underlying246
 a51:=Tryz.isAgg246
 z51:=Tryz.sizeOf246
 v51:=Tryz.zeroValue246
 t53:=underlying96
 a53:=Tryz.isAgg96
 z53:=Tryz.sizeOf96
 v53:=Tryz.zeroValue96 }
open Go.RowKit Go.Sort Go.Lib in
theorem Tryz.internal_strconv_formatBase10(aW off cap:Nat)(u:Nat)(d:Array UInt8)(w:World)(hH:Holds (fun(b:UInt8)=>Value.int .u8 (b.toNat:Int)) w aW off d)(hu:u<10^d.size)(hu64:u<18446744073709551616)(hsz:d.size<4611686018427387904) :
  Calls prog 152 #[.slice (some ⟨aW,off,none⟩) d.size cap,.int .u64 u] w fun e w'=>
   e=.returned (.tuple #[])/\∃(n v':Nat) (dk:Array UInt8),w'=(putRow (fun(b:UInt8)=>Value.int .u8 (b.toNat:Int)) w aW off dk).drewN n/\FmtInv d.size u 0 v' dk:=Any.internal_strconv_formatBase10 Tryz.aRX aW off cap u d w hH hu hu64 hsz
def Tryz.aRY:Go.Shelf.Ren:=⟨fun|171=>40|243=>84|246=>125|283=>150|284=>151|285=>152|286=>153|129=>171|317=>170|318=>172|319=>173|320=>174|337=>186|338=>187|n=>n,fun|3=>3|9=>9|2=>2|4=>4|171=>224|0=>0|53=>96|37=>45|5=>5|173=>227|212=>245|51=>246|20=>20|213=>247|46=>243|232=>274|233=>275|n=>n,fun|17=>1|18=>4|19=>5|n=>n⟩
theorem Tryz.aRZ:Go.Proofs.LaysM.n171 prog Tryz.aRY:={
 mixed:=by kernel_rfl
 f129:=func171.trans (congrArg some (by kernel_rfl))
 f171:=func40.trans (congrArg some (by kernel_rfl))
 f243:=func84.trans (congrArg some (by kernel_rfl))
 f246:=func125.trans (congrArg some (by kernel_rfl))
 f283:=func150.trans (congrArg some (by kernel_rfl))
 f284:=func151.trans (congrArg some (by kernel_rfl))
 f285:=func152.trans (congrArg some (by kernel_rfl))
 f286:=func153.trans (congrArg some (by kernel_rfl))
 f317:=func170.trans (congrArg some (by kernel_rfl))
 f318:=func172.trans (congrArg some (by kernel_rfl))
 f319:=func173.trans (congrArg some (by kernel_rfl))
 f320:=func174.trans (congrArg some (by kernel_rfl))
 f337:=func186.trans (congrArg some (by kernel_rfl))
 f338:=func187.trans (congrArg some (by kernel_rfl))
 t0:=underlying0
 a0:=Tryz.isAgg0
 z0:=Tryz.sizeOf0
 v0:=Tryz.zeroValue0
 t2:=underlying2
 a2:=Tryz.isAgg2
 z2:=Tryz.sizeOf2
 v2:=Tryz.zeroValue2
 t3:=underlying3
 a3:=Tryz.isAgg3
 z3:=Tryz.sizeOf3
 v3:=Tryz.zeroValue3
 t4:=underlying4
 a4:=Tryz.isAgg4
 z4:=Tryz.sizeOf4
 v4:=Tryz.zeroValue4
 t5:=underlying5
 a5:=Tryz.isAgg5
 z5:=Tryz.sizeOf5
 v5:=Tryz.zeroValue5
 t9:=underlying9
 a9:=Tryz.isAgg9
 z9:=Tryz.sizeOf9
 v9:=Tryz.zeroValue9
 t20:=underlying20
 a20:=Tryz.isAgg20
 z20:=Tryz.sizeOf20
 v20:=Tryz.zeroValue20
 t37:=underlying45
 a37:=Tryz.isAgg45
 z37:=Tryz.sizeOf45
 v37:=Tryz.zeroValue45
 t46:=underlying243
 a46:=Tryz.isAgg243
 z46:=Tryz.sizeOf243
 v46:=Tryz.zeroValue243
 t51:=underlying246
 a51:=Tryz.isAgg246
 z51:=Tryz.sizeOf246
 v51:=Tryz.zeroValue246
 t53:=underlying96
 a53:=Tryz.isAgg96
 z53:=Tryz.sizeOf96
 v53:=Tryz.zeroValue96
 t171:=underlying224
 a171:=Tryz.isAgg224
 z171:=Tryz.sizeOf224
 v171:=Tryz.zeroValue224
 t173:=underlying227
 a173:=Tryz.isAgg227
 z173:=Tryz.sizeOf227
 v173:=Tryz.zeroValue227
 t212:=underlying245
 a212:=Tryz.isAgg245
 z212:=Tryz.sizeOf245
 v212:=Tryz.zeroValue245
 t213:=underlying247
 a213:=Tryz.isAgg247
 z213:=Tryz.sizeOf247
 t232:=underlying274
 a232:=Tryz.isAgg274
 z232:=Tryz.sizeOf274
 v232:=Tryz.zeroValue274
 t233:=underlying275
 a233:=Tryz.isAgg275
 z233:=Tryz.sizeOf275
 v233:=Tryz.zeroValue275
 g17:=by kernel_rfl
 g18:=by kernel_rfl
 g19:=by kernel_rfl
 i0:=by kernel_rfl
 i2:=by kernel_rfl
 i3:=by kernel_rfl
 i4:=by kernel_rfl
 i5:=by kernel_rfl
 i9:=by kernel_rfl
 i20:=by kernel_rfl
 i37:=by kernel_rfl
 i46:=by kernel_rfl
 i51:=by kernel_rfl
 i53:=by kernel_rfl
 i171:=by kernel_rfl
 i173:=by kernel_rfl
 i212:=by kernel_rfl
 i232:=by kernel_rfl
 i233:=by kernel_rfl
 m17:=by kernel_rfl
 m18:=by kernel_rfl
 m19:=by kernel_rfl }
open Go.RowKit Go.Sort Go.Lib in
theorem Tryz.strconv_Itoa(n:Int)(h0:-9223372036854775808<=n)(h1:n<=9223372036854775807)(w:World)(htab:Lib.TabIs prog w "internal/strconv.uint64pow10" .u64 Lib.pow10Tab) :
  Calls prog 40 #[.int .i64 n] w fun e w'=>e=.returned (.string ⟨(Lib.itoa n).toArray⟩)/\∃k os,w'=grow (w.drewN k) os:=Any.strconv_Itoa Tryz.aRZ n h0 h1 w htab
def Tryz.aR0:Go.Shelf.Ren:=⟨fun|99=>83|206=>124|n=>n,fun|9=>9|4=>4|3=>3|n=>n,fun|n=>n⟩
theorem Tryz.aR1:Go.Proofs.Lays.n99 prog Tryz.aR0:={
 mixed:=by kernel_rfl
 f99:=func83.trans (congrArg some (by kernel_rfl))
 f206:=func124.trans (congrArg some (by kernel_rfl))
 t3:=underlying3
 a3:=Tryz.isAgg3
 z3:=Tryz.sizeOf3
 v3:=Tryz.zeroValue3
 t4:=underlying4
 a4:=Tryz.isAgg4
 z4:=Tryz.sizeOf4
 v4:=Tryz.zeroValue4
 t9:=underlying9
 a9:=Tryz.isAgg9
 z9:=Tryz.sizeOf9
 v9:=Tryz.zeroValue9 }
open Go.RowKit Go.Lib in
theorem Tryz.strings_HasPrefix(s p:ByteArray)(w:World) :
  Calls prog 83 #[.string s,.string p] w fun e w'=>e=.returned (.bool (Lib.hasPrefix s.data.toList p.data.toList))/\w'=w:=Any.strings_HasPrefix Tryz.aR1 s p w
def Tryz.aR2:Go.Shelf.Ren:=⟨fun|101=>122|208=>148|206=>124|n=>n,fun|9=>9|4=>4|3=>3|n=>n,fun|n=>n⟩
theorem Tryz.aR3:Go.Proofs.Lays.n101 prog Tryz.aR2:={
 mixed:=by kernel_rfl
 f101:=func122.trans (congrArg some (by kernel_rfl))
 f206:=func124.trans (congrArg some (by kernel_rfl))
 f208:=func148.trans (congrArg some (by kernel_rfl))
 t3:=underlying3
 a3:=Tryz.isAgg3
 z3:=Tryz.sizeOf3
 v3:=Tryz.zeroValue3
 t4:=underlying4
 a4:=Tryz.isAgg4
 z4:=Tryz.sizeOf4
 v4:=Tryz.zeroValue4
 t9:=underlying9
 a9:=Tryz.isAgg9
 z9:=Tryz.sizeOf9
 v9:=Tryz.zeroValue9 }
open Go.RowKit Go.Lib in
theorem Tryz.strings_TrimPrefix(s p:ByteArray)(w:World) :
  Calls prog 122 #[.string s,.string p] w fun e w'=>e=.returned (.string ⟨(Lib.trimPrefix s.data.toList p.data.toList).toArray⟩)/\w'=w:=Any.strings_TrimPrefix Tryz.aR3 s p w
def Tryz.aR4:Go.Shelf.Ren:=⟨fun|146=>38|221=>74|268=>117|138=>118|143=>119|195=>144|197=>145|218=>146|219=>147|260=>166|217=>123|225=>167|224=>168|267=>169|266=>149|314=>185|n=>n,fun|9=>9|31=>55|3=>3|4=>4|0=>0|105=>222|21=>21|5=>5|46=>243|119=>260|139=>263|138=>262|146=>264|51=>246|n=>n,fun|1=>0|3=>2|4=>3|n=>n⟩
theorem Tryz.aR5:Go.Proofs.Lays.n146 prog Tryz.aR4:={
 mixed:=by kernel_rfl
 f138:=func118.trans (congrArg some (by kernel_rfl))
 f143:=func119.trans (congrArg some (by kernel_rfl))
 f146:=func38.trans (congrArg some (by kernel_rfl))
 f195:=func144.trans (congrArg some (by kernel_rfl))
 f197:=func145.trans (congrArg some (by kernel_rfl))
 f217:=func123.trans (congrArg some (by kernel_rfl))
 f218:=func146.trans (congrArg some (by kernel_rfl))
 f219:=func147.trans (congrArg some (by kernel_rfl))
 f221:=func74.trans (congrArg some (by kernel_rfl))
 f224:=func168.trans (congrArg some (by kernel_rfl))
 f225:=func167.trans (congrArg some (by kernel_rfl))
 f260:=func166.trans (congrArg some (by kernel_rfl))
 f266:=func149.trans (congrArg some (by kernel_rfl))
 f267:=func169.trans (congrArg some (by kernel_rfl))
 f268:=func117.trans (congrArg some (by kernel_rfl))
 f314:=func185.trans (congrArg some (by kernel_rfl))
 t0:=underlying0
 a0:=Tryz.isAgg0
 z0:=Tryz.sizeOf0
 v0:=Tryz.zeroValue0
 t3:=underlying3
 a3:=Tryz.isAgg3
 z3:=Tryz.sizeOf3
 v3:=Tryz.zeroValue3
 t4:=underlying4
 a4:=Tryz.isAgg4
 z4:=Tryz.sizeOf4
 v4:=Tryz.zeroValue4
 t5:=underlying5
 a5:=Tryz.isAgg5
 z5:=Tryz.sizeOf5
 v5:=Tryz.zeroValue5
 t9:=underlying9
 a9:=Tryz.isAgg9
 z9:=Tryz.sizeOf9
 v9:=Tryz.zeroValue9
 t21:=underlying21
 a21:=Tryz.isAgg21
 z21:=Tryz.sizeOf21
 v21:=Tryz.zeroValue21
 t31:=underlying55
 a31:=Tryz.isAgg55
 z31:=Tryz.sizeOf55
 v31:=Tryz.zeroValue55
 t46:=underlying243
 a46:=Tryz.isAgg243
 z46:=Tryz.sizeOf243
 v46:=Tryz.zeroValue243
 t51:=underlying246
 a51:=Tryz.isAgg246
 z51:=Tryz.sizeOf246
 v51:=Tryz.zeroValue246
 t105:=underlying222
 a105:=Tryz.isAgg222
 z105:=Tryz.sizeOf222
 v105:=Tryz.zeroValue222
 t119:=underlying260
 a119:=Tryz.isAgg260
 z119:=Tryz.sizeOf260
 t138:=underlying262
 a138:=Tryz.isAgg262
 z138:=Tryz.sizeOf262
 v138:=Tryz.zeroValue262
 t139:=underlying263
 a139:=Tryz.isAgg263
 z139:=Tryz.sizeOf263
 v139:=Tryz.zeroValue263
 t146:=underlying264
 a146:=Tryz.isAgg264
 z146:=Tryz.sizeOf264
 v146:=Tryz.zeroValue264
 g1:=by kernel_rfl
 g3:=by kernel_rfl
 g4:=by kernel_rfl }
open Go.RowKit Go.Lib in
theorem Tryz.strings_Split(s sep:ByteArray)(m:Int)(w:World)(hs:s.size<4294967281)(hm:w.cell? ⟨0,0,none⟩=some (.int .i64 m))(h1:1<=sep.size) :
  Calls prog 38 #[.string s,.string sep] w fun e w'=>
   e=.returned (.slice (some ⟨w.heap.size,0,none⟩) (Lib.countB s sep+1) (Lib.countB s sep+1))/\w'=w.alloc (.cells ((Lib.splitB sep 0 (Lib.countB s sep) s).map Value.string).toArray 9):=Any.strings_Split Tryz.aR5 (by kernel_rfl) s sep m w hs hm h1
def Tryz.aJp:Go.Shelf.Ren:=⟨fun|105=>191|212=>197|99=>83|165=>102|166=>103|170=>55|169=>47|263=>199|264=>200|206=>124|240=>137|241=>138|276=>162|277=>163|n=>n,fun|9=>9|3=>3|4=>4|20=>20|0=>0|46=>243|109=>277|5=>5|72=>123|76=>180|51=>246|146=>264|53=>96|148=>280|70=>121|37=>45|75=>179|127=>182|164=>237|80=>47|n=>n,fun|n=>n⟩
theorem Tryz.aR6:Go.Proofs.Lays.n105 prog Tryz.aJp:={
 mixed:=by kernel_rfl
 f99:=func83.trans (congrArg some (by kernel_rfl))
 f105:=func191.trans (congrArg some (by kernel_rfl))
 f165:=func102.trans (congrArg some (by kernel_rfl))
 f166:=func103.trans (congrArg some (by kernel_rfl))
 f169:=func47.trans (congrArg some (by kernel_rfl))
 f170:=func55.trans (congrArg some (by kernel_rfl))
 f206:=func124.trans (congrArg some (by kernel_rfl))
 f212:=func197.trans (congrArg some (by kernel_rfl))
 f240:=func137.trans (congrArg some (by kernel_rfl))
 f241:=func138.trans (congrArg some (by kernel_rfl))
 f263:=func199.trans (congrArg some (by kernel_rfl))
 f264:=func200.trans (congrArg some (by kernel_rfl))
 f276:=func162.trans (congrArg some (by kernel_rfl))
 f277:=func163.trans (congrArg some (by kernel_rfl))
 t0:=underlying0
 a0:=Tryz.isAgg0
 z0:=Tryz.sizeOf0
 v0:=Tryz.zeroValue0
 t3:=underlying3
 a3:=Tryz.isAgg3
 z3:=Tryz.sizeOf3
 v3:=Tryz.zeroValue3
 t4:=underlying4
 a4:=Tryz.isAgg4
 z4:=Tryz.sizeOf4
 v4:=Tryz.zeroValue4
 t5:=underlying5
 a5:=Tryz.isAgg5
 z5:=Tryz.sizeOf5
 v5:=Tryz.zeroValue5
 t9:=underlying9
 a9:=Tryz.isAgg9
 z9:=Tryz.sizeOf9
 v9:=Tryz.zeroValue9
 t20:=underlying20
 a20:=Tryz.isAgg20
 z20:=Tryz.sizeOf20
 v20:=Tryz.zeroValue20
 t37:=underlying45
 a37:=Tryz.isAgg45
 z37:=Tryz.sizeOf45
 v37:=Tryz.zeroValue45
 t46:=underlying243
 a46:=Tryz.isAgg243
 z46:=Tryz.sizeOf243
 v46:=Tryz.zeroValue243
 t51:=underlying246
 a51:=Tryz.isAgg246
 z51:=Tryz.sizeOf246
 v51:=Tryz.zeroValue246
 t53:=underlying96
 a53:=Tryz.isAgg96
 z53:=Tryz.sizeOf96
 v53:=Tryz.zeroValue96
 t70:=underlying121
 a70:=Tryz.isAgg121
 z70:=Tryz.sizeOf121
 v70:=Tryz.zeroValue121
 t72:=underlying123
 a72:=Tryz.isAgg123
 z72:=Tryz.sizeOf123
 v72:=Tryz.zeroValue123
 t75:=underlying179
 a75:=Tryz.isAgg179
 z75:=Tryz.sizeOf179
 v75:=Tryz.zeroValue179
 t76:=underlying180
 a76:=Tryz.isAgg180
 z76:=Tryz.sizeOf180
 v76:=Tryz.zeroValue180
 t109:=underlying277
 a109:=Tryz.isAgg277
 z109:=Tryz.sizeOf277
 v109:=Tryz.zeroValue277
 t127:=underlying182
 a127:=Tryz.isAgg182
 z127:=Tryz.sizeOf182
 v127:=Tryz.zeroValue182
 t146:=underlying264
 a146:=Tryz.isAgg264
 z146:=Tryz.sizeOf264
 v146:=Tryz.zeroValue264
 t148:=underlying280
 a148:=Tryz.isAgg280
 z148:=Tryz.sizeOf280
 v148:=Tryz.zeroValue280
 t164:=underlying237
 a164:=Tryz.isAgg237
 z164:=Tryz.sizeOf237
 v164:=Tryz.zeroValue237 }
theorem Tryz.aR7:Builder.Extra prog Tryz.aJp:={
 sizeBuilder:=by kernel_rfl
 liesBuilder:=by kernel_rfl
 t5:=underlying5
 a5:=Tryz.isAgg5
 z5:=Tryz.sizeOf5
 v5:=Tryz.zeroValue5
 infoByte:=by kernel_rfl
 cellsByte:=by kernel_rfl
 sizeByte:=by kernel_rfl
 neB5:=by decide }
open Go.RowKit Go.Lib in
theorem Tryz.strings_Repeat(s:ByteArray)(c:Nat)(w:World)(hc:c<=9223372036854775807)(hlen:s.size*c<=140737488355328) :
  Calls prog 191 #[.string s,.int .i64 c] w fun e w'=>e=.returned (.string ⟨(Lib.repeatL s.data.toList c).toArray⟩)/\Below w.heap.size w w':=Any.strings_Repeat Tryz.aR6 Tryz.aR7 s c w hc hlen
end Go.Proofs
namespace Go.Proofs
open Go Go.RowKit
def Tryz.aBD:Go.Shelf.Ren:=⟨fun|240=>137|276=>162|n=>n,fun|70=>121|72=>123|37=>45|164=>237|n=>n,fun|n=>n⟩
theorem Tryz.aBE:Go.Proofs.Lays.n240 prog Tryz.aBD:={
 mixed:=by kernel_rfl
 f240:=func137.trans (congrArg some (by kernel_rfl))
 f276:=func162.trans (congrArg some (by kernel_rfl))
 t0:=underlying0
 a0:=Tryz.isAgg0
 z0:=Tryz.sizeOf0
 v0:=Tryz.zeroValue0
 t4:=underlying4
 a4:=Tryz.isAgg4
 z4:=Tryz.sizeOf4
 v4:=Tryz.zeroValue4
 t9:=underlying9
 a9:=Tryz.isAgg9
 z9:=Tryz.sizeOf9
 v9:=Tryz.zeroValue9
 t20:=underlying20
 a20:=Tryz.isAgg20
 z20:=Tryz.sizeOf20
 v20:=Tryz.zeroValue20
 t70:=underlying121
 a70:=Tryz.isAgg121
 z70:=Tryz.sizeOf121
 v70:=Tryz.zeroValue121
 t72:=underlying123
 a72:=Tryz.isAgg123
 z72:=Tryz.sizeOf123
 v72:=Tryz.zeroValue123
 t164:=underlying237
 a164:=Tryz.isAgg237
 z164:=Tryz.sizeOf237
 v164:=Tryz.zeroValue237 }
theorem Tryz.aBF:Builder.X72 prog Tryz.aBD:={
 sizeBuilder:=by kernel_rfl
 liesBuilder:=by kernel_rfl }
section
set_option maxRecDepth 100000
theorem Tryz.aRI(b g cap n:Nat)(p:Value)(cur:Array Value)(fz:Nat×Nat)(l:List UInt8)(w:World)(hl:l.length=n)(h0:n≠0)(hb:w.heap[b]?=some (.cells #[p,.slice (some ⟨g,0,none⟩) n cap] 123 (0,0)))
  (hg:w.heap[g]?=some (.cells cur 5 fz)) (hnc:n<=cap) (hcm:cap<=maxLen) (hcs:cur.size=cap) (hcur:∀(j:Nat) (x:UInt8),l[j]?=some x->cur[j]?=some (.int .u8 x.toNat)) :
  Calls prog 47 #[.pointer (some ⟨b,0,none⟩)] w fun e w'=>e=.returned (.string ⟨l.toArray⟩)/\w'=w.drew.freeze ⟨g,0,none⟩ n:=by
 subst hl
 have c1:w.drew.cell? ⟨b,1,none⟩=some (.slice (some ⟨g,0,none⟩) l.length cap):=by
  have hb':w.drew.heap[b]?=_:=hb
  simp[World.cell?,hb']
 have hSD:=Lib.run_unsafeSliceData_row (P:=prog) w.drew #[45] 182 ⟨g,0,none⟩ l.length cap (by omega)
 have hUS:(Builtin.unsafeString_ #[182,3] 9 #[.pointer (some ⟨g,0,none⟩),.int .i64 l.length]).run prog w.drew=.ok (.string ⟨l.toArray⟩) (w.drew.freeze ⟨g,0,none⟩ l.length):=by
  refine Lib.run_unsafeString_row w.drew 182 3 9 5 underlying182 Tryz.aJj.cellsByte g cur.size (by have hg':w.drew.heap[g]?=_:=hg;simp[World.shape?,hg']) l (by intro e;rw[e]at h0;exact h0 rfl) (by omega) (by unfold maxLen at hcm;omega) ?_
  intro j x hx
  have hg':w.drew.heap[g]?=_:=hg
  have hadd:(⟨g,0,none⟩:Addr).add j=⟨g,j,none⟩:=by unfold Addr.add;split<;>simp_all
  rw[hadd]
  simp only[World.cell?,hg']
  simpa using hcur j x hx
 have t72:=underlying123;have a72:=Tryz.isAgg123;have z72:=Tryz.sizeOf123;have v72:=Tryz.zeroValue123;have u72:=run_underlying underlying123
 have t70:=underlying121;have a70:=Tryz.isAgg121;have z70:=Tryz.sizeOf121;have v70:=Tryz.zeroValue121;have u70:=run_underlying underlying121
 have t37:=underlying45;have a37:=Tryz.isAgg45;have z37:=Tryz.sizeOf45;have v37:=Tryz.zeroValue45;have u37:=run_underlying underlying45
 have t127:=underlying182;have a127:=Tryz.isAgg182;have z127:=Tryz.sizeOf182;have v127:=Tryz.zeroValue182;have aEr:=run_underlying underlying182
 have t3:=underlying3;have a3:=Tryz.isAgg3;have z3:=Tryz.sizeOf3;have v3:=Tryz.zeroValue3;have u3:=run_underlying underlying3
 have t9:=underlying9;have a9:=Tryz.isAgg9;have z9:=Tryz.sizeOf9;have v9:=Tryz.zeroValue9;have u9:=run_underlying underlying9
 have mixed:=Tryz.aBG.mixed
 go_enter func47,Tryz.ntmps47
 go_wp2
 go_region_o
 all_goals (go_wp2;go_ret;exact⟨rfl,rfl⟩)
theorem Tryz.aRJ(b:Nat)(p:Value)(w:World)(hb:w.heap[b]?=some (.cells #[p,.slice none 0 0] 123 (0,0))) :
  Calls prog 47 #[.pointer (some ⟨b,0,none⟩)] w fun e w'=>e=.returned (.string ⟨#[]⟩)/\w'=w.drew:=by
 have c1:w.drew.cell? ⟨b,1,none⟩=some (.slice none 0 0):=by
  have hb':w.drew.heap[b]?=_:=hb
  simp[World.cell?,hb']
 have hSD:=Lib.run_unsafeSliceData_nil (P:=prog) w.drew #[45] 182 0 0
 have hUS:=Lib.run_unsafeString_none (P:=prog) w.drew 182 3 9 none
 have t72:=underlying123;have a72:=Tryz.isAgg123;have z72:=Tryz.sizeOf123;have v72:=Tryz.zeroValue123;have u72:=run_underlying underlying123
 have t70:=underlying121;have a70:=Tryz.isAgg121;have z70:=Tryz.sizeOf121;have v70:=Tryz.zeroValue121;have u70:=run_underlying underlying121
 have t37:=underlying45;have a37:=Tryz.isAgg45;have z37:=Tryz.sizeOf45;have v37:=Tryz.zeroValue45;have u37:=run_underlying underlying45
 have t127:=underlying182;have a127:=Tryz.isAgg182;have z127:=Tryz.sizeOf182;have v127:=Tryz.zeroValue182;have aEr:=run_underlying underlying182
 have t3:=underlying3;have a3:=Tryz.isAgg3;have z3:=Tryz.sizeOf3;have v3:=Tryz.zeroValue3;have u3:=run_underlying underlying3
 have t9:=underlying9;have a9:=Tryz.isAgg9;have z9:=Tryz.sizeOf9;have v9:=Tryz.zeroValue9;have u9:=run_underlying underlying9
 have mixed:=Tryz.aBG.mixed
 go_enter func47,Tryz.ntmps47
 go_wp2
 go_region_o
 all_goals (go_wp2;go_ret;exact⟨rfl,rfl⟩)
end
end Go.Proofs
namespace Go.Kz
open Go Go.Proofs
def aEs:Nat->List PD->List U->Option (PD×List U):=λfl args σ=>match args with
 | [.ptr id 0]=>match σ[id]? with
   |some (.box (.typed 123 [.cQ,s]))=>if fl<=id then some (.aI [],σ.set id (.box (.typed 123 [.ptr id 0,s])))else none
   |some (.box (.typed 123 [.ptr id' 0,_]))=>if id'=id then some (.aI [],σ)else none
   |_=>none
 |_=>none
def aEt:Nat->List PD->List U->Option (PD×List U):=λfl args σ=>match args with
 | [.ptr id 0]=>match σ[id]? with
   |some (.box (.typed 123 [_,.slice z xs tok]))=>match tok with
    |.nil=>some (.str [],σ)
    |.own fJ=>match σ[fJ]? with
      |some (.own 5 1 n)=>if n=xs.length/\0<n/\z=1/\fl<=fJ then(match J3 xs with|some l=>some (.str l,σ)|none=>none)else none
      |_=>none
    |_=>none
   |_=>none
 |_=>none
theorem aJk{w:World}{b o:Nat}{cs:Dt}{T:TypeId}{fz:Nat×Nat}{v:Value}(hb:w.heap[b]?=some (.cells cs T fz)):(w.setCell ⟨b,o,none⟩ v).heap[b]?=some (.cells (cs.setIfInBounds o v) T fz):=by
 simp only[World.setCell,Array.getElem?_modify,if_true,hb];rfl
theorem aJl{w:World}{b o k:Nat}{v:Value}(h:k≠b):(w.setCell ⟨b,o,none⟩ v).heap[k]?=w.heap[k]?:=by
 simp only[World.setCell,Array.getElem?_modify];rw[if_neg (Ne.symm h)]
theorem aJm(g j:Nat):(⟨g,0,none⟩:Addr).add j=⟨g,j,none⟩:=ze
theorem aEu{c:Cx}{cs:Dt}{p q:PD}(h:aK c cs.toList [p,q]):∃v u,cs=#[v,u]/\VR c v p/\VR c u q:=by
 obtain⟨v,u,e,h1,h2⟩:=MI h;exact⟨v,u,Array.toList_inj.1 (by simpa using e),h1,h2⟩
theorem aRK{E:aE}(hE:aF prog E):aF prog (E.add 137 aEs):=by
 refine hE.YI ⟨_,func137,rfl⟩ λfl args c vs p σ' hg hs hX hv=>?_
 unfold aEs at hg;split at hg
 .rename_i id;obtain⟨v,rfl,h1⟩:=TY hv;obtain⟨b,rfl,hd,_,hρ⟩:=h1.qN;split at hg
  .rename_i s hbox;split at hg
   .rename_i hfl;simp only[yAb,yAc]at hg;obtain⟨rfl,rfl⟩:=hg;obtain⟨b',cs,T,e1,e2,e3,e4,e5⟩:=hs.box id _ hd hbox;rw[hρ]at e1;simp only[Value.pointer.injEq,yAb,Addr.mk.injEq,and_true]at e1;subst e1;obtain rfl:=e5 _ _ rfl;obtain⟨v0,v1,rfl,q1,q2⟩:=aEu e3;have fQ:v0=.pointer none:=q1.OJ;subst fQ;have hc0:c.w.cell? ⟨b,0,none⟩=some (.pointer none):=by simp[World.cell?,e2]
    refine Calls.mono (Any.Builder_copyCheck_fresh Tryz.aBE Tryz.aBF b c.w hc0 (by simp[World.shape?,e2];rfl) (by simp[World.frozen?,e2])) λe w' he=>?_
    obtain⟨rfl,rfl⟩:=he;have hnew:=aJk (o:=0) (v:=Value.pointer (some ⟨b,0,none⟩)) e2;have hoth:∀k,k≠b->(c.w.setCell ⟨b,0,none⟩ (.pointer (some ⟨b,0,none⟩))).heap[k]?=c.w.heap[k]?:=λk hk=>aJl hk
    have h0:(c.w.setCell ⟨b,0,none⟩ (.pointer (some ⟨b,0,none⟩))).os=c.w.os/\(c.w.setCell ⟨b,0,none⟩ (.pointer (some ⟨b,0,none⟩))).tape=c.w.tape/\(c.w.setCell ⟨b,0,none⟩ (.pointer (some ⟨b,0,none⟩))).output=c.w.output/\(c.w.setCell ⟨b,0,none⟩ (.pointer (some ⟨b,0,none⟩))).heap.size=c.w.heap.size:=⟨rfl,rfl,rfl,by simp[World.setCell]⟩;have hp:VR c (.pointer (some ⟨b,0,none⟩)) (.ptr id 0):=.ptr id 0 b hd ⟨_,hbox⟩ hρ;refine⟨c.put _ id (c.ρ id) (.box (.typed 123 [.ptr id 0,s])),rfl,rfl,Sr.J4 hs hd hbox hρ h0 hoth hnew ?_ ⟨?_,λt ds e=>by simp only[PD.typed.injEq]at e;exact e.1⟩,Nx.J4 hs hd hbox hρ hfl h0 hoth,.aI [] [] rfl yo,λ_ h=>.inl h⟩
    .refine⟨rfl,λi v d h1 h2=>?_⟩
     match i,h1,h2 with
     |0,h1,h2=>
      exact uv
     |1,h1,h2=>
      exact uw
     |i+2,h1,h2=>simp[PD.cells]at h2
    .intro v hv;simp at hv;rcases hv with rfl|rfl
     .rfl
     .exact e4 _ yo
   .cases hg
  .rename_i id' s hbox;split at hg
   .rename_i hid;subst hid;simp only[yAb,yAc]at hg;obtain⟨rfl,rfl⟩:=hg;obtain⟨b',cs,T,e1,e2,e3,e4,e5⟩:=hs.box _ _ hd hbox;rw[hρ]at e1;simp only[Value.pointer.injEq,yAb,Addr.mk.injEq,and_true]at e1;subst e1;obtain⟨v0,v1,rfl,q1,q2⟩:=aEu e3;exact bz
   .cases hg
  .cases hg
 .cases hg
theorem aRL{E:aE}(hE:aF prog E):aF prog (E.add 47 aEt):=by
 refine hE.YI ⟨_,func47,rfl⟩ λfl args c vs p σ' hg hs hX hv=>?_
 unfold aEt at hg;split at hg
 .rename_i id;obtain⟨v,rfl,h1⟩:=TY hv;obtain⟨b,rfl,hd,_,hρ⟩:=h1.qN;split at hg
  .rename_i a z xs tok hbox;obtain⟨b',cs,T,e1,e2,e3,e4,e5⟩:=hs.box id _ hd hbox;rw[hρ]at e1;simp only[Value.pointer.injEq,yAb,Addr.mk.injEq,and_true]at e1;subst e1;obtain rfl:=e5 _ _ rfl;obtain⟨v0,v1,rfl,q1,q2⟩:=aEu e3;obtain⟨A,cap,flx,rfl,a1,a2,a3,a4,a5,a6,a7,a8⟩:=q2.oH;split at hg
   .simp only[yAb,yAc]at hg;obtain⟨rfl,rfl⟩:=hg;obtain⟨q,_,_⟩:=a8;rw[q]at e2;refine Calls.mono (Tryz.aRJ b v0 c.w e2) λe w' he=>?_
    exact kf
   .rename_i fJ;split at hg
    .rename_i n hown;split at hg
     .rename_i hc;obtain⟨rfl,hn0,rfl,hfl⟩:=hc;split at hg
      .rename_i l hl;simp only[yAb,yAc]at hg;obtain⟨rfl,rfl⟩:=hg;have hxs:=aEv hl;obtain⟨kM,e0,m0,lM,hle,j5⟩:=a8;rw[hown]at lM;simp only[yAb,U.own.injEq]at lM;obtain⟨rfl,_,rfl⟩:=lM;have j5:=j5 rfl;obtain⟨ys,hrow⟩:=hs.own fJ _ _ _ kM hown;rw[j5]at hrow;rcases hrow.2 with⟨_,h0⟩ | ⟨g,cap',cur,fz,fQ,_,hg,hfz,hnc,hcm,hcs,htake⟩
       .omega
       .simp only[Value.slice.injEq]at fQ;obtain⟨rfl,_,rfl⟩:=fQ;have hlen:l.length=xs.length:=by rw[hxs,yAe]
        have hcells:∀(j:Nat) (x:UInt8),l[j]?=some x->cur[j]?=some (.int .u8 x.toNat):=λj x hj=>by
         exact bu
        refine Calls.mono (Tryz.aRI b g cap xs.length v0 cur fz l c.w hlen ym e2 hg hnc hcm (by rw[hcs,Nat.mul_one]) hcells) λe w' he=>?_
        exact ai
      .cases hg
     .cases hg
    .cases hg
   .cases hg
  .cases hg
 .cases hg
end Go.Kz
namespace Go.Kz
open Go Go.Proofs
abbrev i64:Em Int:=Em.int .i64
abbrev nZ:Em (List Int):=i64.list 1
structure aX where
 name:Dr
 o9:Dr
 num:Int
 den:Int
 first:Int
 oA:List Int
 deriving DecidableEq
structure gU where
 bC:Int
 shift:Int
 deriving DecidableEq
structure jV where
 lo:Int
 hi:Int
 oB:List gU
 deriving DecidableEq
structure cM where
 name:Dr
 num:Int
 den:Int
 yF:List jV
 deriving DecidableEq
structure bY where
 name:Dr
 RM:Bool
 low:Int
 high:Int
 stops:List cM
 deriving DecidableEq
structure dY where
 name:Dr
 iR:Int
 dst:Int
 shift:Int
 M9:Bool
 deriving DecidableEq
structure eK where
 name:Dr
 aU:List aX
 bR:List bY
 iL:List dY
 deriving DecidableEq
def bJ.bC:bJ aX:=((bJ.one .text).pair ((bJ.one .text).pair ((bJ.one i64).pair ((bJ.one i64).pair ((bJ.one i64).pair (.one nZ)))))).nQ (λr=>(r.name,r.o9,r.num,r.den,r.first,r.oA)) (λx y h=>zg)
def Em.bC:Em aX:=.agg .bC
@[simp] theorem RN{r:aX}:Em.bC.aA r=.agg [.str r.name,.str r.o9,.int .i64 r.num,.int .i64 r.den,.int .i64 r.first,nZ.aA r.oA]:=rfl
abbrev aU:Em (List aX):=Em.bC.list 6
def bJ.draw:bJ gU:=((bJ.one i64).pair (.one i64)).nQ (λr=>(r.bC,r.shift)) (λx y h=>zg)
def Em.draw:Em gU:=.agg .draw
@[simp] theorem aCn{r:gU}:Em.draw.aA r=.agg [.int .i64 r.bC,.int .i64 r.shift]:=rfl
abbrev oN:Em (List gU):=Em.draw.list 2
def bJ.cK:bJ jV:=((bJ.one i64).pair ((bJ.one i64).pair (.one oN))).nQ (λr=>(r.lo,r.hi,r.oB)) (λx y h=>zg)
def Em.cK:Em jV:=.agg .cK
@[simp] theorem a8B{r:jV}:Em.cK.aA r=.agg [.int .i64 r.lo,.int .i64 r.hi,oN.aA r.oB]:=rfl
abbrev aCo:Em (List jV):=Em.cK.list 3
def bJ.stop:bJ cM:=((bJ.one .text).pair ((bJ.one i64).pair ((bJ.one i64).pair (.one aCo)))).nQ (λr=>(r.name,r.num,r.den,r.yF)) (λx y h=>zg)
def Em.stop:Em cM:=.agg .stop
@[simp] theorem PE{r:cM}:Em.stop.aA r=.agg [.str r.name,.int .i64 r.num,.int .i64 r.den,aCo.aA r.yF]:=rfl
abbrev aCp:Em (List cM):=Em.stop.list 4
def bJ.div:bJ bY:=((bJ.one .text).pair ((bJ.one .bool).pair ((bJ.one i64).pair ((bJ.one i64).pair (.one aCp))))).nQ (λr=>(r.name,r.RM,r.low,r.high,r.stops)) (λx y h=>zg)
def Em.div:Em bY:=.agg .div
@[simp] theorem aCq{r:bY}:Em.div.aA r=.agg [.str r.name,.bool r.RM,.int .i64 r.low,.int .i64 r.high,aCp.aA r.stops]:=rfl
abbrev aCr:Em (List bY):=Em.div.list 5
def bJ.cC:bJ dY:=((bJ.one .text).pair ((bJ.one i64).pair ((bJ.one i64).pair ((bJ.one i64).pair (.one .bool))))).nQ (λr=>(r.name,r.iR,r.dst,r.shift,r.M9)) (λx y h=>zg)
def Em.cC:Em dY:=.agg .cC
@[simp] theorem aUH{r:dY}:Em.cC.aA r=.agg [.str r.name,.int .i64 r.iR,.int .i64 r.dst,.int .i64 r.shift,.bool r.M9]:=rfl
abbrev KH:Em (List dY):=Em.cC.list 5
def bJ.fE:bJ eK:=((bJ.one .text).pair ((bJ.one aU).pair ((bJ.one aCr).pair (.one KH)))).nQ (λr=>(r.name,r.aU,r.bR,r.iL)) (λx y h=>zg)
def Em.fE:Em eK:=.agg .fE
@[simp] theorem yG{r:eK}:Em.fE.aA r=.agg [.str r.name,aU.aA r.aU,aCr.aA r.bR,KH.aA r.iL]:=rfl
def ZW(l:List Int):Prop:=l.length<=1000000
def aFz(l:List gU):Prop:=l.length<=1000000
def okR(r:aX):Prop:=ZW r.oA
def okG(g:jV):Prop:=aFz g.oB
def aUI(l:List jV):Prop:=l.length<=1000000/\∀r∈l,okG r
def okS(s:cM):Prop:=aUI s.yF
end Go.Kz
