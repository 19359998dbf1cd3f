/- Steps of the proof. -/
import Derived.Shelf.Strings.Builder1
import Derived.Shelf.Strings.Builder2
import Derived.Shelf.Strings.OnBuilder
import Derived.Shelf.Small.Strs
import Derived.Shelf.Strings.BuilderF
import Derived.Shelf.Strings.BuilderK
import Derived.Shelf.Strconv.Itoa0
import Derived.Shelf.Strconv.Itoa1
import Derived.Shelf.LaysM
import Derived.Shelf.Strconv.Itoa2
import Derived.Shelf.Strconv.Itoa3
import Derived.Shelf.Strings.Prefix
import Derived.Shelf.Bits.Mul64
import Derived.Shelf.Strings.Repeat
import Derived.Test.YteegpeenjdgodaaGreatDoorProg
import Derived.Test.YteegpeenjdgodaaGreatDoorG3
import Derived.Shelf.RegionOpen
import Derived.Lib.AppendIntMem
set_option linter.all false
set_option maxHeartbeats 40000000
set_option maxRecDepth 100000
open Go.Proofs.Tryz
noncomputable section
namespace Go.Proofs
open Go.Shelf
def Tryz.aE9:Go.Shelf.Ren:=⟨fun|169=>103|n=>n,fun|70=>178|9=>9|0=>0|72=>180|37=>97|127=>212|3=>3|5=>5|n=>n,fun|n=>n⟩
theorem Tryz.aE7:Go.Proofs.Lays.n169 prog Tryz.aE9:={
 mixed:=by kernel_rfl
 f169:=func103.trans (congrArg some (by kernel_rfl))
 t0:=underlying0
 a0:=Tryz.isAgg0
 z0:=Tryz.sizeOf0
 v0:=Tryz.zeroValue0
 t3:=underlying3
 a3:=Tryz.isAgg3
 z3:=Tryz.sizeOf3
 v3:=Tryz.zeroValue3
 t9:=underlying9
 a9:=Tryz.isAgg9
 z9:=Tryz.sizeOf9
 v9:=Tryz.zeroValue9
 t37:=underlying97
 a37:=Tryz.isAgg97
 z37:=Tryz.sizeOf97
 v37:=Tryz.zeroValue97
 t70:=underlying178
 a70:=Tryz.isAgg178
 z70:=Tryz.sizeOf178
 v70:=Tryz.zeroValue178
 t72:=underlying180
 a72:=Tryz.isAgg180
 z72:=Tryz.sizeOf180
 v72:=Tryz.zeroValue180
 t127:=underlying212
 a127:=Tryz.isAgg212
 z127:=Tryz.sizeOf212
 v127:=Tryz.zeroValue212 }
theorem Tryz.aPM:Builder.Extra prog Tryz.aE9:={
 sizeBuilder:=by kernel_rfl
 liesBuilder:=by kernel_rfl
 t5:=underlying5
 a5:=Tryz.isAgg5
 z5:=Tryz.sizeOf5
 v5:=Tryz.zeroValue5
 infoByte:=by kernel_rfl
 cellsByte:=by kernel_rfl
 sizeByte:=by kernel_rfl
 neB5:=by decide }
def Tryz.aFa:Go.Shelf.Ren:=⟨fun|156=>66|165=>101|166=>102|169=>103|240=>131|241=>132|276=>153|277=>154|n=>n,fun|31=>96|9=>9|3=>3|4=>4|0=>0|20=>20|72=>180|76=>184|70=>178|37=>97|75=>183|127=>212|164=>236|5=>5|80=>186|n=>n,fun|n=>n⟩
theorem Tryz.aPS:Go.Proofs.Lays.n156 prog Tryz.aFa:={
 mixed:=by kernel_rfl
 f156:=func66.trans (congrArg some (by kernel_rfl))
 f165:=func101.trans (congrArg some (by kernel_rfl))
 f166:=func102.trans (congrArg some (by kernel_rfl))
 f169:=func103.trans (congrArg some (by kernel_rfl))
 f240:=func131.trans (congrArg some (by kernel_rfl))
 f241:=func132.trans (congrArg some (by kernel_rfl))
 f276:=func153.trans (congrArg some (by kernel_rfl))
 f277:=func154.trans (congrArg some (by kernel_rfl))
 t0:=underlying0
 a0:=Tryz.isAgg0
 z0:=Tryz.sizeOf0
 v0:=Tryz.zeroValue0
 t3:=underlying3
 a3:=Tryz.isAgg3
 z3:=Tryz.sizeOf3
 v3:=Tryz.zeroValue3
 t4:=underlying4
 a4:=Tryz.isAgg4
 z4:=Tryz.sizeOf4
 v4:=Tryz.zeroValue4
 t9:=underlying9
 a9:=Tryz.isAgg9
 z9:=Tryz.sizeOf9
 v9:=Tryz.zeroValue9
 t20:=underlying20
 a20:=Tryz.isAgg20
 z20:=Tryz.sizeOf20
 v20:=Tryz.zeroValue20
 t31:=underlying96
 a31:=Tryz.isAgg96
 z31:=Tryz.sizeOf96
 v31:=Tryz.zeroValue96
 t37:=underlying97
 a37:=Tryz.isAgg97
 z37:=Tryz.sizeOf97
 v37:=Tryz.zeroValue97
 t70:=underlying178
 a70:=Tryz.isAgg178
 z70:=Tryz.sizeOf178
 v70:=Tryz.zeroValue178
 t72:=underlying180
 a72:=Tryz.isAgg180
 z72:=Tryz.sizeOf180
 v72:=Tryz.zeroValue180
 t75:=underlying183
 a75:=Tryz.isAgg183
 z75:=Tryz.sizeOf183
 v75:=Tryz.zeroValue183
 t76:=underlying184
 a76:=Tryz.isAgg184
 z76:=Tryz.sizeOf184
 v76:=Tryz.zeroValue184
 t127:=underlying212
 a127:=Tryz.isAgg212
 z127:=Tryz.sizeOf212
 v127:=Tryz.zeroValue212
 t164:=underlying236
 a164:=Tryz.isAgg236
 z164:=Tryz.sizeOf236
 v164:=Tryz.zeroValue236 }
theorem Tryz.aPT:Builder.Extra prog Tryz.aFa:={
 sizeBuilder:=by kernel_rfl
 liesBuilder:=by kernel_rfl
 t5:=underlying5
 a5:=Tryz.isAgg5
 z5:=Tryz.sizeOf5
 v5:=Tryz.zeroValue5
 infoByte:=by kernel_rfl
 cellsByte:=by kernel_rfl
 sizeByte:=by kernel_rfl
 neB5:=by decide }
open Go.RowKit in
theorem Tryz.strings_Join(bk o c:Nat)(xs:List ByteArray)(sep:ByteArray)(w:World)(hcells:∀(j:Nat) x,xs[j]?=some x->w.cell? ⟨bk,o+j,none⟩=some (.string x))(hbk:bk<w.heap.size)(hN:xs.length<=140737488355328)(hcap:xs.length<=c)(hlen:(Lib.join (xs.map (·.data.toList)) sep.data.toList).length<=140737488355328) :
  Calls prog 66 #[.slice (some ⟨bk,o,none⟩) xs.length c,.string sep] w fun e w'=>e=.returned (.string ⟨(Lib.join (xs.map (·.data.toList)) sep.data.toList).toArray⟩)/\Below w.heap.size w w':=Any.strings_Join Tryz.aPS Tryz.aPT bk o c xs sep w hcells hbk hN hcap hlen
def Tryz.aPU:Go.Shelf.Ren:=⟨fun|106=>162|213=>180|265=>192|n=>n,fun|9=>9|3=>3|n=>n,fun|n=>n⟩
theorem Tryz.aPV:Go.Proofs.Lays.n106 prog Tryz.aPU:={
 mixed:=by kernel_rfl
 f106:=func162.trans (congrArg some (by kernel_rfl))
 f213:=func180.trans (congrArg some (by kernel_rfl))
 f265:=func192.trans (congrArg some (by kernel_rfl))
 t3:=underlying3
 a3:=Tryz.isAgg3
 z3:=Tryz.sizeOf3
 v3:=Tryz.zeroValue3
 t9:=underlying9
 a9:=Tryz.isAgg9
 z9:=Tryz.sizeOf9
 v9:=Tryz.zeroValue9 }
open Go.RowKit in
theorem Tryz.strings_Compare(a b:ByteArray)(w:World) :
  Calls prog 162 #[.string a,.string b] w fun e w'=>e=.returned (.int .i64 (Lib.compareBytes a.data.toList b.data.toList))/\w'=w:=Any.strings_Compare Tryz.aPV a b w
def Tryz.aPW:Go.Shelf.Ren:=⟨fun|283=>149|n=>n,fun|3=>3|9=>9|4=>4|n=>n,fun|n=>n⟩
theorem Tryz.aPX:Go.Proofs.Lays.n283 prog Tryz.aPW:={
 mixed:=by kernel_rfl
 f283:=func149.trans (congrArg some (by kernel_rfl))
 t3:=underlying3
 a3:=Tryz.isAgg3
 z3:=Tryz.sizeOf3
 v3:=Tryz.zeroValue3
 t4:=underlying4
 a4:=Tryz.isAgg4
 z4:=Tryz.sizeOf4
 v4:=Tryz.zeroValue4
 t9:=underlying9
 a9:=Tryz.isAgg9
 z9:=Tryz.sizeOf9
 v9:=Tryz.zeroValue9 }
open Go.Lib in
theorem Tryz.internal_strconv_small(i:Nat)(h:i<100)(w:World) :
  Calls prog 149 #[.int .i64 i] w fun e w'=>e=.returned (.string ⟨(Lib.decDigits i).toArray⟩)/\w'=w:=Any.internal_strconv_small Tryz.aPX i h w
def Tryz.aPY:Go.Shelf.Ren:=⟨fun|284=>150|129=>169|317=>168|318=>170|n=>n,fun|53=>226|3=>3|212=>254|0=>0|4=>4|46=>243|5=>5|9=>9|n=>n,fun|17=>0|n=>n⟩
theorem Tryz.aPZ:Go.Proofs.LaysM.n284 prog Tryz.aPY:={
 mixed:=by kernel_rfl
 f129:=func169.trans (congrArg some (by kernel_rfl))
 f284:=func150.trans (congrArg some (by kernel_rfl))
 f317:=func168.trans (congrArg some (by kernel_rfl))
 f318:=func170.trans (congrArg some (by kernel_rfl))
 t0:=underlying0
 a0:=Tryz.isAgg0
 z0:=Tryz.sizeOf0
 v0:=Tryz.zeroValue0
 t3:=underlying3
 a3:=Tryz.isAgg3
 z3:=Tryz.sizeOf3
 v3:=Tryz.zeroValue3
 t4:=underlying4
 a4:=Tryz.isAgg4
 z4:=Tryz.sizeOf4
 v4:=Tryz.zeroValue4
 t5:=underlying5
 a5:=Tryz.isAgg5
 z5:=Tryz.sizeOf5
 v5:=Tryz.zeroValue5
 t9:=underlying9
 a9:=Tryz.isAgg9
 z9:=Tryz.sizeOf9
 v9:=Tryz.zeroValue9
 t46:=underlying243
 a46:=Tryz.isAgg243
 z46:=Tryz.sizeOf243
 v46:=Tryz.zeroValue243
 t53:=underlying226
 a53:=Tryz.isAgg226
 z53:=Tryz.sizeOf226
 v53:=Tryz.zeroValue226
 t212:=underlying254
 a212:=Tryz.isAgg254
 z212:=Tryz.sizeOf254
 v212:=Tryz.zeroValue254
 g17:=by kernel_rfl
 i0:=by kernel_rfl
 i3:=by kernel_rfl
 i4:=by kernel_rfl
 i5:=by kernel_rfl
 i9:=by kernel_rfl
 i46:=by kernel_rfl
 i53:=by kernel_rfl
 i212:=by kernel_rfl
 m17:=by kernel_rfl }
open Go.Lib in
theorem Tryz.internal_strconv_numDigits(u:Nat)(h1:1<=u)(h2:u<18446744073709551616)(w:World)(htab:Lib.TabIs prog w "internal/strconv.uint64pow10" .u64 Lib.pow10Tab) :
  Calls prog 150 #[.int .u64 u] w fun e w'=>e=.returned (.int .i64 (Lib.nDigits u))/\w'=w:=Any.internal_strconv_numDigits Tryz.aPZ u h1 h2 w htab
def Tryz.aP0:Go.Shelf.Ren:=⟨fun|285=>151|n=>n,fun|37=>97|53=>226|3=>3|4=>4|51=>255|9=>9|5=>5|0=>0|n=>n,fun|n=>n⟩
theorem Tryz.aP1:Go.Proofs.Lays.n285 prog Tryz.aP0:={
 mixed:=by kernel_rfl
 f285:=func151.trans (congrArg some (by kernel_rfl))
 t0:=underlying0
 a0:=Tryz.isAgg0
 z0:=Tryz.sizeOf0
 v0:=Tryz.zeroValue0
 t3:=underlying3
 a3:=Tryz.isAgg3
 z3:=Tryz.sizeOf3
 v3:=Tryz.zeroValue3
 t4:=underlying4
 a4:=Tryz.isAgg4
 z4:=Tryz.sizeOf4
 v4:=Tryz.zeroValue4
 t5:=underlying5
 a5:=Tryz.isAgg5
 z5:=Tryz.sizeOf5
 v5:=Tryz.zeroValue5
 t9:=underlying9
 a9:=Tryz.isAgg9
 z9:=Tryz.sizeOf9
 v9:=Tryz.zeroValue9
 t37:=underlying97
 a37:=Tryz.isAgg97
 z37:=Tryz.sizeOf97
 v37:=Tryz.zeroValue97
 t51:=underlying255
 a51:=Tryz.isAgg255
 z51:=Tryz.sizeOf255
 v51:=Tryz.zeroValue255
 t53:=underlying226
 a53:=Tryz.isAgg226
 z53:=Tryz.sizeOf226
 v53:=Tryz.zeroValue226 }
open Go.RowKit Go.Sort Go.Lib in
theorem Tryz.internal_strconv_formatBase10(bA off cap:Nat)(u:Nat)(d:Array UInt8)(w:World)(hH:Holds (fun(b:UInt8)=>Value.int .u8 (b.toNat:Int)) w bA off d)(hu:u<10^d.size)(hu64:u<18446744073709551616)(hsz:d.size<4611686018427387904) :
  Calls prog 151 #[.slice (some ⟨bA,off,none⟩) d.size cap,.int .u64 u] w fun e w'=>
   e=.returned (.tuple #[])/\∃(n v':Nat) (dk:Array UInt8),w'=(putRow (fun(b:UInt8)=>Value.int .u8 (b.toNat:Int)) w bA off dk).drewN n/\FmtInv d.size u 0 v' dk:=Any.internal_strconv_formatBase10 Tryz.aP1 bA off cap u d w hH hu hu64 hsz
def Tryz.aP2:Go.Shelf.Ren:=⟨fun|171=>65|243=>100|246=>130|283=>149|284=>150|285=>151|286=>152|129=>169|317=>168|318=>170|319=>171|320=>172|337=>185|338=>186|n=>n,fun|3=>3|9=>9|2=>2|4=>4|171=>231|0=>0|53=>226|37=>97|5=>5|173=>234|212=>254|51=>255|20=>20|213=>256|46=>243|232=>275|233=>276|n=>n,fun|17=>0|18=>2|19=>3|n=>n⟩
theorem Tryz.aP3:Go.Proofs.LaysM.n171 prog Tryz.aP2:={
 mixed:=by kernel_rfl
 f129:=func169.trans (congrArg some (by kernel_rfl))
 f171:=func65.trans (congrArg some (by kernel_rfl))
 f243:=func100.trans (congrArg some (by kernel_rfl))
 f246:=func130.trans (congrArg some (by kernel_rfl))
 f283:=func149.trans (congrArg some (by kernel_rfl))
 f284:=func150.trans (congrArg some (by kernel_rfl))
 f285:=func151.trans (congrArg some (by kernel_rfl))
 f286:=func152.trans (congrArg some (by kernel_rfl))
 f317:=func168.trans (congrArg some (by kernel_rfl))
 f318:=func170.trans (congrArg some (by kernel_rfl))
 f319:=func171.trans (congrArg some (by kernel_rfl))
 f320:=func172.trans (congrArg some (by kernel_rfl))
 f337:=func185.trans (congrArg some (by kernel_rfl))
 f338:=func186.trans (congrArg some (by kernel_rfl))
 t0:=underlying0
 a0:=Tryz.isAgg0
 z0:=Tryz.sizeOf0
 v0:=Tryz.zeroValue0
 t2:=underlying2
 a2:=Tryz.isAgg2
 z2:=Tryz.sizeOf2
 v2:=Tryz.zeroValue2
 t3:=underlying3
 a3:=Tryz.isAgg3
 z3:=Tryz.sizeOf3
 v3:=Tryz.zeroValue3
 t4:=underlying4
 a4:=Tryz.isAgg4
 z4:=Tryz.sizeOf4
 v4:=Tryz.zeroValue4
 t5:=underlying5
 a5:=Tryz.isAgg5
 z5:=Tryz.sizeOf5
 v5:=Tryz.zeroValue5
 t9:=underlying9
 a9:=Tryz.isAgg9
 z9:=Tryz.sizeOf9
 v9:=Tryz.zeroValue9
 t20:=underlying20
 a20:=Tryz.isAgg20
 z20:=Tryz.sizeOf20
 v20:=Tryz.zeroValue20
 t37:=underlying97
 a37:=Tryz.isAgg97
 z37:=Tryz.sizeOf97
 v37:=Tryz.zeroValue97
 t46:=underlying243
 a46:=Tryz.isAgg243
 z46:=Tryz.sizeOf243
 v46:=Tryz.zeroValue243
 t51:=underlying255
 a51:=Tryz.isAgg255
 z51:=Tryz.sizeOf255
 v51:=Tryz.zeroValue255
 t53:=underlying226
 a53:=Tryz.isAgg226
 z53:=Tryz.sizeOf226
 v53:=Tryz.zeroValue226
 t171:=underlying231
 a171:=Tryz.isAgg231
 z171:=Tryz.sizeOf231
 v171:=Tryz.zeroValue231
 t173:=underlying234
 a173:=Tryz.isAgg234
 z173:=Tryz.sizeOf234
 v173:=Tryz.zeroValue234
 t212:=underlying254
 a212:=Tryz.isAgg254
 z212:=Tryz.sizeOf254
 v212:=Tryz.zeroValue254
 t213:=underlying256
 a213:=Tryz.isAgg256
 z213:=Tryz.sizeOf256
 t232:=underlying275
 a232:=Tryz.isAgg275
 z232:=Tryz.sizeOf275
 v232:=Tryz.zeroValue275
 t233:=underlying276
 a233:=Tryz.isAgg276
 z233:=Tryz.sizeOf276
 v233:=Tryz.zeroValue276
 g17:=by kernel_rfl
 g18:=by kernel_rfl
 g19:=by kernel_rfl
 i0:=by kernel_rfl
 i2:=by kernel_rfl
 i3:=by kernel_rfl
 i4:=by kernel_rfl
 i5:=by kernel_rfl
 i9:=by kernel_rfl
 i20:=by kernel_rfl
 i37:=by kernel_rfl
 i46:=by kernel_rfl
 i51:=by kernel_rfl
 i53:=by kernel_rfl
 i171:=by kernel_rfl
 i173:=by kernel_rfl
 i212:=by kernel_rfl
 i232:=by kernel_rfl
 i233:=by kernel_rfl
 m17:=by kernel_rfl
 m18:=by kernel_rfl
 m19:=by kernel_rfl }
open Go.RowKit Go.Sort Go.Lib in
theorem Tryz.strconv_Itoa(n:Int)(h0:-9223372036854775808<=n)(h1:n<=9223372036854775807)(w:World)(htab:Lib.TabIs prog w "internal/strconv.uint64pow10" .u64 Lib.pow10Tab) :
  Calls prog 65 #[.int .i64 n] w fun e w'=>e=.returned (.string ⟨(Lib.itoa n).toArray⟩)/\∃k os,w'=grow (w.drewN k) os:=Any.strconv_Itoa Tryz.aP3 n h0 h1 w htab
def Tryz.aFb:Go.Shelf.Ren:=⟨fun|105=>176|212=>189|99=>178|165=>101|166=>102|170=>190|169=>103|263=>193|264=>194|206=>191|240=>131|241=>132|276=>153|277=>154|n=>n,fun|9=>9|3=>3|4=>4|20=>20|0=>0|46=>243|109=>272|5=>5|72=>180|76=>184|51=>255|146=>277|53=>226|148=>279|70=>178|37=>97|75=>183|127=>212|164=>236|80=>186|n=>n,fun|n=>n⟩
theorem Tryz.aP4:Go.Proofs.Lays.n105 prog Tryz.aFb:={
 mixed:=by kernel_rfl
 f99:=func178.trans (congrArg some (by kernel_rfl))
 f105:=func176.trans (congrArg some (by kernel_rfl))
 f165:=func101.trans (congrArg some (by kernel_rfl))
 f166:=func102.trans (congrArg some (by kernel_rfl))
 f169:=func103.trans (congrArg some (by kernel_rfl))
 f170:=func190.trans (congrArg some (by kernel_rfl))
 f206:=func191.trans (congrArg some (by kernel_rfl))
 f212:=func189.trans (congrArg some (by kernel_rfl))
 f240:=func131.trans (congrArg some (by kernel_rfl))
 f241:=func132.trans (congrArg some (by kernel_rfl))
 f263:=func193.trans (congrArg some (by kernel_rfl))
 f264:=func194.trans (congrArg some (by kernel_rfl))
 f276:=func153.trans (congrArg some (by kernel_rfl))
 f277:=func154.trans (congrArg some (by kernel_rfl))
 t0:=underlying0
 a0:=Tryz.isAgg0
 z0:=Tryz.sizeOf0
 v0:=Tryz.zeroValue0
 t3:=underlying3
 a3:=Tryz.isAgg3
 z3:=Tryz.sizeOf3
 v3:=Tryz.zeroValue3
 t4:=underlying4
 a4:=Tryz.isAgg4
 z4:=Tryz.sizeOf4
 v4:=Tryz.zeroValue4
 t5:=underlying5
 a5:=Tryz.isAgg5
 z5:=Tryz.sizeOf5
 v5:=Tryz.zeroValue5
 t9:=underlying9
 a9:=Tryz.isAgg9
 z9:=Tryz.sizeOf9
 v9:=Tryz.zeroValue9
 t20:=underlying20
 a20:=Tryz.isAgg20
 z20:=Tryz.sizeOf20
 v20:=Tryz.zeroValue20
 t37:=underlying97
 a37:=Tryz.isAgg97
 z37:=Tryz.sizeOf97
 v37:=Tryz.zeroValue97
 t46:=underlying243
 a46:=Tryz.isAgg243
 z46:=Tryz.sizeOf243
 v46:=Tryz.zeroValue243
 t51:=underlying255
 a51:=Tryz.isAgg255
 z51:=Tryz.sizeOf255
 v51:=Tryz.zeroValue255
 t53:=underlying226
 a53:=Tryz.isAgg226
 z53:=Tryz.sizeOf226
 v53:=Tryz.zeroValue226
 t70:=underlying178
 a70:=Tryz.isAgg178
 z70:=Tryz.sizeOf178
 v70:=Tryz.zeroValue178
 t72:=underlying180
 a72:=Tryz.isAgg180
 z72:=Tryz.sizeOf180
 v72:=Tryz.zeroValue180
 t75:=underlying183
 a75:=Tryz.isAgg183
 z75:=Tryz.sizeOf183
 v75:=Tryz.zeroValue183
 t76:=underlying184
 a76:=Tryz.isAgg184
 z76:=Tryz.sizeOf184
 v76:=Tryz.zeroValue184
 t109:=underlying272
 a109:=Tryz.isAgg272
 z109:=Tryz.sizeOf272
 v109:=Tryz.zeroValue272
 t127:=underlying212
 a127:=Tryz.isAgg212
 z127:=Tryz.sizeOf212
 v127:=Tryz.zeroValue212
 t146:=underlying277
 a146:=Tryz.isAgg277
 z146:=Tryz.sizeOf277
 v146:=Tryz.zeroValue277
 t148:=underlying279
 a148:=Tryz.isAgg279
 z148:=Tryz.sizeOf279
 v148:=Tryz.zeroValue279
 t164:=underlying236
 a164:=Tryz.isAgg236
 z164:=Tryz.sizeOf236
 v164:=Tryz.zeroValue236 }
theorem Tryz.aP5:Builder.Extra prog Tryz.aFb:={
 sizeBuilder:=by kernel_rfl
 liesBuilder:=by kernel_rfl
 t5:=underlying5
 a5:=Tryz.isAgg5
 z5:=Tryz.sizeOf5
 v5:=Tryz.zeroValue5
 infoByte:=by kernel_rfl
 cellsByte:=by kernel_rfl
 sizeByte:=by kernel_rfl
 neB5:=by decide }
open Go.RowKit Go.Lib in
theorem Tryz.strings_Repeat(s:ByteArray)(c:Nat)(w:World)(hc:c<=9223372036854775807)(hlen:s.size*c<=140737488355328) :
  Calls prog 176 #[.string s,.int .i64 c] w fun e w'=>e=.returned (.string ⟨(Lib.repeatL s.data.toList c).toArray⟩)/\Below w.heap.size w w':=Any.strings_Repeat Tryz.aP4 Tryz.aP5 s c w hc hlen
end Go.Proofs
namespace Go.Proofs
open Go Go.RowKit
def Tryz.aE4:Go.Shelf.Ren:=⟨fun|240=>131|276=>153|n=>n,fun|70=>178|72=>180|37=>97|164=>236|n=>n,fun|n=>n⟩
theorem Tryz.aE5:Go.Proofs.Lays.n240 prog Tryz.aE4:={
 mixed:=by kernel_rfl
 f240:=func131.trans (congrArg some (by kernel_rfl))
 f276:=func153.trans (congrArg some (by kernel_rfl))
 t0:=underlying0
 a0:=Tryz.isAgg0
 z0:=Tryz.sizeOf0
 v0:=Tryz.zeroValue0
 t4:=underlying4
 a4:=Tryz.isAgg4
 z4:=Tryz.sizeOf4
 v4:=Tryz.zeroValue4
 t9:=underlying9
 a9:=Tryz.isAgg9
 z9:=Tryz.sizeOf9
 v9:=Tryz.zeroValue9
 t20:=underlying20
 a20:=Tryz.isAgg20
 z20:=Tryz.sizeOf20
 v20:=Tryz.zeroValue20
 t70:=underlying178
 a70:=Tryz.isAgg178
 z70:=Tryz.sizeOf178
 v70:=Tryz.zeroValue178
 t72:=underlying180
 a72:=Tryz.isAgg180
 z72:=Tryz.sizeOf180
 v72:=Tryz.zeroValue180
 t164:=underlying236
 a164:=Tryz.isAgg236
 z164:=Tryz.sizeOf236
 v164:=Tryz.zeroValue236 }
theorem Tryz.aE6:Builder.X72 prog Tryz.aE4:={
 sizeBuilder:=by kernel_rfl
 liesBuilder:=by kernel_rfl }
section
set_option maxRecDepth 100000
theorem Tryz.aPL(b g cap n:Nat)(p:Value)(cur:Array Value)(fz:Nat×Nat)(l:List UInt8)(w:World)(hl:l.length=n)(h0:n≠0)(hb:w.heap[b]?=some (.cells #[p,.slice (some ⟨g,0,none⟩) n cap] 180 (0,0)))
  (hg:w.heap[g]?=some (.cells cur 5 fz)) (hnc:n<=cap) (hcm:cap<=maxLen) (hcs:cur.size=cap) (hcur:∀(j:Nat) (x:UInt8),l[j]?=some x->cur[j]?=some (.int .u8 x.toNat)) :
  Calls prog 103 #[.pointer (some ⟨b,0,none⟩)] w fun e w'=>e=.returned (.string ⟨l.toArray⟩)/\w'=w.drew.freeze ⟨g,0,none⟩ n:=by
 subst hl
 have c1:w.drew.cell? ⟨b,1,none⟩=some (.slice (some ⟨g,0,none⟩) l.length cap):=by
  have hb':w.drew.heap[b]?=_:=hb
  simp[World.cell?,hb']
 have hSD:=Lib.run_unsafeSliceData_row (P:=prog) w.drew #[97] 212 ⟨g,0,none⟩ l.length cap (by omega)
 have hUS:(Builtin.unsafeString_ #[212,3] 9 #[.pointer (some ⟨g,0,none⟩),.int .i64 l.length]).run prog w.drew=.ok (.string ⟨l.toArray⟩) (w.drew.freeze ⟨g,0,none⟩ l.length):=by
  refine Lib.run_unsafeString_row w.drew 212 3 9 5 underlying212 Tryz.aPM.cellsByte g cur.size (by have hg':w.drew.heap[g]?=_:=hg;simp[World.shape?,hg']) l (by intro e;rw[e]at h0;exact h0 rfl) (by omega) (by unfold maxLen at hcm;omega) ?_
  intro j x hx
  have hg':w.drew.heap[g]?=_:=hg
  have hadd:(⟨g,0,none⟩:Addr).add j=⟨g,j,none⟩:=by unfold Addr.add;split<;>simp_all
  rw[hadd]
  simp only[World.cell?,hg']
  simpa using hcur j x hx
 have t72:=underlying180;have a72:=Tryz.isAgg180;have z72:=Tryz.sizeOf180;have v72:=Tryz.zeroValue180;have u72:=run_underlying underlying180
 have t70:=underlying178;have a70:=Tryz.isAgg178;have z70:=Tryz.sizeOf178;have v70:=Tryz.zeroValue178;have u70:=run_underlying underlying178
 have t37:=underlying97;have a37:=Tryz.isAgg97;have z37:=Tryz.sizeOf97;have v37:=Tryz.zeroValue97;have u37:=run_underlying underlying97
 have t127:=underlying212;have a127:=Tryz.isAgg212;have z127:=Tryz.sizeOf212;have v127:=Tryz.zeroValue212;have aPN:=run_underlying underlying212
 have t3:=underlying3;have a3:=Tryz.isAgg3;have z3:=Tryz.sizeOf3;have v3:=Tryz.zeroValue3;have u3:=run_underlying underlying3
 have t9:=underlying9;have a9:=Tryz.isAgg9;have z9:=Tryz.sizeOf9;have v9:=Tryz.zeroValue9;have u9:=run_underlying underlying9
 have mixed:=Tryz.aE7.mixed
 go_enter func103,Tryz.ntmps103
 go_wp2
 go_region_o
 all_goals (go_wp2;go_ret;exact⟨rfl,rfl⟩)
theorem Tryz.aPO(b:Nat)(p:Value)(w:World)(hb:w.heap[b]?=some (.cells #[p,.slice none 0 0] 180 (0,0))) :
  Calls prog 103 #[.pointer (some ⟨b,0,none⟩)] w fun e w'=>e=.returned (.string ⟨#[]⟩)/\w'=w.drew:=by
 have c1:w.drew.cell? ⟨b,1,none⟩=some (.slice none 0 0):=by
  have hb':w.drew.heap[b]?=_:=hb
  simp[World.cell?,hb']
 have hSD:=Lib.run_unsafeSliceData_nil (P:=prog) w.drew #[97] 212 0 0
 have hUS:=Lib.run_unsafeString_none (P:=prog) w.drew 212 3 9 none
 have t72:=underlying180;have a72:=Tryz.isAgg180;have z72:=Tryz.sizeOf180;have v72:=Tryz.zeroValue180;have u72:=run_underlying underlying180
 have t70:=underlying178;have a70:=Tryz.isAgg178;have z70:=Tryz.sizeOf178;have v70:=Tryz.zeroValue178;have u70:=run_underlying underlying178
 have t37:=underlying97;have a37:=Tryz.isAgg97;have z37:=Tryz.sizeOf97;have v37:=Tryz.zeroValue97;have u37:=run_underlying underlying97
 have t127:=underlying212;have a127:=Tryz.isAgg212;have z127:=Tryz.sizeOf212;have v127:=Tryz.zeroValue212;have aPN:=run_underlying underlying212
 have t3:=underlying3;have a3:=Tryz.isAgg3;have z3:=Tryz.sizeOf3;have v3:=Tryz.zeroValue3;have u3:=run_underlying underlying3
 have t9:=underlying9;have a9:=Tryz.isAgg9;have z9:=Tryz.sizeOf9;have v9:=Tryz.zeroValue9;have u9:=run_underlying underlying9
 have mixed:=Tryz.aE7.mixed
 go_enter func103,Tryz.ntmps103
 go_wp2
 go_region_o
 all_goals (go_wp2;go_ret;exact⟨rfl,rfl⟩)
end
end Go.Proofs
namespace Go.Kz
open Go Go.Proofs
def YS:Nat->List PD->List aB->Option (PD×List aB):=λfl args σ=>match args with
 | [.ptr id 0]=>match σ[id]? with
   |some (.box (.typed 180 [.gR,s]))=>if fl<=id then some (.aI [],σ.set id (.box (.typed 180 [.ptr id 0,s])))else none
   |some (.box (.typed 180 [.ptr id' 0,_]))=>if id'=id then some (.aI [],σ)else none
   |_=>none
 |_=>none
def YT:Nat->List PD->List aB->Option (PD×List aB):=λfl args σ=>match args with
 | [.ptr id 0]=>match σ[id]? with
   |some (.box (.typed 180 [_,.slice z xs tok]))=>match tok with
    |.nil=>some (.str [],σ)
    |.own P8=>match σ[P8]? with
      |some (.own 5 1 n)=>if n=xs.length/\0<n/\z=1/\fl<=P8 then(match LK xs with|some l=>some (.str l,σ)|none=>none)else none
      |_=>none
    |_=>none
   |_=>none
 |_=>none
theorem aPP{w:World}{b o:Nat}{cs:Gf}{T:TypeId}{fz:Nat×Nat}{v:Value}(hb:w.heap[b]?=some (.cells cs T fz)):(w.setCell ⟨b,o,none⟩ v).heap[b]?=some (.cells (cs.setIfInBounds o v) T fz):=by
 simp only[World.setCell,Array.getElem?_modify,if_true,hb];rfl
theorem aPQ{w:World}{b o k:Nat}{v:Value}(h:k≠b):(w.setCell ⟨b,o,none⟩ v).heap[k]?=w.heap[k]?:=by
 simp only[World.setCell,Array.getElem?_modify];rw[if_neg (Ne.symm h)]
theorem aPR(g j:Nat):(⟨g,0,none⟩:Addr).add j=⟨g,j,none⟩:=Av
theorem YU{c:Cx}{cs:Gf}{p q:PD}(h:aV c cs.toList [p,q]):∃v u,cs=#[v,u]/\VR c v p/\VR c u q:=by
 obtain⟨v,u,e,h1,h2⟩:=LI h;exact⟨v,u,Array.toList_inj.1 (by simpa using e),h1,h2⟩
theorem aPH{E:aE}(hE:aF prog E):aF prog (E.add 131 YS):=by
 refine hE.LL ⟨_,func131,rfl⟩ λfl args c vs p σ' hg hs hX hv=>?_
 unfold YS at hg;split at hg
 .rename_i id;obtain⟨v,rfl,h1⟩:=P9 hv;obtain⟨b,rfl,hd,_,hρ⟩:=h1.tE;split at hg
  .rename_i s hbox;split at hg
   .rename_i hfl;simp only[yAb,yAc]at hg;obtain⟨rfl,rfl⟩:=hg;obtain⟨b',cs,T,e1,e2,e3,e4,e5⟩:=hs.box id _ hd hbox;rw[hρ]at e1;simp only[Value.pointer.injEq,yAb,Addr.mk.injEq,and_true]at e1;subst e1;obtain rfl:=e5 _ _ rfl;obtain⟨v0,v1,rfl,q1,q2⟩:=YU e3;have iN:v0=.pointer none:=q1.D9;subst iN;have hc0:c.w.cell? ⟨b,0,none⟩=some (.pointer none):=by simp[World.cell?,e2]
    refine Calls.mono (Any.Builder_copyCheck_fresh Tryz.aE5 Tryz.aE6 b c.w hc0 (by simp[World.shape?,e2];rfl) (by simp[World.frozen?,e2])) λe w' he=>?_
    obtain⟨rfl,rfl⟩:=he;have hnew:=aPP (o:=0) (v:=Value.pointer (some ⟨b,0,none⟩)) e2;have hoth:∀k,k≠b->(c.w.setCell ⟨b,0,none⟩ (.pointer (some ⟨b,0,none⟩))).heap[k]?=c.w.heap[k]?:=λk hk=>aPQ hk
    have h0:(c.w.setCell ⟨b,0,none⟩ (.pointer (some ⟨b,0,none⟩))).os=c.w.os/\(c.w.setCell ⟨b,0,none⟩ (.pointer (some ⟨b,0,none⟩))).tape=c.w.tape/\(c.w.setCell ⟨b,0,none⟩ (.pointer (some ⟨b,0,none⟩))).output=c.w.output/\(c.w.setCell ⟨b,0,none⟩ (.pointer (some ⟨b,0,none⟩))).heap.size=c.w.heap.size:=⟨rfl,rfl,rfl,by simp[World.setCell]⟩;have hp:VR c (.pointer (some ⟨b,0,none⟩)) (.ptr id 0):=.ptr id 0 b hd ⟨_,hbox⟩ hρ;refine⟨c.put _ id (c.ρ id) (.box (.typed 180 [.ptr id 0,s])),rfl,rfl,Sr.GV hs hd hbox hρ h0 hoth hnew ?_ ⟨?_,λt ds e=>by simp only[PD.typed.injEq]at e;exact e.1⟩,Nx.GV hs hd hbox hρ hfl h0 hoth,.aI [] [] rfl Ai,λ_ h=>.inl h⟩
    .refine⟨rfl,λi v d h1 h2=>?_⟩
     match i,h1,h2 with
     |0,h1,h2=>
      simp[PD.cells]at h1 h2;subst h1 h2;exact hp
     |1,h1,h2=>
      simp[PD.cells]at h1 h2;subst h1 h2;exact q2
     |i+2,h1,h2=>simp[PD.cells]at h2
    .intro v hv;simp at hv;rcases hv with rfl|rfl
     .rfl
     .exact e4 _ Ai
   .cases hg
  .rename_i id' s hbox;split at hg
   .rename_i hid;subst hid;simp only[yAb,yAc]at hg;obtain⟨rfl,rfl⟩:=hg;obtain⟨b',cs,T,e1,e2,e3,e4,e5⟩:=hs.box _ _ hd hbox;rw[hρ]at e1;simp only[Value.pointer.injEq,yAb,Addr.mk.injEq,and_true]at e1;subst e1;obtain⟨v0,v1,rfl,q1,q2⟩:=YU e3;obtain⟨b2,rfl,_,_,oW⟩:=q1.tE;rw[hρ]at oW;simp only[Value.pointer.injEq,yAb,Addr.mk.injEq,and_true]at oW;subst oW;have hc0:c.w.cell? ⟨b,0,none⟩=some (.pointer (some ⟨b,0,none⟩)):=by simp[World.cell?,e2]
    refine Calls.mono (Any.Builder_copyCheck_used Tryz.aE5 Tryz.aE6 b c.w hc0) λe w' he=>?_
    obtain⟨rfl,rfl⟩:=he;exact⟨c,rfl,rfl,hs,.refl _ _,.aI [] [] rfl Ai,λ_ h=>.inl h⟩
   .cases hg
  .cases hg
 .cases hg
theorem aPJ{E:aE}(hE:aF prog E):aF prog (E.add 103 YT):=by
 refine hE.LL ⟨_,func103,rfl⟩ λfl args c vs p σ' hg hs hX hv=>?_
 unfold YT at hg;split at hg
 .rename_i id;obtain⟨v,rfl,h1⟩:=P9 hv;obtain⟨b,rfl,hd,_,hρ⟩:=h1.tE;split at hg
  .rename_i a z xs tok hbox;obtain⟨b',cs,T,e1,e2,e3,e4,e5⟩:=hs.box id _ hd hbox;rw[hρ]at e1;simp only[Value.pointer.injEq,yAb,Addr.mk.injEq,and_true]at e1;subst e1;obtain rfl:=e5 _ _ rfl;obtain⟨v0,v1,rfl,q1,q2⟩:=YU e3;obtain⟨A,cap,flx,rfl,a1,a2,a3,a4,a5,a6,a7,a8⟩:=q2.oF;split at hg
   .simp only[yAb,yAc]at hg;obtain⟨rfl,rfl⟩:=hg;obtain⟨q,_,_⟩:=a8;rw[q]at e2;refine Calls.mono (Tryz.aPO b v0 c.w e2) λe w' he=>?_
    obtain⟨rfl,rfl⟩:=he;have hgr:=grownBy_drew c.w;exact⟨c.at c.w.drew,rfl,rfl,hs.grow hgr,Nx.grow hs hgr,.str [],λ_ h=>.inl h⟩
   .rename_i P8;split at hg
    .rename_i n hown;split at hg
     .rename_i hc;obtain⟨rfl,hn0,rfl,hfl⟩:=hc;split at hg
      .rename_i l hl;simp only[yAb,yAc]at hg;obtain⟨rfl,rfl⟩:=hg;have hxs:=aE8 hl;obtain⟨jD,e0,m0,cX,hle,oW⟩:=a8;rw[hown]at cX;simp only[yAb,aB.own.injEq]at cX;obtain⟨rfl,_,rfl⟩:=cX;have oW:=oW rfl;obtain⟨ys,hrow⟩:=hs.own P8 _ _ _ jD hown;rw[oW]at hrow;rcases hrow.2 with⟨_,h0⟩ | ⟨g,cap',cur,fz,iN,_,hg,hfz,hnc,hcm,hcs,htake⟩
       .omega
       .simp only[Value.slice.injEq]at iN;obtain⟨rfl,_,rfl⟩:=iN;have hlen:l.length=xs.length:=by rw[hxs,yAe]
        have hcells:∀(j:Nat) (x:UInt8),l[j]?=some x->cur[j]?=some (.int .u8 x.toNat):=λj x hj=>by
         have hjl:j<xs.length:=by rw[<-hlen];exact(yA.1 hj).1
         have hjf:j<flx.length:=Ah;obtain⟨ad,q3,q4,_⟩:=a6 j flx[j] (by simp[hjf]);cases q3;rw[aPR]at q4;simp only[World.cell?,hg]at q4;have GK:(xs.flatMap PD.cells)[j]?=some (.int .u8 x.toNat):=by
          rw[hxs,TF,yAo,hj];rfl
         have:=(a7 j flx[j] _ (by simp[hjf]) GK).int_eq;rw[this]at q4;simpa using q4
        refine Calls.mono (Tryz.aPL b g cap xs.length v0 cur fz l c.w hlen Ah e2 hg hnc hcm (by rw[hcs,Nat.mul_one]) hcells) λe w' he=>?_
        obtain⟨rfl,rfl⟩:=he;have hlt:g<c.w.heap.size:=gJ hg;have hw1:∀k,k≠g->(c.w.drew.freeze ⟨g,0,none⟩ xs.length).heap[k]?=c.w.heap[k]?:=λk hk=>by
         unfold World.freeze;rw[if_neg Ah];simp only[Array.getElem?_modify];rw[if_neg (Ne.symm hk)];rfl
        have hg':c.w.drew.heap[g]?=some (.cells cur 5 fz):=hg;have wR:(c.w.drew.freeze ⟨g,0,none⟩ xs.length).heap[g]?=some (.cells cur 5 (if fz.1==fz.2 then(0,0+xs.length)else(min fz.1 0,max fz.2 (0+xs.length)))):=by
         unfold World.freeze;rw[if_neg Ah];simp only[Array.getElem?_modify,if_true,hg'];rfl
        have hsz:(c.w.drew.freeze ⟨g,0,none⟩ xs.length).os=c.w.os/\(c.w.drew.freeze ⟨g,0,none⟩ xs.length).tape=c.w.tape/\(c.w.drew.freeze ⟨g,0,none⟩ xs.length).output=c.w.output/\(c.w.drew.freeze ⟨g,0,none⟩ xs.length).heap.size=c.w.heap.size:=by
         unfold World.freeze;rw[if_neg Ah];exact⟨rfl,rfl,rfl,Ai⟩
        refine⟨c.at _,rfl,rfl,Sr.QA hs jD hown oW hg hsz hw1 wR ?_,Nx.QA jD oW hfl hg hsz hw1 wR,.str l,λ_ h=>.inl h⟩;simp only[yAp,Nat.mul_one];split
        .exact yAk _
        .simp only;omega
      .cases hg
     .cases hg
    .cases hg
   .cases hg
  .cases hg
 .cases hg
end Go.Kz
namespace Go.Kz
section
open Go Go.Proofs Go.RowKit
def YP:List PD->Option PD:=λargs=>match args with
 | [.str l,.int .i64 n]=>if 0<=n/\n<=1000/\l.length<=1000 then some (.str (Lib.repeatL l n.toNat))else none
 |_=>none
def YR:List PD->Option PD:=λargs=>match args with
 | [.str a,.str b]=>some (.int .i64 (Lib.compareBytes a b))
 |_=>none
theorem aPC{w w':World}(h:Below w.heap.size w w'):w.grownBy w' none:=⟨h.os,h.tape,h.output,h.size,λk hk _=>h.block k hk⟩
theorem aPD{E:aE}(hE:aF prog E):aF prog (E.add 176 (entry YP)):=by
 refine hE.H9 ⟨_,func176,rfl⟩ λargs c vs p hg hs hv=>?_
 unfold YP at hg;split at hg
 .rename_i l n;split at hg
  .rename_i hc;obtain⟨h0,h1,h2⟩:=hc;simp only[yAb]at hg;subst hg;obtain⟨v,u,rfl,q1,q2⟩:=LI hv;rw[q1.LJ,q2.int_eq];obtain⟨k,rfl⟩:∃k:Nat,n=k:=⟨n.toNat,Ah⟩;have hle:(⟨l.toArray⟩:ByteArray).size*k<=140737488355328:=by
    have hsz:(⟨l.toArray⟩:ByteArray).size=l.length:=Eg;rw[hsz];have:l.length*k<=1000*1000:=yDy h2 Ah;omega
   refine yBA (Tryz.strings_Repeat ⟨l.toArray⟩ k c.w Ah hle) λe w' he=>?_
   obtain⟨rfl,hb⟩:=he;exact⟨_,rfl,aPC hb,λ_=>.str _⟩
  .cases hg
 .cases hg
theorem aPE{E:aE}(hE:aF prog E):aF prog (E.add 162 (entry YR)):=by
 refine hE.H9 ⟨_,func162,rfl⟩ λargs c vs p hg hs hv=>?_
 unfold YR at hg;split at hg
 .rename_i a b;simp only[yAb]at hg;subst hg;obtain⟨v,u,rfl,q1,q2⟩:=LI hv;rw[q1.LJ,q2.LJ];refine yBA (Tryz.strings_Compare ⟨a.toArray⟩ ⟨b.toArray⟩ c.w) λe w' he=>?_
  obtain⟨rfl,rfl⟩:=he;exact⟨_,rfl,grownBy_refl _,λ_=>.int _ _⟩
 .cases hg
def Bs0:aE:=λ_=>none
theorem aPF:aF prog Bs0:=λ_ hg=>by cases hg
def Bs1:aE:=Bs0.add 131 YS
theorem aPG:aF prog Bs1:=aPH aPF
def Bs2:aE:=Bs1.add 103 YT
theorem aPI:aF prog Bs2:=aPJ aPG
def Bs3:aE:=Bs2.add 176 (entry YP)
theorem aPK:aF prog Bs3:=aPD aPI
def Bs4:aE:=Bs3.add 162 (entry YR)
theorem aPB:aF prog Bs4:=aPE aPK
end
end Go.Kz
namespace Go.Proofs
open Go Go.Shelf Go.RowKit Go.Sort Go.Lib
set_option maxHeartbeats 6400000 in
set_option maxRecDepth 100000 in
theorem Tryz.aPy(u:Nat)(hu64:u<18446744073709551616)(w:World)(htab:Lib.TabIs prog w "internal/strconv.uint64pow10" .u64 Lib.pow10Tab) :
  Calls prog 188 #[.int .u64 u,.int .i64 10] w fun e w'=>e=.returned (.string ⟨(Lib.decDigits u).toArray⟩)/\∃k os,w'=grow (w.drewN k) os:=by
 have mixed:prog.follows .mixedOrders=true:=by kernel_rfl
 have t3:=underlying3;have a3:=Tryz.isAgg3;have z3:=Tryz.sizeOf3;have v3:=Tryz.zeroValue3
 have t9:=underlying9;have a9:=Tryz.isAgg9;have z9:=Tryz.sizeOf9;have v9:=Tryz.zeroValue9
 have t4:=underlying4;have a4:=Tryz.isAgg4;have z4:=Tryz.sizeOf4;have v4:=Tryz.zeroValue4
 have t171:=underlying231;have a171:=Tryz.isAgg231;have z171:=Tryz.sizeOf231;have v171:=Tryz.zeroValue231
 have t53:=underlying226;have a53:=Tryz.isAgg226;have z53:=Tryz.sizeOf226;have v53:=Tryz.zeroValue226
 have t37:=underlying97;have a37:=Tryz.isAgg97;have z37:=Tryz.sizeOf97;have v37:=Tryz.zeroValue97
 have t5:=underlying5;have a5:=Tryz.isAgg5;have z5:=Tryz.sizeOf5;have v5:=Tryz.zeroValue5
 have aWl:∀args w,(callFunc 149 args).run prog w=.ok (.enter 149 args) w:=enters_of func149 (by kernel_rfl) rfl
 have aWm:∀args w,(callFunc 150 args).run prog w=.ok (.enter 150 args) w:=enters_of func150 (by kernel_rfl) rfl
 have aWn:∀args w,(callFunc 151 args).run prog w=.ok (.enter 151 args) w:=enters_of func151 (by kernel_rfl) rfl
 by_cases hs:u<100
 ·have hws:IntKind.i64.wrap (u:Int)=(u:Int):=by rw[IntKind.wrap_i64];omega
  have hlt:(u:Int)<100:=by omega
  go_enter func188,Tryz.ntmps188
  go_wp2_with (go_at_fn 149;refine(Tryz.internal_strconv_small u hs _).mono ?_;rintro e w' ⟨rfl,rfl⟩)
  go_ret
  exact⟨rfl,0,#[],by simp[World.drewN_zero]⟩
 ·have hu1:1<=u:=by omega
  have hnlt:¬(u:Int)<100:=by omega
  have hnd20:Lib.nDigits u<=20:=by have:=Lib.numDigits_eq u hu1 hu64;split at this<;>omega
  have hal:prog.arrayLen 231=24:=by simp[Program.arrayLen,underlying231]
  have aWo:∀W,(Instr.sliceAt 231 (.pointer (some ⟨w.heap.size,0,none⟩)) none (some (.int .i64 (Lib.nDigits u:Int))) none).run prog W=.ok (.slice (some ⟨w.heap.size,0,none⟩) (Lib.nDigits u) 24) W:=fun W=>by
   rw[run_sliceAt_array_h W 231 ⟨w.heap.size,0,none⟩ (by simp[Program.arrayLen,Program.elem,underlying231]) .i64 (Lib.nDigits u:Int) (by omega) (by rw[hal];omega)]
   go_simp
  have YN:Holds (fun(b:UInt8)=>Value.int .u8 (b.toNat:Int)) (w.alloc (.cells Lib.zeros24 231)) w.heap.size 0 (Array.replicate (Lib.nDigits u) 0):=
   Lib.holds_zero0 w _ _ (by omega)
  have hfmt:=Tryz.internal_strconv_formatBase10 w.heap.size 0 24 u (Array.replicate (Lib.nDigits u) 0) (w.alloc (.cells Lib.zeros24 231)) YN (by rw[Array.size_replicate];exact Lib.lt_pow_nDigits u) hu64 (by rw[Array.size_replicate];omega)
  rw[Array.size_replicate]at hfmt
  have HH0:=Lib.hid YN
  clear YN hal
  go_enter func188,Tryz.ntmps188
  go_wp2_with (first
   |(go_at_fn 150;refine(Tryz.internal_strconv_numDigits u hu1 hu64 _ (Lib.tabIs_alloc htab _)).mono ?_;rintro e w' ⟨rfl,rfl⟩))
  go_at_fn 151
  refine hfmt.mono ?_
  rintro e w' ⟨rfl,k,v',dk,rfl,hF⟩
  have hcv:(convert 97 9 (.slice (some ⟨w.heap.size,0,none⟩) (Lib.nDigits u) 24)).run prog ((putRow (fun(b:UInt8)=>Value.int .u8 (b.toNat:Int)) (w.alloc (.cells Lib.zeros24 231)) w.heap.size 0 dk).drewN k)=.ok (.string ⟨(Lib.decDigits u).toArray⟩) ((putRow (fun(b:UInt8)=>Value.int .u8 (b.toNat:Int)) (w.alloc (.cells Lib.zeros24 231)) w.heap.size 0 dk).drewN k):=by
   have h:=run_convert_bytes_back (P:=prog) ((putRow (fun(b:UInt8)=>Value.int .u8 (b.toNat:Int)) (w.alloc (.cells Lib.zeros24 231)) w.heap.size 0 dk).drewN k) 97 9 5 ⟨w.heap.size,0,none⟩ 24 (Lib.decDigits u) underlying97 underlying5 underlying9 (fun j hj=>by
    rw[Lib.row_is_numeral hF j hj,Lib.add_plain,World.cell?_drewN]
    exact cell?_putRow (fun(b:UInt8)=>Value.int .u8 (b.toNat:Int)) _ w.heap.size 0 _ dk HH0.out (by rw[hF.size,Array.size_replicate]) j (by rw[hF.size];rw[Lib.decDigits_length]at hj;exact hj))
   rw[Lib.decDigits_length]at h
   exact h
  go_wp2
  go_ret
  obtain⟨os,eo⟩:=Lib.fin_at w (.cells Lib.zeros24 231) dk k 0
  exact⟨rfl,k,os,eo⟩
end Go.Proofs
namespace Go.Kz
open Go Go.Proofs Go.RowKit
def YO:List PD->Option PD:=λargs=>match args with
 | [.int .u64 n,.int .i64 b]=>if 0<=n/\n<18446744073709551616/\b=10 then some (.str (Lib.decDigits n.toNat))else none
 |_=>none
theorem aPz{E:aE}(hE:aF prog E):aF prog (E.add 188 (entry YO)):=by
 refine hE.H9 ⟨_,func188,rfl⟩ λargs c vs p hg hs hv=>?_
 unfold YO at hg;split at hg
 .rename_i n b;split at hg
  .rename_i hc;obtain⟨h0,h1,rfl⟩:=hc;simp only[yAb]at hg;subst hg;obtain⟨v,u,rfl,q1,q2⟩:=LI hv;rw[q1.int_eq,q2.int_eq];obtain⟨k,rfl⟩:∃k:Nat,n=k:=⟨n.toNat,Ah⟩;obtain⟨⟨cs,T,fz,hheap,hh⟩,_⟩:=hs.jQ.2 0 rfl;have hcs:=hh.1 .u64 _ rfl;have htab:Lib.TabIs prog c.w "internal/strconv.uint64pow10" .u64 Lib.pow10Tab:=by
    unfold Lib.TabIs World.var?;have hg:prog.globalNamed "internal/strconv.uint64pow10" = some 0:=Aj;rw[hg];simp only[Option.bind_some,hheap];rw[hcs];rfl
   refine Calls.mono (Tryz.aPy k Ah c.w htab) λe w' he=>?_
   obtain⟨rfl,k',os,rfl⟩:=he;exact⟨_,rfl,⟨rfl,rfl,rfl,by simp[Go.Sort.grow],λi hi _=>by simp[Go.Sort.grow,Array.getElem?_append,hi]⟩,λ_=>.str _⟩
  .cases hg
 .cases hg
set_option maxRecDepth 100000
def Bs5:aE:=Bs4.add 188 (entry YO)
theorem aPA:aF prog Bs5:=aPz aPB
end Go.Kz
namespace Go.Kz
open Go Go.Proofs
section
abbrev dC:Em Int:=Em.int .u64
def jW(l:List Int):Nat:=(l.reverse.dropWhile λx=>decide (x=0)).length
theorem aE1(l:List Int):jW (l++[0])=jW l:=by simp[jW,List.dropWhile]
theorem aE2(l:List Int)(x:Int)(h:x≠0):jW (l++[x])=l.length+1:=by simp[jW,List.dropWhile,h]
theorem YK(l:List Int):jW l<=l.length:=by
 unfold jW;exact yAV (List.dropWhile_sublist _).length_le Ai
theorem aE3(l:List Int)(n:Nat)(h:n<l.length):l.take (n+1)=l.take n++[l[n]]:=Ai
variable{E:aE}(hU:aH E)
include hU
theorem aPu(h0:E 177=none)(fl z:Nat)(l:List Int)(tok:Tok)(τ:List aB)(hz:l=[]\/z=1)(hl:l.length<=100000):aL prog E fl (.inl 177) [.slice z (l.map dC.aA) tok] τ
  (λp1 σ1=>p1=.slice z ((l.take (jW l)).map dC.aA) (if jW l=l.length then tok else .any)/\σ1=τ):=by
 obtain⟨T,hT⟩:=gn (jW l);rw[hT];refine aL.aN 21 h0 func177 (h:=?_);refine aC trivial ?_;refine Wp.cZ (λm fr σ=>∃(n:Nat),∃gg:Nat->PD,(n=m/\n<=l.length/\jW (l.take n)=T)/\fr=[.slice z ((l.take n).map dC.aA) (if n=l.length then tok else .any),gg 1,gg 2,gg 3,gg 4,gg 5,gg 6,gg 7,gg 8,gg 9,gg 10,gg 11,gg 12,gg 13,gg 14,gg 15,gg 16,gg 17,gg 18,gg 19,gg 20]/\σ=τ) ?_ (l.length) Ek
 rintro m fr σ ⟨n,gg,hI,rfl,rfl⟩
 obtain⟨rfl,hn,hs⟩:=hI;have hlen:(l.take n).length=n:=Bv;obtain⟨A,hA⟩:=gn (l.take n);rw[hA]at hs hlen;cases n with
 |zero=>
  exact yj
 |succ n=>
  have ht:=aE3 l n Ah;rw[hA]at ht;obtain⟨x,hx⟩:=gn (l[n]);rw[hx]at ht;have hz1:z=1:=hz.resolve_left (λh=>by rw[h]at hn;simp at hn);subst hz1;obtain⟨tk,htk⟩:∃t,(if n+1=l.length then tok else .any)=t:=⟨_,rfl⟩;have w1:IntKind.i64.wrap ((n:Int)+1-1)=(n:Int):=Am;obtain⟨M,hM⟩:=gn ((l.take (n+1)).map dC.aA);have hMl:M.length=n+1:=by rw[<-hM,yAe,hA,hlen]
  have hMn:M[n]?=some (.int .u64 x):=by
   rw[<-hM,hA,ht,yAH,yBS (by rw[yAe,yAt];omega)];rw[yAe,yAt,yBK Ah,yCt];rfl
  obtain⟨hlt,hMe⟩:=yA.1 hMn;have hMt:M.take n=(l.take n).map dC.aA:=by
   rw[<-hM,<-yCP,yCj,yBK Ah]
  rw[htk,hM]
  by_cases hx0:x=0
  .have xH:¬n=l.length:=by omega
   have hn2:¬n=n+1:=Ah;have hs':jW (l.take n)=T:=by rw[<-hs,ht,hx0,aE1]
   have hpr:∀t,GF 1 1 M t (some (0,n))=some (.slice 1 ((l.take n).map dC.aA) .any):=λt=>by
    unfold GF;simp only[hMl,yCW,yCd,hMt];simp[hn2]
   refine aC (A7 hMl hMn hMe hx0 w1 hpr hn2) ?_;refine bV.normal (n) Ah (by refine⟨n,?_⟩;exact eS (⟨rfl,Ah,hs'⟩) @xH)
  .have YM:T=n+1:=by rw[<-hs,ht,aE2 _ _ hx0,yAt];omega
   subst YM;refine aC (A4 hMl hMn hMe hx0) ?_;exact⟨_,_,rfl,by rw[hM,htk];rfl,rfl⟩
theorem aPv(h0:E 177=none)(fl id off:Nat)(l:List Int)(cs:List PD)(τ:List aB)(hq:τ[id]?=some (.box (.agg cs)))(hc:∀j (h:j<l.length),cs[off+j]?=some (.int .u64 (l[j])))(hl:l.length<=100000) :
  aL prog E fl (.inl 177) [.dJ id off l.length 1] τ (λp1 σ1=>p1=.dJ id off (jW l) 1/\σ1=τ):=by
 obtain⟨T,hT⟩:=gn (jW l);rw[hT];refine aL.aN 21 h0 func177 (h:=?_);refine aC trivial ?_;refine Wp.cZ (λm fr σ=>∃(n:Nat),∃gg:Nat->PD,(n=m/\n<=l.length/\jW (l.take n)=T)/\fr=[.dJ id off n 1,gg 1,gg 2,gg 3,gg 4,gg 5,gg 6,gg 7,gg 8,gg 9,gg 10,gg 11,gg 12,gg 13,gg 14,gg 15,gg 16,gg 17,gg 18,gg 19,gg 20]/\σ=τ) ?_ (l.length) Ek
 rintro m fr σ ⟨n,gg,hI,rfl,rfl⟩
 obtain⟨rfl,hn,hs⟩:=hI;have hlen:(l.take n).length=n:=Bv;obtain⟨A,hA⟩:=gn (l.take n);rw[hA]at hs hlen;cases n with
 |zero=>
  exact yj
 |succ n=>
  have ht:=aE3 l n Ah;rw[hA]at ht;obtain⟨x,hx⟩:=gn (l[n]);have hcn:=hc n Ah;rw[hx]at ht hcn;obtain⟨hlt,hce⟩:=yA.1 hcn;have w1:IntKind.i64.wrap ((n:Int)+1-1)=(n:Int):=Am
  by_cases hx0:x=0
  .have hs':jW (l.take n)=T:=by rw[<-hs,ht,hx0,aE1]
   subst hx0;refine aC (A4 @hq hcn hce w1) ?_;refine bV.normal (n) Ah (by refine⟨n,?_⟩;exact cF (⟨rfl,Ah,hs'⟩))
  .have YM:T=n+1:=by rw[<-hs,ht,aE2 _ _ hx0,yAt];omega
   subst YM;refine aC (A5 @hq hcn hce w1 hx0) ?_;exact ay
end
section
def wY:List PD->Option (List Int)
 | []=>some []
 |.int .u64 n::r=>match wY r with|some l=>some (n::l)|none=>none
 |_=>none
theorem LC:∀ {xs:Gc} {l:List Int},wY xs=some l->xs=l.map dC.aA
 | [],l,h=>by simp only[wY,yAb]at h;subst h;rfl
 |x::r,l,h=>by
  unfold wY at h;split at h
  .cases ‹_::_=_›
  .rename_i n r' e;simp only[yCb]at e;obtain⟨rfl,rfl⟩:=e;split at h
   .rename_i l' hl;simp only[yAb]at h;subst h;rw[LC hl];rfl
   .cases h
  .cases h
@[simp] theorem YJ:∀l:List Int,wY (l.map dC.aA)=some l
  | []=>rfl
  |n::l=>by
   show wY (.int .u64 n::l.map dC.aA)=_
   simp only[wY,YJ l]
def wZ:Nat->List PD->List aB->Option (PD×List aB):=λ_ args σ=>match args with
 | [.slice z xs tok]=>match wY xs with
   |some l=>if (l.length=0\/z=1)/\l.length<=100000 then some (.slice z ((l.take (jW l)).map dC.aA) (if jW l=l.length then tok else .any),σ)else none
   |none=>none
 | [.dJ id off n 1]=>match σ[id]? with
   |some (.box (.agg cs))=>match wY ((cs.drop off).take n)with
    |some l=>if l.length=n/\n<=100000 then some (.dJ id off (jW l) 1,σ)else none
    |none=>none
   |_=>none
 |_=>none
theorem aL.vH{P:Program}{E:aE}{fl:Nat}{f:FuncId ⊕ Nat}{args:Gc}{σ σ':Gb}{p:PD}(h:aL P E fl f args σ (λp1 σ1=>p1=p/\σ1=σ')):jL P E fl f args σ p σ':=by
 obtain⟨p1,σ1,h1,rfl,rfl⟩:=h.ex;exact h1
section
variable{E:aE}(hU:aH E)
include hU
theorem aPt(hE:aF prog E)(h0:E 177=none):aF prog (E.add 177 wZ):=
 hE.add Aj λfl args σ p σ' h=>by
  unfold wZ at h;split at h
  .rename_i z xs tok;split at h
   .rename_i l hl;split at h
    .rename_i hc;simp only[yAb,yAc]at h;obtain⟨rfl,rfl⟩:=h;rw[LC hl];exact aL.vH (aPu hU h0 fl z l tok σ (hc.1.imp yAf id) hc.2)
    .cases h
   .cases h
  .rename_i id off n;split at h
   .rename_i cs hcs;split at h
    .rename_i l hl;split at h
     .rename_i hc;simp only[yAb,yAc]at h;obtain⟨rfl,rfl⟩:=h;obtain⟨hln,hnb⟩:=hc;subst hln;have hx:=LC hl;refine aL.vH (aPv hU h0 fl id off l cs σ hcs (λj hj=>?_) hnb);have h1:=yAK (λt=>t[j]?) hx;simp only[yAv,hj,yAL,yBn,yAo]at h1;rw[h1,yAh hj];rfl
     .cases h
    .cases h
   .cases h
  .cases h
end
theorem aPw(fl z:Nat)(l:List Int)(tok:Tok)(σ:List aB)(hz:l=[]\/z=1)(hl:l.length<=100000):wZ fl [.slice z (l.map dC.aA) tok] σ=some (.slice z ((l.take (jW l)).map dC.aA) (if jW l=l.length then tok else .any),σ):=by
 unfold wZ;simp only[YJ];rw[yAJ ⟨hz.imp (λh=>Bu) id,hl⟩]
def w5(l:List UInt8):Nat:=l.foldl (λa c=>10*a+(c.toNat-48)) 0
def LD(l:List UInt8)(k:Nat):Nat:=w5 ((l.drop (l.length-9*k-9)).take (l.length-9*k-(l.length-9*k-9)))
def oB(l:List UInt8)(k:Nat):List Int:=(List.range k).map λi=>(LD l i:Int)
def LF(l:List UInt8):List Int:=(oB l ((l.length+8)/9)).take (jW (oB l ((l.length+8)/9)))
def P7(l:List UInt8):Prop:=∀c∈l,48<=c.toNat/\c.toNat<=57
theorem aEY(l:List UInt8)(c:UInt8):w5 (l++[c])=10*w5 l+(c.toNat-48):=by simp[w5]
theorem aEZ:∀(n:Nat) (l:List UInt8),l.length=n->P7 l->w5 l<10^n
 |0,l,h,_=>by rw[yAf h];decide
 |n+1,l,h,hd=>by
  have hne:l≠[]:=λe=>by rw[e]at h;simp at h
  have e:=List.dropLast_concat_getLast hne;rw[<-e,aEY];have h1:=aEZ n l.dropLast (by rw[List.length_dropLast];omega) (λc hc=>hd c ((List.dropLast_sublist l).subset hc));have h2:=hd _ (List.getLast_mem hne);rw[Nat.pow_succ];omega
section
variable{E:aE}(hU:aH E)
include hU
theorem aPx(h0:E 173=none)(h1:E 177=some wZ)(l:List UInt8)(hl:l.length<=1000)(hd:P7 l):aJ prog E 173 [.str l] ((dC.list 1).aA (LF l)):=by
 obtain⟨K,hK⟩:=gn ((l.length+8)/9);have hls:∀k,(oB l k).length=k:=λk=>by simp[oB]
 have hsu:∀k,oB l (k+1)=oB l k++[(LD l k:Int)]:=λk=>by simp[oB,yDf]
 unfold LF;rw[hK];refine aJ.aN 39 h0 func173 (h:=?_);refine aC trivial ?_;refine Wp.cZ (λm fr σ=>∃(k z:Nat),∃gg:Nat->PD,(k+m=K/\(oB l k=[]\/z=1))/\fr=[.str l,gg 1,gg 2,.slice z ((oB l k).map dC.aA) (jM 0 (oB l k).length),.int .i64 ((l.length:Int)-9*k),gg 5,gg 6,gg 7,gg 8,gg 9,gg 10,gg 11,gg 12,gg 13,gg 14,gg 15,gg 16,gg 17,gg 18,gg 19,gg 20,gg 21,gg 22,gg 23,gg 24,gg 25,gg 26,gg 27,gg 28,gg 29,gg 30,gg 31,gg 32,gg 33,gg 34,gg 35,gg 36,gg 37,gg 38]/\σ=St [] 226 1 (oB l k).length) ?_ (K) (by refine⟨0,0,?_⟩;exact j6 (⟨Ah,.inl rfl⟩) Dg Dg)
 rintro m fr σ ⟨k,z,gg,hI,rfl,rfl⟩
 obtain⟨hm,hz⟩:=hI
 by_cases hk:k<K
 .have q1:(0:Int)<(l.length:Int)-9*k:=by omega
  obtain⟨b,hb⟩:=gn (l.length-9*k);have eb:(l.length:Int)-9*k=(b:Int):=Ah;obtain⟨a,ha⟩:=gn (b-9);have hb0:0<b:=Ah;have hA:LD l k=w5 ((l.drop a).take (b-a)):=by unfold LD;rw[hb,ha]
  obtain⟨C,hC⟩:=gn ((l.drop a).take (b-a));have hCl:C.length=b-a:=by rw[<-hC,yAt,yBg];omega
  have hCd:P7 C:=λc hc=>hd c (by rw[<-hC]at hc;exact yBi (yAy hc))
  rw[hC]at hA;rw[eb];have w1:IntKind.i64.wrap ((b:Int)-9)=(b:Int)-9:=Am;have q2:(0:Int)<(b:Int):=Ah;have hmx:(if (b:Int)-9<0 then(0:Int)else(b:Int)-9)=(a:Int):=by split<;>omega
  refine aC (A6 q1 q2 hb0 w1 hmx hC) ?_;obtain⟨M,hM⟩:∃M,M=m:=⟨_,rfl⟩;rw[<-hM]at hm ⊢;clear hM;have hl0:w5 (C.take 0)=0:=rfl;refine Wp.cZ (λm fr σ=>∃(i:Nat),∃gg:Nat->PD,(i+m=C.length)/\fr=[.str l,gg 1,gg 2,.slice z ((oB l k).map dC.aA) (jM 0 (oB l k).length),.int .i64 b,.int .u64 (w5 (C.take i):Nat),gg 6,gg 7,gg 8,gg 9,gg 10,gg 11,gg 12,gg 13,gg 14,gg 15,gg 16,gg 17,gg 18,gg 19,.slice 1 (C.map λb=>.int .u8 b.toNat) .any,.int .i64 C.length,.int .i64 i,gg 23,gg 24,gg 25,gg 26,gg 27,gg 28,gg 29,gg 30,gg 31,gg 32,gg 33,gg 34,gg 35,gg 36,gg 37,gg 38]/\σ=St [] 226 1 (oB l k).length) ?_ (C.length) (by refine⟨0,?_⟩;exact eS Ah @hl0)
  rintro m fr σ ⟨i,gg,hI,rfl,rfl⟩
  have hm2:=hI
  by_cases hi:i<C.length
  .have q3:(i:Int)<(C.length:Int):=by omega
   obtain⟨c,hc⟩:=gn (C[i]);have hcd:=hCd c (hc▸yAm hi);have htk:C.take (i+1)=C.take i++[c]:=by rw[<-hc];simp
   have hv:=aEZ i (C.take i) Bv (λx hx=>hCd x (yAy hx));have hv9:w5 (C.take i)<10^9:=yBT hv (Nat.pow_le_pow_right Al Ah);have hsn:=aEY (C.take i) c;rw[<-htk]at hsn;obtain⟨v,hvv⟩:=gn (w5 (C.take i));rw[hvv]at hv9 hsn ⊢;obtain⟨n,hn⟩:=gn (c.toNat);rw[hn]at hcd hsn;obtain⟨d,hdd⟩:=gn (n-48);rw[hdd]at hsn;have y1:IntKind.u64.wrap (10*(v:Int))=10*(v:Int):=Fa;have y2:IntKind.u8.wrap ((n:Int)-48)=(d:Int):=Ar;have y3:IntKind.u64.wrap (d:Int)=(d:Int):=Fa;have y4:IntKind.u64.wrap (10*(v:Int)+(d:Int))=10*(v:Int)+(d:Int):=Fa;refine aC (A8 q3 hi hc @hn y1 y2 y3 y4) ?_;refine bV.normal (m-1) Ah (by refine⟨i+1,?_⟩;exact eS Ah @hsn)
  .have q3:¬(i:Int)<(C.length:Int):=by omega
   obtain rfl:i=C.length:=Ah;have hfull:w5 (C.take C.length)=LD l k:=by rw[hA,yBQ]
   rw[hfull];have LG:=hls k;have aE0:=hsu k;have e9:(b:Int)-9=(l.length:Int)-9*((k:Int)+1):=Ah;obtain⟨LS,hLS⟩:=gn (oB l k);rw[hLS]at LG aE0 hz ⊢;refine aC (A4 q3 w1 @hz LG) ?_;refine bV.normal (M-1) Ah (by refine⟨k+1,1,?_⟩;exact eS (⟨Ah,.inr rfl⟩) (A3 aE0 LG e9))
 .have q1:¬(0:Int)<(l.length:Int)-9*k:=by omega
  obtain rfl:k=K:=Ah;have LG:=hls k;obtain⟨LS,hLS⟩:=gn (oB l k);rw[hLS]at LG hz ⊢;have hg:=λfl σ=>aPw fl z LS (jM 0 LS.length) σ hz Ah
  have q4:¬9*(k:Int)<(l.length:Int):=Ah;obtain⟨T,hT⟩:=gn (jW LS);have hTl:T<=LS.length:=hT▸YK LS
  obtain⟨tk,htk⟩:∃t,(if T=LS.length then jM 0 LS.length else .any)=t:=⟨_,rfl⟩;rw[hT]at hg ⊢;rw[htk]at hg;obtain⟨LT,hLT⟩:=gn (LS.take T);rw[hLT]at hg ⊢;have hzs:LT=[]\/z=1:=hz.imp (λh=>by rw[<-hLT,h];simp) id;have hst:PD.strip (.slice z (LT.map dC.aA) tk)=(dC.list 1).aA LT:=by
   rw[PD.r8,show(LT.map dC.aA).map PD.strip=LT.map dC.aA by rw[yBz];exact yAG λx _=>dC.str x];rcases hzs with h|h
   .rw[h];rfl
   .rw[h];show _=PD.slice (sz 1 LT) (LT.map dC.aA) .any
    simp[sz]
  refine aC (A4 q1 q4 h1 hg) ?_;exact⟨_,_,rfl,hst⟩
end
end
section
def qS(x:Int):Int:=IntKind.u64.wrap x
def yW(a:Int):List Int->Nat->List Int->Int->List Int×Int
 | [],_,o,c=>(o,c)
 |b::r,p,o,c=>yW a r (p+1) (o.set p ((qS (qS (o.getD p 0+qS (a*b))+c)).tmod 1000000000)) (qS ((qS (qS (o.getD p 0+qS (a*b))+c)).tdiv 1000000000))
def C4(ns:List Int):List Int->Nat->List Int->List Int
 | [],_,o=>o
 |a::r,i,o=>C4 ns r (i+1) ((yW a ns i o 0).1.set (i+ns.length) (qS ((yW a ns i o 0).1.getD (i+ns.length) 0+(yW a ns i o 0).2)))
def QU(m n:List Int):List Int:=(C4 n m 0 (List.replicate (m.length+n.length+1) 0)).take (jW (C4 n m 0 (List.replicate (m.length+n.length+1) 0)))
theorem aGe(a:Int):∀(r:List Int) (p:Nat) (o:List Int) (c:Int),(yW a r p o c).1.length=o.length
 | [],_,_,_=>rfl
 |b::r,p,o,c=>by
  unfold yW;rw[aGe a r];simp
theorem aRV{P:Program}{e:TypeId}{n b:Nat}(h:iM P e=some (n,b)):∃i,P.info? e=some i/\i.size=n/\i.bytes=b:=by
 unfold iM at h;split at h
 .rename_i i hi;split at h
  .split at h
   .simp only[yAb,yAc]at h;exact⟨i,hi,h.1,h.2⟩
   .cases h
  .cases h
 .cases h
theorem aRW(σ:List aB)(n:Nat)(hn:n<=2000000):vU prog σ 240 226 n n=some (.dJ σ.length 0 n 1,σ++[.box (.agg ((List.replicate n 0).map dC.aA))]):=by
 obtain⟨i,hi,h0,hb⟩:=aRV (P:=prog) (e:=226) (n:=1) (b:=8) Aj;have h1:cH prog 226=some 1:=Aj;have h2:eR prog 226=some (.int .u64 0):=Aj;have hz:uU (.int .u64 0) 1 n=(List.replicate n 0).map dC.aA:=by
  refine yCo λj=>?_
  by_cases hj:j<n
  .simp[uU,PD.cells,hj,List.getElem?_replicate,Nat.mod_one,Em.int]
  .rw[yBB (by simp[uU];omega),yBB Aw]
 unfold vU;simp only[hi,h1,h2,hb];rw[yAJ ⟨yAk _,Al,rfl,rfl,Ay,Ah⟩,yAI (λh=>h.2 h.1),yAJ trivial,yAJ Al,hz]
variable{E:aE}(hU:aH E)
include hU
theorem aRT(h0:E 157=none)(h1:E 177=some wZ)(l r:List Int)(hl:l.length<=1000)(hr:r.length<=1000) :
  ∃F,C4 r l 0 (List.replicate (l.length+r.length+1) 0)=F/\aL prog E 0 (.inl 157) [(dC.list 1).aA l,(dC.list 1).aA r] [] (λp1 σ1=>p1=.dJ 0 0 (jW F) 1/\σ1=[.box (.agg (F.map dC.aA))]):=by
 refine⟨_,rfl,?_⟩;obtain⟨F,hF⟩:=gn (C4 r l 0 (List.replicate (l.length+r.length+1) 0));rw[hF];simp only[aW];have w1:IntKind.i64.wrap ((l.length:Int)+r.length)=(l.length:Int)+r.length:=Am;have w2:IntKind.i64.wrap ((l.length:Int)+r.length+1)=(l.length:Int)+r.length+1:=Am;obtain⟨N,hN⟩:=gn (l.length+r.length+1);have hmk:=aRW [] N Ah;have w3:((l.length:Int)+r.length+1).toNat=N:=Ah;have w4:(0:Int)<=(l.length:Int)+r.length+1:=Ah;rw[hN]at hF;refine aL.aN 68 h0 func157 (h:=?_);refine aC (A5 w1 w2 w3 w4 hmk) ?_;refine Wp.cZ (λm fr σ=>∃(i:Nat) (o:List Int),∃gg:Nat->PD,(i+m=l.length/\o.length=N/\C4 r (l.drop i) i o=F)/\fr=gg 0::.slice (sz 1 r) (r.map dC.aA) .any::gg 2::gg 3::gg 4::.dJ 0 0 N 1::gg 6::gg 7::gg 8::gg 9::gg 10::gg 11::gg 12::gg 13::gg 14::gg 15::gg 16::gg 17::gg 18::.slice (sz 1 l) (l.map dC.aA) .any::.int .i64 l.length::.int .i64 i::gg 22::gg 23::gg 24::gg 25::gg 26::gg 27::gg 28::gg 29::gg 30::gg 31::gg 32::gg 33::gg 34::gg 35::gg 36::gg 37::gg 38::gg 39::gg 40::gg 41::gg 42::gg 43::gg 44::gg 45::gg 46::gg 47::gg 48::gg 49::gg 50::gg 51::gg 52::gg 53::gg 54::gg 55::gg 56::gg 57::gg 58::gg 59::gg 60::gg 61::gg 62::gg 63::gg 64::gg 65::gg 66::gg 67::[]/\σ=[.box (.agg (o.map dC.aA))]) ?_ (l.length) (by refine⟨0,List.replicate N 0,?_⟩;exact cF (⟨Ah,Ai,hF⟩))
 rintro m fr σ ⟨i,o,gg,hI,rfl,rfl⟩
 obtain⟨hm,ho,hs⟩:=hI
 by_cases hi:i<l.length
 .have q1:(i:Int)<(l.length:Int):=by omega
  obtain⟨a,ha⟩:=gn (l[i]);have dY:l.drop i=a::l.drop (i+1):=At;rw[dY]at hs;unfold C4 at hs;obtain⟨Q,hQ⟩:=gn (yW a r i o 0);rw[hQ]at hs;have hQl:Q.1.length=N:=by rw[<-hQ,aGe,ho]
  refine aC (A3 q1 hi ha) ?_;obtain⟨M,hM⟩:∃M,M=m:=⟨_,rfl⟩;rw[<-hM]at hm ⊢;clear hM;refine Wp.cZ (λm fr σ=>∃(k:Nat) (o2:List Int) (c:Int),∃gg:Nat->PD,(k+m=r.length/\o2.length=N/\yW a (r.drop k) (i+k) o2 c=Q)/\fr=gg 0::.slice (sz 1 r) (r.map dC.aA) .any::gg 2::gg 3::gg 4::.dJ 0 0 N 1::.int .i64 i::.int .u64 a::.int .u64 c::gg 9::gg 10::gg 11::gg 12::gg 13::gg 14::gg 15::gg 16::gg 17::gg 18::.slice (sz 1 l) (l.map dC.aA) .any::.int .i64 l.length::.int .i64 i::gg 22::gg 23::gg 24::gg 25::.slice (sz 1 r) (r.map dC.aA) .any::.int .i64 r.length::.int .i64 k::gg 29::gg 30::gg 31::gg 32::gg 33::gg 34::gg 35::gg 36::gg 37::gg 38::gg 39::gg 40::gg 41::gg 42::gg 43::gg 44::gg 45::gg 46::gg 47::gg 48::gg 49::gg 50::gg 51::gg 52::gg 53::gg 54::gg 55::gg 56::gg 57::gg 58::gg 59::gg 60::gg 61::gg 62::gg 63::gg 64::gg 65::gg 66::gg 67::[]/\σ=[.box (.agg (o2.map dC.aA))]) ?_ (r.length) (by refine⟨0,o,0,?_⟩;exact cF (⟨Ah,ho,hQ⟩))
  rintro m fr σ ⟨k,o2,c,gg,hI,rfl,rfl⟩
  obtain⟨hm2,ho2,hs2⟩:=hI
  by_cases hk:k<r.length
  .have q2:(k:Int)<(r.length:Int):=by omega
   obtain⟨b,hb⟩:=gn (r[k]);have hc2:r.drop k=b::r.drop (k+1):=by rw[yAq hk,hb]
   rw[hc2]at hs2;unfold yW at hs2;obtain⟨p,hp⟩:=gn (i+k);rw[hp]at hs2;have hlt:p<o2.length:=Ah;obtain⟨v,hv⟩:=gn (o2[p]);have hg:o2.getD p 0=v:=by rw[yAA,yAh hlt,hv];rfl
   rw[hg]at hs2;have y0:IntKind.i64.wrap ((i:Int)+k)=(p:Int):=Am;have hnk:p<N:=Ah;obtain⟨X,hX⟩:=gn (qS (qS (v+qS (a*b))+c));rw[hX]at hs2;unfold qS at hX;obtain⟨Y,hY⟩:=gn (qS (X.tdiv 1000000000));rw[hY]at hs2;unfold qS at hY;obtain⟨Z,hZ⟩:=gn (X.tmod 1000000000);rw[hZ]at hs2;obtain⟨A,hA⟩:=gn (o2.map dC.aA);have hAn:A[p]?=some (.int .u64 v):=by rw[<-hA,yAo,yAh hlt,hv];rfl
   obtain⟨hAl,hAe⟩:=yA.1 hAn;have hAs:A.set p (.int .u64 Z)=(o2.set p Z).map dC.aA:=by rw[<-hA,yCK];rfl
   rw[hA];have hle:p+1<=A.length:=hAl;have hAt:A.take p++PD.int .u64 Z::A.drop (p+1)=(o2.set p Z).map dC.aA:=by
    rw[<-hAs,yEn,yAJ hAl]
   have hnx:i+(k+1)=p+1:=Ah;refine aC (A12 q2 @hk @hb y0 hnk hAn hAe hX hY hZ hAl @hle) ?_;refine bV.normal (m-1) Ah (by refine⟨k+1,o2.set p Z,Y,?_⟩;exact eS (⟨Ah,by simp[ho2],by rw[hnx];exact hs2⟩) @hAt)
  .have q2:¬(k:Int)<(r.length:Int):=by omega
   obtain rfl:k=r.length:=Ah;rw[yCl]at hs2;unfold yW at hs2;subst hs2;simp only at hs hQl;obtain⟨p,hp⟩:=gn (i+r.length);rw[hp]at hs;have hlt:p<o2.length:=Ah;obtain⟨v,hv⟩:=gn (o2[p]);have hg:o2.getD p 0=v:=by rw[yAA,yAh hlt,hv];rfl
   rw[hg]at hs;have y0:IntKind.i64.wrap ((i:Int)+r.length)=(p:Int):=Am;have hnk:p<N:=Ah;obtain⟨Z,hZ⟩:=gn (qS (v+c));rw[hZ]at hs;unfold qS at hZ;obtain⟨A,hA⟩:=gn (o2.map dC.aA);have hAn:A[p]?=some (.int .u64 v):=by rw[<-hA,yAo,yAh hlt,hv];rfl
   obtain⟨hAl,hAe⟩:=yA.1 hAn;have hAs:A.set p (.int .u64 Z)=(o2.set p Z).map dC.aA:=by rw[<-hA,yCK];rfl
   have hle:p+1<=A.length:=hAl;have hAt:A.take p++PD.int .u64 Z::A.drop (p+1)=(o2.set p Z).map dC.aA:=by
    rw[<-hAs,yEn,yAJ hAl]
   rw[hA];refine aC (A8 q2 y0 hnk hAn hAe hZ hAl @hle) ?_;refine bV.normal (M-1) Ah (by refine⟨i+1,o2.set p Z,?_⟩;exact eS (⟨Ah,by simp[ho2],hs⟩) @hAt)
 .have q1:¬(i:Int)<(l.length:Int):=by omega
  rw[yCu Ah]at hs;unfold C4 at hs;subst hs;have hg:∀fl,wZ fl [.dJ 0 0 N 1] [.box (.agg (o.map dC.aA))]=some (.dJ 0 0 (jW o) 1,[.box (.agg (o.map dC.aA))]):=λfl=>by
   unfold wZ;simp only[yBv,yCd];rw[yAz (by simp[ho]),YJ];simp only;rw[yAJ ⟨ho,Ah⟩]
  refine aC (A3 q1 h1 hg) ?_;exact ay
end
theorem aRO{E:aE}(hU:aH E):aH (E.add 177 wZ):=by
 intro f' g' args p hf hg fl σ;unfold aE.add at hf;split at hf
 .simp only[yAb]at hf;subst hf;unfold wZ at hg ⊢;split at hg
  .rename_i z xs tok;split at hg
   .rename_i l hl;split at hg
    .rename_i hc;simp only[yAb,yAc]at hg;rw[yAJ hc,hg.1]
    .cases hg
   .cases hg
  .simp at hg
  .cases hg
 .exact hU f' g' args p hf hg fl σ
def aF9(l:List UInt8):Bool:=l.all λc=>decide (48<=c.toNat)&&decide (c.toNat<=57)
theorem aRP{l:Gd}(h:aF9 l=true):P7 l:=λc hc=>by
 have:=yAn.1 h c hc;exact cr
def ZG:List PD->Option PD:=λargs=>match args with
 | [.str s]=>if aF9 s=true/\s.length<=1000 then some (.slice (if (LF s).length=0 then 0 else 1) ((LF s).map dC.aA) .any)else none
 |_=>none
def ZH:List PD->Option PD:=λargs=>match args with
 | [.slice z1 xs _,.slice z2 ys _]=>match wY xs,wY ys with
   |some l,some r=>if (l.length=0\/z1=1)/\(r.length=0\/z2=1)/\l.length<=1000/\r.length<=1000 then some (.slice (if (QU l r).length=0 then 0 else 1) ((QU l r).map dC.aA) .any)else none
   |_,_=>none
 |_=>none
theorem ZI{z:Nat}{l:List Int}{tok:Tok}(h:l.length=0\/z=1):PD.strip (.slice z (l.map dC.aA) tok)=(dC.list 1).aA l:=by
 rw[PD.r8,show(l.map dC.aA).map PD.strip=l.map dC.aA by rw[yBz];exact yAG λx _=>dC.str x];rcases h with h|h
 .rw[yAf h];rfl
 .rw[h];show _=PD.slice (sz 1 l) (l.map dC.aA) .any
  simp[sz]
theorem ZJ(l:List Int):(dC.list 1).aA l=.slice (if l.length=0 then 0 else 1) (l.map dC.aA) .any:=rfl
theorem aGa(σ:List aB)(k:Nat):∀l:List Int,(l.map dC.aA).map (bF σ k)=l.map dC.aA
 | []=>rfl
 |x::l=>by
  rw[yAS,yAS,aGa σ k l];cases k<;>rfl
theorem aGb(F:List Int)(n:Nat)(hn:n<=F.length):bF [.box (.agg (F.map dC.aA))] 2 (.dJ 0 0 n 1)=.slice 1 ((F.take n).map dC.aA) .any:=by
 simp only[bF,yBv,PD.cells,yAe,yCd];rw[yAJ Ah,aGa];simp[tM,yCP]
def Mg0:aE:=λ_=>none
theorem aRQ:aF prog Mg0:=λ_ hg=>by cases hg
def QV:aE:=Mg0.add 177 wZ
theorem aGc:aF prog QV:=aPt aH.none aRQ rfl
theorem aGd:aH QV:=aRO aH.none
def Mg2:aE:=QV.add 173 (entry ZG)
theorem aRR:aF prog Mg2:=aGc.zE Aj λargs p hg=>by
 unfold ZG at hg;split at hg
 .rename_i s;split at hg
  .rename_i hc;simp only[yAb]at hg;subst hg;obtain⟨p1,σ1,e1,e2⟩:=aPx aGd rfl rfl s hc.2 (aRP hc.1);refine⟨p1,σ1,e1,by rw[e2];exact ZJ _,rfl,?_⟩;have:=(dC.list 1).dX (LF s);rw[ZJ]at this;exact this
  .cases hg
 .cases hg
def Mg3:aE:=QV.add 157 (entry ZH)
theorem aRS:aF prog Mg3:=aGc.T8 Aj λargs p hg=>by
 unfold ZH at hg;split at hg
 .rename_i z1 xs t1 z2 ys t2;split at hg
  .rename_i l r hl hr;split at hg
   .rename_i hc;obtain⟨c1,c2,c3,c4⟩:=hc;simp only[yAb]at hg;subst hg;rw[LC hl,LC hr];simp only[yAS,yBp];rw[ZI c1,ZI c2];obtain⟨F,hF,hw⟩:=aRT aGd rfl rfl l r c3 c4;refine⟨2,_,_,aL.vH hw,?_,?_,?_⟩
    .rw[aGb F _ (YK F),ZI (.inr rfl)];show _=(dC.list 1).aA (QU l r)
     unfold QU;rw[hF]
    .rw[aGb F _ (YK F)];have:=(dC.list 1).dX (F.take (jW F));rw[ZJ]at this;exact this
    .have h1:=(dC.list 1).dX l;have h2:=(dC.list 1).dX r;simp only[PD.fH,h1,h2,yCn]
   .cases hg
  .cases hg
 .cases hg
def Bs6:aE:=Bs5.add 173 (entry ZG)
theorem aRU:aF prog Bs6:=aF.pick aRR aPA rfl
def Bs7:aE:=Bs6.add 157 (entry ZH)
theorem aRN:aF prog Bs7:=aF.pick aRS aRU rfl
end Go.Kz
namespace Go.Kz
section
open Go Go.Proofs Go.RowKit
def ZF:List PD->Option PD:=λargs=>match args with
 | [.int .i64 n]=>if -9223372036854775808<=n/\n<=9223372036854775807 then some (.str (Lib.itoa n))else none
 |_=>none
theorem aRM{E:aE}(hE:aF prog E):aF prog (E.add 65 (entry ZF)):=by
 refine hE.H9 ⟨_,func65,rfl⟩ λargs c vs p hg hs hv=>?_
 unfold ZF at hg;split at hg
 .rename_i n;split at hg
  .rename_i hc;obtain⟨h0,h1⟩:=hc;simp only[yAb]at hg;subst hg;obtain⟨v,rfl,h2⟩:=P9 hv;exact cm
  .cases hg
 .cases hg
def nJ:aE:=Bs7.add 65 (entry ZF)
theorem aFW:aF prog nJ:=aRM aRN
end
end Go.Kz
end
