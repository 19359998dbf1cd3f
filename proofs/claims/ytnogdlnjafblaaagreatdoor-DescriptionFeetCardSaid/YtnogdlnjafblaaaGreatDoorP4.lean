/- Steps of the proof. -/
import Derived.Shelf.Strings.Builder1
import Derived.Shelf.Strings.Builder2
import Derived.Shelf.Strings.OnBuilder
import Derived.Shelf.Small.Strs
import Derived.Shelf.Strings.BuilderF
import Derived.Shelf.Strings.BuilderK
import Derived.Shelf.Strconv.Itoa0
import Derived.Shelf.Strconv.Itoa1
import Derived.Shelf.LaysM
import Derived.Shelf.Strconv.Itoa2
import Derived.Shelf.Strconv.Itoa3
import Derived.Shelf.Strings.Search1
import Derived.Shelf.Strings.Search2
import Derived.Shelf.Strings.Search3
import Derived.Shelf.Strings.Count
import Derived.Shelf.Strings.Shaped
import Derived.Shelf.Strings.Prefix
import Derived.Shelf.Strings.Split
import Derived.Shelf.Strings.SplitShaped
import Derived.Shelf.Bits.Mul64
import Derived.Shelf.Strings.Repeat
import Derived.Shelf.Unicode.DecodeSlow
import Derived.Test.YtnogdlnjafblaaaGreatDoorProg
import Derived.Test.YtnogdlnjafblaaaGreatDoorP3
import Derived.Shelf.RegionOpen
set_option linter.all false
set_option maxHeartbeats 40000000
set_option maxRecDepth 100000
open Go.Proofs.Tryz
namespace Go.Proofs
open Go.Shelf
def Tryz.aGY:Go.Shelf.Ren:=⟨fun|169=>47|n=>n,fun|70=>121|9=>9|0=>0|72=>123|37=>45|127=>182|3=>3|5=>5|n=>n,fun|n=>n⟩
theorem Tryz.aGZ:Go.Proofs.Lays.n169 prog Tryz.aGY:={
 mixed:=by kernel_rfl
 f169:=func47.trans (congrArg some (by kernel_rfl))
 t0:=underlying0
 a0:=Tryz.isAgg0
 z0:=Tryz.sizeOf0
 v0:=Tryz.zeroValue0
 t3:=underlying3
 a3:=Tryz.isAgg3
 z3:=Tryz.sizeOf3
 v3:=Tryz.zeroValue3
 t9:=underlying9
 a9:=Tryz.isAgg9
 z9:=Tryz.sizeOf9
 v9:=Tryz.zeroValue9
 t37:=underlying45
 a37:=Tryz.isAgg45
 z37:=Tryz.sizeOf45
 v37:=Tryz.zeroValue45
 t70:=underlying121
 a70:=Tryz.isAgg121
 z70:=Tryz.sizeOf121
 v70:=Tryz.zeroValue121
 t72:=underlying123
 a72:=Tryz.isAgg123
 z72:=Tryz.sizeOf123
 v72:=Tryz.zeroValue123
 t127:=underlying182
 a127:=Tryz.isAgg182
 z127:=Tryz.sizeOf182
 v127:=Tryz.zeroValue182 }
theorem Tryz.aN4:Builder.Extra prog Tryz.aGY:={
 sizeBuilder:=by kernel_rfl
 liesBuilder:=by kernel_rfl
 t5:=underlying5
 a5:=Tryz.isAgg5
 z5:=Tryz.sizeOf5
 v5:=Tryz.zeroValue5
 infoByte:=by kernel_rfl
 cellsByte:=by kernel_rfl
 sizeByte:=by kernel_rfl
 neB5:=by decide }
def Tryz.aG0:Go.Shelf.Ren:=⟨fun|156=>45|165=>102|166=>103|169=>47|240=>137|241=>138|276=>162|277=>163|n=>n,fun|31=>55|9=>9|3=>3|4=>4|0=>0|20=>20|72=>123|76=>180|70=>121|37=>45|75=>179|127=>182|164=>237|5=>5|80=>47|n=>n,fun|n=>n⟩
theorem Tryz.aN5:Go.Proofs.Lays.n156 prog Tryz.aG0:={
 mixed:=by kernel_rfl
 f156:=func45.trans (congrArg some (by kernel_rfl))
 f165:=func102.trans (congrArg some (by kernel_rfl))
 f166:=func103.trans (congrArg some (by kernel_rfl))
 f169:=func47.trans (congrArg some (by kernel_rfl))
 f240:=func137.trans (congrArg some (by kernel_rfl))
 f241:=func138.trans (congrArg some (by kernel_rfl))
 f276:=func162.trans (congrArg some (by kernel_rfl))
 f277:=func163.trans (congrArg some (by kernel_rfl))
 t0:=underlying0
 a0:=Tryz.isAgg0
 z0:=Tryz.sizeOf0
 v0:=Tryz.zeroValue0
 t3:=underlying3
 a3:=Tryz.isAgg3
 z3:=Tryz.sizeOf3
 v3:=Tryz.zeroValue3
 t4:=underlying4
 a4:=Tryz.isAgg4
 z4:=Tryz.sizeOf4
 v4:=Tryz.zeroValue4
 t9:=underlying9
 a9:=Tryz.isAgg9
 z9:=Tryz.sizeOf9
 v9:=Tryz.zeroValue9
 t20:=underlying20
 a20:=Tryz.isAgg20
 z20:=Tryz.sizeOf20
 v20:=Tryz.zeroValue20
 t31:=underlying55
 a31:=Tryz.isAgg55
 z31:=Tryz.sizeOf55
 v31:=Tryz.zeroValue55
 t37:=underlying45
 a37:=Tryz.isAgg45
 z37:=Tryz.sizeOf45
 v37:=Tryz.zeroValue45
 t70:=underlying121
 a70:=Tryz.isAgg121
 z70:=Tryz.sizeOf121
 v70:=Tryz.zeroValue121
 t72:=underlying123
 a72:=Tryz.isAgg123
 z72:=Tryz.sizeOf123
 v72:=Tryz.zeroValue123
 t75:=underlying179
 a75:=Tryz.isAgg179
 z75:=Tryz.sizeOf179
 v75:=Tryz.zeroValue179
 t76:=underlying180
 a76:=Tryz.isAgg180
 z76:=Tryz.sizeOf180
 v76:=Tryz.zeroValue180
 t127:=underlying182
 a127:=Tryz.isAgg182
 z127:=Tryz.sizeOf182
 v127:=Tryz.zeroValue182
 t164:=underlying237
 a164:=Tryz.isAgg237
 z164:=Tryz.sizeOf237
 v164:=Tryz.zeroValue237 }
theorem Tryz.aN6:Builder.Extra prog Tryz.aG0:={
 sizeBuilder:=by kernel_rfl
 liesBuilder:=by kernel_rfl
 t5:=underlying5
 a5:=Tryz.isAgg5
 z5:=Tryz.sizeOf5
 v5:=Tryz.zeroValue5
 infoByte:=by kernel_rfl
 cellsByte:=by kernel_rfl
 sizeByte:=by kernel_rfl
 neB5:=by decide }
open Go.RowKit in
theorem Tryz.strings_Join(bk o c:Nat)(xs:List ByteArray)(sep:ByteArray)(w:World)(hcells:∀(j:Nat) x,xs[j]?=some x->w.cell? ⟨bk,o+j,none⟩=some (.string x))(hbk:bk<w.heap.size)(hN:xs.length<=140737488355328)(hcap:xs.length<=c)(hlen:(Lib.join (xs.map (·.data.toList)) sep.data.toList).length<=140737488355328) :
  Calls prog 45 #[.slice (some ⟨bk,o,none⟩) xs.length c,.string sep] w fun e w'=>e=.returned (.string ⟨(Lib.join (xs.map (·.data.toList)) sep.data.toList).toArray⟩)/\Below w.heap.size w w':=Any.strings_Join Tryz.aN5 Tryz.aN6 bk o c xs sep w hcells hbk hN hcap hlen
def Tryz.aN7:Go.Shelf.Ren:=⟨fun|137=>82|217=>123|266=>149|n=>n,fun|9=>9|5=>5|3=>3|n=>n,fun|n=>n⟩
theorem Tryz.aN8:Go.Proofs.Lays.n137 prog Tryz.aN7:={
 mixed:=by kernel_rfl
 f137:=func82.trans (congrArg some (by kernel_rfl))
 f217:=func123.trans (congrArg some (by kernel_rfl))
 f266:=func149.trans (congrArg some (by kernel_rfl))
 t3:=underlying3
 a3:=Tryz.isAgg3
 z3:=Tryz.sizeOf3
 v3:=Tryz.zeroValue3
 t5:=underlying5
 a5:=Tryz.isAgg5
 z5:=Tryz.sizeOf5
 v5:=Tryz.zeroValue5
 t9:=underlying9
 a9:=Tryz.isAgg9
 z9:=Tryz.sizeOf9
 v9:=Tryz.zeroValue9 }
open Go.RowKit in
theorem Tryz.strings_IndexByte(s:ByteArray)(c:Int)(w:World) :
  Calls prog 82 #[.string s,.int .u8 c] w fun e w'=>e=.returned (.int .i64 (Lib.indexByte s.data.toList c.toNat.toUInt8))/\w'=w:=Any.strings_IndexByte Tryz.aN8 s c w
def Tryz.aN9:Go.Shelf.Ren:=⟨fun|171=>40|243=>84|246=>125|283=>150|284=>151|285=>152|286=>153|129=>171|317=>170|318=>172|319=>173|320=>174|337=>186|338=>187|n=>n,fun|3=>3|9=>9|2=>2|4=>4|171=>224|0=>0|53=>96|37=>45|5=>5|173=>227|212=>245|51=>246|20=>20|213=>247|46=>243|232=>274|233=>275|n=>n,fun|17=>1|18=>4|19=>5|n=>n⟩
theorem Tryz.aOa:Go.Proofs.LaysM.n171 prog Tryz.aN9:={
 mixed:=by kernel_rfl
 f129:=func171.trans (congrArg some (by kernel_rfl))
 f171:=func40.trans (congrArg some (by kernel_rfl))
 f243:=func84.trans (congrArg some (by kernel_rfl))
 f246:=func125.trans (congrArg some (by kernel_rfl))
 f283:=func150.trans (congrArg some (by kernel_rfl))
 f284:=func151.trans (congrArg some (by kernel_rfl))
 f285:=func152.trans (congrArg some (by kernel_rfl))
 f286:=func153.trans (congrArg some (by kernel_rfl))
 f317:=func170.trans (congrArg some (by kernel_rfl))
 f318:=func172.trans (congrArg some (by kernel_rfl))
 f319:=func173.trans (congrArg some (by kernel_rfl))
 f320:=func174.trans (congrArg some (by kernel_rfl))
 f337:=func186.trans (congrArg some (by kernel_rfl))
 f338:=func187.trans (congrArg some (by kernel_rfl))
 t0:=underlying0
 a0:=Tryz.isAgg0
 z0:=Tryz.sizeOf0
 v0:=Tryz.zeroValue0
 t2:=underlying2
 a2:=Tryz.isAgg2
 z2:=Tryz.sizeOf2
 v2:=Tryz.zeroValue2
 t3:=underlying3
 a3:=Tryz.isAgg3
 z3:=Tryz.sizeOf3
 v3:=Tryz.zeroValue3
 t4:=underlying4
 a4:=Tryz.isAgg4
 z4:=Tryz.sizeOf4
 v4:=Tryz.zeroValue4
 t5:=underlying5
 a5:=Tryz.isAgg5
 z5:=Tryz.sizeOf5
 v5:=Tryz.zeroValue5
 t9:=underlying9
 a9:=Tryz.isAgg9
 z9:=Tryz.sizeOf9
 v9:=Tryz.zeroValue9
 t20:=underlying20
 a20:=Tryz.isAgg20
 z20:=Tryz.sizeOf20
 v20:=Tryz.zeroValue20
 t37:=underlying45
 a37:=Tryz.isAgg45
 z37:=Tryz.sizeOf45
 v37:=Tryz.zeroValue45
 t46:=underlying243
 a46:=Tryz.isAgg243
 z46:=Tryz.sizeOf243
 v46:=Tryz.zeroValue243
 t51:=underlying246
 a51:=Tryz.isAgg246
 z51:=Tryz.sizeOf246
 v51:=Tryz.zeroValue246
 t53:=underlying96
 a53:=Tryz.isAgg96
 z53:=Tryz.sizeOf96
 v53:=Tryz.zeroValue96
 t171:=underlying224
 a171:=Tryz.isAgg224
 z171:=Tryz.sizeOf224
 v171:=Tryz.zeroValue224
 t173:=underlying227
 a173:=Tryz.isAgg227
 z173:=Tryz.sizeOf227
 v173:=Tryz.zeroValue227
 t212:=underlying245
 a212:=Tryz.isAgg245
 z212:=Tryz.sizeOf245
 v212:=Tryz.zeroValue245
 t213:=underlying247
 a213:=Tryz.isAgg247
 z213:=Tryz.sizeOf247
 t232:=underlying274
 a232:=Tryz.isAgg274
 z232:=Tryz.sizeOf274
 v232:=Tryz.zeroValue274
 t233:=underlying275
 a233:=Tryz.isAgg275
 z233:=Tryz.sizeOf275
 v233:=Tryz.zeroValue275
 g17:=by kernel_rfl
 g18:=by kernel_rfl
 g19:=by kernel_rfl
 i0:=by kernel_rfl
 i2:=by kernel_rfl
 i3:=by kernel_rfl
 i4:=by kernel_rfl
 i5:=by kernel_rfl
 i9:=by kernel_rfl
 i20:=by kernel_rfl
 i37:=by kernel_rfl
 i46:=by kernel_rfl
 i51:=by kernel_rfl
 i53:=by kernel_rfl
 i171:=by kernel_rfl
 i173:=by kernel_rfl
 i212:=by kernel_rfl
 i232:=by kernel_rfl
 i233:=by kernel_rfl
 m17:=by kernel_rfl
 m18:=by kernel_rfl
 m19:=by kernel_rfl }
open Go.RowKit Go.Sort Go.Lib in
theorem Tryz.strconv_Itoa(n:Int)(h0:-9223372036854775808<=n)(h1:n<=9223372036854775807)(w:World)(htab:Lib.TabIs prog w "internal/strconv.uint64pow10" .u64 Lib.pow10Tab) :
  Calls prog 40 #[.int .i64 n] w fun e w'=>e=.returned (.string ⟨(Lib.itoa n).toArray⟩)/\∃k os,w'=grow (w.drewN k) os:=Any.strconv_Itoa Tryz.aOa n h0 h1 w htab
def Tryz.aOb:Go.Shelf.Ren:=⟨fun|99=>83|206=>124|n=>n,fun|9=>9|4=>4|3=>3|n=>n,fun|n=>n⟩
theorem Tryz.aOc:Go.Proofs.Lays.n99 prog Tryz.aOb:={
 mixed:=by kernel_rfl
 f99:=func83.trans (congrArg some (by kernel_rfl))
 f206:=func124.trans (congrArg some (by kernel_rfl))
 t3:=underlying3
 a3:=Tryz.isAgg3
 z3:=Tryz.sizeOf3
 v3:=Tryz.zeroValue3
 t4:=underlying4
 a4:=Tryz.isAgg4
 z4:=Tryz.sizeOf4
 v4:=Tryz.zeroValue4
 t9:=underlying9
 a9:=Tryz.isAgg9
 z9:=Tryz.sizeOf9
 v9:=Tryz.zeroValue9 }
open Go.RowKit Go.Lib in
theorem Tryz.strings_HasPrefix(s p:ByteArray)(w:World) :
  Calls prog 83 #[.string s,.string p] w fun e w'=>e=.returned (.bool (Lib.hasPrefix s.data.toList p.data.toList))/\w'=w:=Any.strings_HasPrefix Tryz.aOc s p w
def Tryz.aOd:Go.Shelf.Ren:=⟨fun|101=>122|208=>148|206=>124|n=>n,fun|9=>9|4=>4|3=>3|n=>n,fun|n=>n⟩
theorem Tryz.aOe:Go.Proofs.Lays.n101 prog Tryz.aOd:={
 mixed:=by kernel_rfl
 f101:=func122.trans (congrArg some (by kernel_rfl))
 f206:=func124.trans (congrArg some (by kernel_rfl))
 f208:=func148.trans (congrArg some (by kernel_rfl))
 t3:=underlying3
 a3:=Tryz.isAgg3
 z3:=Tryz.sizeOf3
 v3:=Tryz.zeroValue3
 t4:=underlying4
 a4:=Tryz.isAgg4
 z4:=Tryz.sizeOf4
 v4:=Tryz.zeroValue4
 t9:=underlying9
 a9:=Tryz.isAgg9
 z9:=Tryz.sizeOf9
 v9:=Tryz.zeroValue9 }
open Go.RowKit Go.Lib in
theorem Tryz.strings_TrimPrefix(s p:ByteArray)(w:World) :
  Calls prog 122 #[.string s,.string p] w fun e w'=>e=.returned (.string ⟨(Lib.trimPrefix s.data.toList p.data.toList).toArray⟩)/\w'=w:=Any.strings_TrimPrefix Tryz.aOe s p w
def Tryz.aOf:Go.Shelf.Ren:=⟨fun|146=>38|221=>74|268=>117|138=>118|143=>119|195=>144|197=>145|218=>146|219=>147|260=>166|217=>123|225=>167|224=>168|267=>169|266=>149|314=>185|n=>n,fun|9=>9|31=>55|3=>3|4=>4|0=>0|105=>222|21=>21|5=>5|46=>243|119=>260|139=>263|138=>262|146=>264|51=>246|n=>n,fun|1=>0|3=>2|4=>3|n=>n⟩
theorem Tryz.aOg:Go.Proofs.Lays.n146 prog Tryz.aOf:={
 mixed:=by kernel_rfl
 f138:=func118.trans (congrArg some (by kernel_rfl))
 f143:=func119.trans (congrArg some (by kernel_rfl))
 f146:=func38.trans (congrArg some (by kernel_rfl))
 f195:=func144.trans (congrArg some (by kernel_rfl))
 f197:=func145.trans (congrArg some (by kernel_rfl))
 f217:=func123.trans (congrArg some (by kernel_rfl))
 f218:=func146.trans (congrArg some (by kernel_rfl))
 f219:=func147.trans (congrArg some (by kernel_rfl))
 f221:=func74.trans (congrArg some (by kernel_rfl))
 f224:=func168.trans (congrArg some (by kernel_rfl))
 f225:=func167.trans (congrArg some (by kernel_rfl))
 f260:=func166.trans (congrArg some (by kernel_rfl))
 f266:=func149.trans (congrArg some (by kernel_rfl))
 f267:=func169.trans (congrArg some (by kernel_rfl))
 f268:=func117.trans (congrArg some (by kernel_rfl))
 f314:=func185.trans (congrArg some (by kernel_rfl))
 t0:=underlying0
 a0:=Tryz.isAgg0
 z0:=Tryz.sizeOf0
 v0:=Tryz.zeroValue0
 t3:=underlying3
 a3:=Tryz.isAgg3
 z3:=Tryz.sizeOf3
 v3:=Tryz.zeroValue3
 t4:=underlying4
 a4:=Tryz.isAgg4
 z4:=Tryz.sizeOf4
 v4:=Tryz.zeroValue4
 t5:=underlying5
 a5:=Tryz.isAgg5
 z5:=Tryz.sizeOf5
 v5:=Tryz.zeroValue5
 t9:=underlying9
 a9:=Tryz.isAgg9
 z9:=Tryz.sizeOf9
 v9:=Tryz.zeroValue9
 t21:=underlying21
 a21:=Tryz.isAgg21
 z21:=Tryz.sizeOf21
 v21:=Tryz.zeroValue21
 t31:=underlying55
 a31:=Tryz.isAgg55
 z31:=Tryz.sizeOf55
 v31:=Tryz.zeroValue55
 t46:=underlying243
 a46:=Tryz.isAgg243
 z46:=Tryz.sizeOf243
 v46:=Tryz.zeroValue243
 t51:=underlying246
 a51:=Tryz.isAgg246
 z51:=Tryz.sizeOf246
 v51:=Tryz.zeroValue246
 t105:=underlying222
 a105:=Tryz.isAgg222
 z105:=Tryz.sizeOf222
 v105:=Tryz.zeroValue222
 t119:=underlying260
 a119:=Tryz.isAgg260
 z119:=Tryz.sizeOf260
 t138:=underlying262
 a138:=Tryz.isAgg262
 z138:=Tryz.sizeOf262
 v138:=Tryz.zeroValue262
 t139:=underlying263
 a139:=Tryz.isAgg263
 z139:=Tryz.sizeOf263
 v139:=Tryz.zeroValue263
 t146:=underlying264
 a146:=Tryz.isAgg264
 z146:=Tryz.sizeOf264
 v146:=Tryz.zeroValue264
 g1:=by kernel_rfl
 g3:=by kernel_rfl
 g4:=by kernel_rfl }
open Go.RowKit Go.Lib in
theorem Tryz.strings_Split(s sep:ByteArray)(m:Int)(w:World)(hs:s.size<4294967281)(hm:w.cell? ⟨0,0,none⟩=some (.int .i64 m))(h1:1<=sep.size) :
  Calls prog 38 #[.string s,.string sep] w fun e w'=>
   e=.returned (.slice (some ⟨w.heap.size,0,none⟩) (Lib.countB s sep+1) (Lib.countB s sep+1))/\w'=w.alloc (.cells ((Lib.splitB sep 0 (Lib.countB s sep) s).map Value.string).toArray 9):=Any.strings_Split Tryz.aOg (by kernel_rfl) s sep m w hs hm h1
end Go.Proofs
namespace Go.Proofs
open Go Go.RowKit
def Tryz.Z5:Go.Shelf.Ren:=⟨fun|240=>137|276=>162|n=>n,fun|70=>121|72=>123|37=>45|164=>237|n=>n,fun|n=>n⟩
theorem Tryz.aGW:Go.Proofs.Lays.n240 prog Tryz.Z5:={
 mixed:=by kernel_rfl
 f240:=func137.trans (congrArg some (by kernel_rfl))
 f276:=func162.trans (congrArg some (by kernel_rfl))
 t0:=underlying0
 a0:=Tryz.isAgg0
 z0:=Tryz.sizeOf0
 v0:=Tryz.zeroValue0
 t4:=underlying4
 a4:=Tryz.isAgg4
 z4:=Tryz.sizeOf4
 v4:=Tryz.zeroValue4
 t9:=underlying9
 a9:=Tryz.isAgg9
 z9:=Tryz.sizeOf9
 v9:=Tryz.zeroValue9
 t20:=underlying20
 a20:=Tryz.isAgg20
 z20:=Tryz.sizeOf20
 v20:=Tryz.zeroValue20
 t70:=underlying121
 a70:=Tryz.isAgg121
 z70:=Tryz.sizeOf121
 v70:=Tryz.zeroValue121
 t72:=underlying123
 a72:=Tryz.isAgg123
 z72:=Tryz.sizeOf123
 v72:=Tryz.zeroValue123
 t164:=underlying237
 a164:=Tryz.isAgg237
 z164:=Tryz.sizeOf237
 v164:=Tryz.zeroValue237 }
theorem Tryz.aGX:Builder.X72 prog Tryz.Z5:={
 sizeBuilder:=by kernel_rfl
 liesBuilder:=by kernel_rfl }
section
set_option maxRecDepth 100000
end
end Go.Proofs
namespace Go.Kz
open Go Go.Proofs
theorem aN1{w:World}{b o:Nat}{cs:Ca}{T:TypeId}{fz:Nat×Nat}{v:Value}(hb:w.heap[b]?=some (.cells cs T fz)):(w.setCell ⟨b,o,none⟩ v).heap[b]?=some (.cells (cs.setIfInBounds o v) T fz):=by
 simp only[World.setCell,Array.getElem?_modify,if_true,hb];rfl
theorem aN2{w:World}{b o k:Nat}{v:Value}(h:k≠b):(w.setCell ⟨b,o,none⟩ v).heap[k]?=w.heap[k]?:=by
 simp only[World.setCell,Array.getElem?_modify];rw[if_neg (Ne.symm h)]
theorem aN3(g j:Nat):(⟨g,0,none⟩:Addr).add j=⟨g,j,none⟩:=xq
end Go.Kz
namespace Go.Kz
open Go Go.Proofs
abbrev i64:Em Int:=Em.int .i64
abbrev mM:Em (List Int):=i64.list 1
structure bA where
 name:Bx
 E3:Bx
 num:Int
 den:Int
 first:Int
 nD:List Int
 deriving DecidableEq
structure fV where
 bO:Int
 shift:Int
 deriving DecidableEq
structure kJ where
 lo:Int
 hi:Int
 rI:List fV
 deriving DecidableEq
structure dL where
 name:Bx
 num:Int
 den:Int
 E4:List kJ
 deriving DecidableEq
structure b9 where
 name:Bx
 RW:Bool
 low:Int
 high:Int
 stops:List dL
 deriving DecidableEq
structure eF where
 name:Bx
 lT:Int
 dst:Int
 shift:Int
 ME:Bool
 deriving DecidableEq
structure eG where
 name:Bx
 bM:List bA
 dY:List b9
 oU:List eF
 deriving DecidableEq
def bC.bO:bC bA:=((bC.one .text).pair ((bC.one .text).pair ((bC.one i64).pair ((bC.one i64).pair ((bC.one i64).pair (.one mM)))))).mF (λr=>(r.name,r.E3,r.num,r.den,r.first,r.nD)) (λx y h=>xu)
def Em.bO:Em bA:=.agg .bO
@[simp] theorem WQ{r:bA}:Em.bO.aA r=.agg [.str r.name,.str r.E3,.int .i64 r.num,.int .i64 r.den,.int .i64 r.first,mM.aA r.nD]:=rfl
abbrev bM:Em (List bA):=Em.bO.list 6
def bC.draw:bC fV:=((bC.one i64).pair (.one i64)).mF (λr=>(r.bO,r.shift)) (λx y h=>xu)
def Em.draw:Em fV:=.agg .draw
@[simp] theorem aAK{r:fV}:Em.draw.aA r=.agg [.int .i64 r.bO,.int .i64 r.shift]:=rfl
abbrev nE:Em (List fV):=Em.draw.list 2
def bC.cD:bC kJ:=((bC.one i64).pair ((bC.one i64).pair (.one nE))).mF (λr=>(r.lo,r.hi,r.rI)) (λx y h=>xu)
def Em.cD:Em kJ:=.agg .cD
@[simp] theorem a18{r:kJ}:Em.cD.aA r=.agg [.int .i64 r.lo,.int .i64 r.hi,nE.aA r.rI]:=rfl
abbrev aAL:Em (List kJ):=Em.cD.list 3
def bC.stop:bC dL:=((bC.one .text).pair ((bC.one i64).pair ((bC.one i64).pair (.one aAL)))).mF (λr=>(r.name,r.num,r.den,r.E4)) (λx y h=>xu)
def Em.stop:Em dL:=.agg .stop
@[simp] theorem RX{r:dL}:Em.stop.aA r=.agg [.str r.name,.int .i64 r.num,.int .i64 r.den,aAL.aA r.E4]:=rfl
abbrev aAM:Em (List dL):=Em.stop.list 4
def bC.div:bC b9:=((bC.one .text).pair ((bC.one .bool).pair ((bC.one i64).pair ((bC.one i64).pair (.one aAM))))).mF (λr=>(r.name,r.RW,r.low,r.high,r.stops)) (λx y h=>xu)
def Em.div:Em b9:=.agg .div
@[simp] theorem aAN{r:b9}:Em.div.aA r=.agg [.str r.name,.bool r.RW,.int .i64 r.low,.int .i64 r.high,aAM.aA r.stops]:=rfl
abbrev aAO:Em (List b9):=Em.div.list 5
def bC.cF:bC eF:=((bC.one .text).pair ((bC.one i64).pair ((bC.one i64).pair ((bC.one i64).pair (.one .bool))))).mF (λr=>(r.name,r.lT,r.dst,r.shift,r.ME)) (λx y h=>xu)
def Em.cF:Em eF:=.agg .cF
@[simp] theorem aQQ{r:eF}:Em.cF.aA r=.agg [.str r.name,.int .i64 r.lT,.int .i64 r.dst,.int .i64 r.shift,.bool r.ME]:=rfl
abbrev HZ:Em (List eF):=Em.cF.list 5
def bC.fC:bC eG:=((bC.one .text).pair ((bC.one bM).pair ((bC.one aAO).pair (.one HZ)))).mF (λr=>(r.name,r.bM,r.dY,r.oU)) (λx y h=>xu)
def Em.fC:Em eG:=.agg .fC
@[simp] theorem E5{r:eG}:Em.fC.aA r=.agg [.str r.name,bM.aA r.bM,aAO.aA r.dY,HZ.aA r.oU]:=rfl
def okI(l:List Int):Prop:=l.length<=1000000
def aIT(l:List fV):Prop:=l.length<=1000000
def okR(r:bA):Prop:=okI r.nD
def okG(g:kJ):Prop:=aIT g.rI
def aQR(l:List kJ):Prop:=l.length<=1000000/\∀r∈l,okG r
def okS(s:dL):Prop:=aQR s.E4
end Go.Kz
