/-
  Part P8 of the way: an interpreter over pure data, its soundness, walks through functions.
-/
import Derived.Shelf.Strings.Builder1
import Derived.Shelf.Strings.Builder2
import Derived.Shelf.Small.Strs
import Derived.Shelf.Strings.BuilderF
import Derived.Shelf.Strings.BuilderK
import Derived.Shelf.Strconv.Itoa0
import Derived.Shelf.Strconv.Itoa1
import Derived.Shelf.LaysM
import Derived.Shelf.Strconv.Itoa2
import Derived.Shelf.Strconv.Itoa3
import Derived.Shelf.Strings.Prefix
import Derived.Shelf.Bits.Mul64
import Derived.Shelf.Strings.Repeat
import Derived.Test.YtefkonhamghgfaaGreatDoorProg
import Derived.Test.YtefkonhamghgfaaGreatDoorP4
import Derived.Shelf.RegionOpen
import Derived.Lib.AppendIntMem
set_option linter.all false

namespace Go.Proofs
open Go.Shelf
def Tryz.lays169_ren:Go.Shelf.Ren:=⟨fun | 169=>191 | n=>n,fun | 70=>270 | 9=>9 | 0=>0 | 72=>272 | 37=>30 | 127=>287 | 3=>3 | 5=>5 | n=>n,fun | n=>n⟩
theorem Tryz.lays169:Go.Proofs.Lays.n169 Tryz.prog Tryz.lays169_ren:={
 mixed:=by kernel_rfl
 f169:=Tryz.func191.trans (congrArg some (by kernel_rfl))
 t0:=Tryz.underlying0
 a0:=Tryz.isAgg0
 z0:=Tryz.sizeOf0
 v0:=Tryz.zeroValue0
 t3:=Tryz.underlying3
 a3:=Tryz.isAgg3
 z3:=Tryz.sizeOf3
 v3:=Tryz.zeroValue3
 t9:=Tryz.underlying9
 a9:=Tryz.isAgg9
 z9:=Tryz.sizeOf9
 v9:=Tryz.zeroValue9
 t37:=Tryz.underlying30
 a37:=Tryz.isAgg30
 z37:=Tryz.sizeOf30
 v37:=Tryz.zeroValue30
 t70:=Tryz.underlying270
 a70:=Tryz.isAgg270
 z70:=Tryz.sizeOf270
 v70:=Tryz.zeroValue270
 t72:=Tryz.underlying272
 a72:=Tryz.isAgg272
 z72:=Tryz.sizeOf272
 v72:=Tryz.zeroValue272
 t127:=Tryz.underlying287
 a127:=Tryz.isAgg287
 z127:=Tryz.sizeOf287
 v127:=Tryz.zeroValue287 }
theorem Tryz.Builder_Extra_169:Builder.Extra Tryz.prog Tryz.lays169_ren:={
 sizeBuilder:=by kernel_rfl
 liesBuilder:=by kernel_rfl
 t5:=Tryz.underlying5
 a5:=Tryz.isAgg5
 z5:=Tryz.sizeOf5
 v5:=Tryz.zeroValue5
 infoByte:=by kernel_rfl
 cellsByte:=by kernel_rfl
 sizeByte:=by kernel_rfl
 neB5:=by decide }
def Tryz.lays106_ren:Go.Shelf.Ren:=⟨fun | 106=>173 | 213=>196 | 265=>209 | n=>n,fun | 9=>9 | 3=>3 | n=>n,fun | n=>n⟩
theorem Tryz.lays106:Go.Proofs.Lays.n106 Tryz.prog Tryz.lays106_ren:={
 mixed:=by kernel_rfl
 f106:=Tryz.func173.trans (congrArg some (by kernel_rfl))
 f213:=Tryz.func196.trans (congrArg some (by kernel_rfl))
 f265:=Tryz.func209.trans (congrArg some (by kernel_rfl))
 t3:=Tryz.underlying3
 a3:=Tryz.isAgg3
 z3:=Tryz.sizeOf3
 v3:=Tryz.zeroValue3
 t9:=Tryz.underlying9
 a9:=Tryz.isAgg9
 z9:=Tryz.sizeOf9
 v9:=Tryz.zeroValue9 }
open Go.RowKit in
theorem Tryz.strings_Compare (a b:ByteArray) (w:World) :
  Calls Tryz.prog 173 #[.string a,.string b] w fun e w'=>e=.returned (.int .i64 (Lib.compareBytes a.data.toList b.data.toList))∧w'=w:=Any.strings_Compare Tryz.lays106 a b w
def Tryz.lays283_ren:Go.Shelf.Ren:=⟨fun | 283=>214 | n=>n,fun | 3=>3 | 9=>9 | 4=>4 | n=>n,fun | n=>n⟩
theorem Tryz.lays283:Go.Proofs.Lays.n283 Tryz.prog Tryz.lays283_ren:={
 mixed:=by kernel_rfl
 f283:=Tryz.func214.trans (congrArg some (by kernel_rfl))
 t3:=Tryz.underlying3
 a3:=Tryz.isAgg3
 z3:=Tryz.sizeOf3
 v3:=Tryz.zeroValue3
 t4:=Tryz.underlying4
 a4:=Tryz.isAgg4
 z4:=Tryz.sizeOf4
 v4:=Tryz.zeroValue4
 t9:=Tryz.underlying9
 a9:=Tryz.isAgg9
 z9:=Tryz.sizeOf9
 v9:=Tryz.zeroValue9 }
open Go.Lib in
theorem Tryz.internal_strconv_small (i:Nat) (h:i < 100) (w:World) :
  Calls Tryz.prog 214 #[.int .i64 i] w fun e w'=>e=.returned (.string ⟨(Lib.decDigits i).toArray⟩)∧w'=w:=Any.internal_strconv_small Tryz.lays283 i h w
def Tryz.laysM284_ren:Go.Shelf.Ren:=⟨fun | 284=>215 | 129=>223 | 317=>222 | 318=>224 | n=>n,fun | 53=>148 | 3=>3 | 212=>306 | 0=>0 | 4=>4 | 46=>137 | 5=>5 | 9=>9 | n=>n,fun | 17=>1 | n=>n⟩
theorem Tryz.laysM284:Go.Proofs.LaysM.n284 Tryz.prog Tryz.laysM284_ren:={
 mixed:=by kernel_rfl
 f129:=Tryz.func223.trans (congrArg some (by kernel_rfl))
 f284:=Tryz.func215.trans (congrArg some (by kernel_rfl))
 f317:=Tryz.func222.trans (congrArg some (by kernel_rfl))
 f318:=Tryz.func224.trans (congrArg some (by kernel_rfl))
 t0:=Tryz.underlying0
 a0:=Tryz.isAgg0
 z0:=Tryz.sizeOf0
 v0:=Tryz.zeroValue0
 t3:=Tryz.underlying3
 a3:=Tryz.isAgg3
 z3:=Tryz.sizeOf3
 v3:=Tryz.zeroValue3
 t4:=Tryz.underlying4
 a4:=Tryz.isAgg4
 z4:=Tryz.sizeOf4
 v4:=Tryz.zeroValue4
 t5:=Tryz.underlying5
 a5:=Tryz.isAgg5
 z5:=Tryz.sizeOf5
 v5:=Tryz.zeroValue5
 t9:=Tryz.underlying9
 a9:=Tryz.isAgg9
 z9:=Tryz.sizeOf9
 v9:=Tryz.zeroValue9
 t46:=Tryz.underlying137
 a46:=Tryz.isAgg137
 z46:=Tryz.sizeOf137
 v46:=Tryz.zeroValue137
 t53:=Tryz.underlying148
 a53:=Tryz.isAgg148
 z53:=Tryz.sizeOf148
 v53:=Tryz.zeroValue148
 t212:=Tryz.underlying306
 a212:=Tryz.isAgg306
 z212:=Tryz.sizeOf306
 v212:=Tryz.zeroValue306
 g17:=by kernel_rfl
 i0:=by kernel_rfl
 i3:=by kernel_rfl
 i4:=by kernel_rfl
 i5:=by kernel_rfl
 i9:=by kernel_rfl
 i46:=by kernel_rfl
 i53:=by kernel_rfl
 i212:=by kernel_rfl
 m17:=by kernel_rfl }
open Go.Lib in
theorem Tryz.internal_strconv_numDigits (u:Nat) (h1:1≤u) (h2:u < 18446744073709551616) (w:World) (htab:Lib.TabIs Tryz.prog w "internal/strconv.uint64pow10" .u64 Lib.pow10Tab) :
  Calls Tryz.prog 215 #[.int .u64 u] w fun e w'=>e=.returned (.int .i64 (Lib.nDigits u))∧w'=w:=Any.internal_strconv_numDigits Tryz.laysM284 u h1 h2 w htab
def Tryz.lays285_ren:Go.Shelf.Ren:=⟨fun | 285=>216 | n=>n,fun | 37=>30 | 53=>148 | 3=>3 | 4=>4 | 51=>59 | 9=>9 | 5=>5 | 0=>0 | n=>n,fun | n=>n⟩
theorem Tryz.lays285:Go.Proofs.Lays.n285 Tryz.prog Tryz.lays285_ren:={
 mixed:=by kernel_rfl
 f285:=Tryz.func216.trans (congrArg some (by kernel_rfl))
 t0:=Tryz.underlying0
 a0:=Tryz.isAgg0
 z0:=Tryz.sizeOf0
 v0:=Tryz.zeroValue0
 t3:=Tryz.underlying3
 a3:=Tryz.isAgg3
 z3:=Tryz.sizeOf3
 v3:=Tryz.zeroValue3
 t4:=Tryz.underlying4
 a4:=Tryz.isAgg4
 z4:=Tryz.sizeOf4
 v4:=Tryz.zeroValue4
 t5:=Tryz.underlying5
 a5:=Tryz.isAgg5
 z5:=Tryz.sizeOf5
 v5:=Tryz.zeroValue5
 t9:=Tryz.underlying9
 a9:=Tryz.isAgg9
 z9:=Tryz.sizeOf9
 v9:=Tryz.zeroValue9
 t37:=Tryz.underlying30
 a37:=Tryz.isAgg30
 z37:=Tryz.sizeOf30
 v37:=Tryz.zeroValue30
 t51:=Tryz.underlying59
 a51:=Tryz.isAgg59
 z51:=Tryz.sizeOf59
 v51:=Tryz.zeroValue59
 t53:=Tryz.underlying148
 a53:=Tryz.isAgg148
 z53:=Tryz.sizeOf148
 v53:=Tryz.zeroValue148 }
open Go.RowKit Go.Sort Go.Lib in
theorem Tryz.internal_strconv_formatBase10 (blk off cap:Nat) (u:Nat) (d:Array UInt8) (w:World) (hH:Holds (fun (b:UInt8)=>Value.int .u8 (b.toNat:Int)) w blk off d) (hu:u < 10 ^ d.size) (hu64:u < 18446744073709551616) (hsz:d.size < 4611686018427387904) :
  Calls Tryz.prog 216 #[.slice (some ⟨blk,off,none⟩) d.size cap,.int .u64 u] w fun e w'=>
   e=.returned (.tuple #[])∧∃ (n v':Nat) (dk:Array UInt8),w'=(putRow (fun (b:UInt8)=>Value.int .u8 (b.toNat:Int)) w blk off dk).drewN n∧FmtInv d.size u 0 v' dk:=Any.internal_strconv_formatBase10 Tryz.lays285 blk off cap u d w hH hu hu64 hsz
def Tryz.laysM171_ren:Go.Shelf.Ren:=⟨fun | 171=>169 | 243=>193 | 246=>207 | 283=>214 | 284=>215 | 285=>216 | 286=>217 | 129=>223 | 317=>222 | 318=>224 | 319=>225 | 320=>226 | 337=>228 | 338=>229 | n=>n,fun | 3=>3 | 9=>9 | 2=>2 | 4=>4 | 171=>293 | 0=>0 | 53=>148 | 37=>30 | 5=>5 | 173=>296 | 212=>306 | 51=>59 | 20=>20 | 213=>307 | 46=>137 | 232=>310 | 233=>311 | n=>n,fun | 17=>1 | 18=>2 | 19=>3 | n=>n⟩
theorem Tryz.laysM171:Go.Proofs.LaysM.n171 Tryz.prog Tryz.laysM171_ren:={
 mixed:=by kernel_rfl
 f129:=Tryz.func223.trans (congrArg some (by kernel_rfl))
 f171:=Tryz.func169.trans (congrArg some (by kernel_rfl))
 f243:=Tryz.func193.trans (congrArg some (by kernel_rfl))
 f246:=Tryz.func207.trans (congrArg some (by kernel_rfl))
 f283:=Tryz.func214.trans (congrArg some (by kernel_rfl))
 f284:=Tryz.func215.trans (congrArg some (by kernel_rfl))
 f285:=Tryz.func216.trans (congrArg some (by kernel_rfl))
 f286:=Tryz.func217.trans (congrArg some (by kernel_rfl))
 f317:=Tryz.func222.trans (congrArg some (by kernel_rfl))
 f318:=Tryz.func224.trans (congrArg some (by kernel_rfl))
 f319:=Tryz.func225.trans (congrArg some (by kernel_rfl))
 f320:=Tryz.func226.trans (congrArg some (by kernel_rfl))
 f337:=Tryz.func228.trans (congrArg some (by kernel_rfl))
 f338:=Tryz.func229.trans (congrArg some (by kernel_rfl))
 t0:=Tryz.underlying0
 a0:=Tryz.isAgg0
 z0:=Tryz.sizeOf0
 v0:=Tryz.zeroValue0
 t2:=Tryz.underlying2
 a2:=Tryz.isAgg2
 z2:=Tryz.sizeOf2
 v2:=Tryz.zeroValue2
 t3:=Tryz.underlying3
 a3:=Tryz.isAgg3
 z3:=Tryz.sizeOf3
 v3:=Tryz.zeroValue3
 t4:=Tryz.underlying4
 a4:=Tryz.isAgg4
 z4:=Tryz.sizeOf4
 v4:=Tryz.zeroValue4
 t5:=Tryz.underlying5
 a5:=Tryz.isAgg5
 z5:=Tryz.sizeOf5
 v5:=Tryz.zeroValue5
 t9:=Tryz.underlying9
 a9:=Tryz.isAgg9
 z9:=Tryz.sizeOf9
 v9:=Tryz.zeroValue9
 t20:=Tryz.underlying20
 a20:=Tryz.isAgg20
 z20:=Tryz.sizeOf20
 v20:=Tryz.zeroValue20
 t37:=Tryz.underlying30
 a37:=Tryz.isAgg30
 z37:=Tryz.sizeOf30
 v37:=Tryz.zeroValue30
 t46:=Tryz.underlying137
 a46:=Tryz.isAgg137
 z46:=Tryz.sizeOf137
 v46:=Tryz.zeroValue137
 t51:=Tryz.underlying59
 a51:=Tryz.isAgg59
 z51:=Tryz.sizeOf59
 v51:=Tryz.zeroValue59
 t53:=Tryz.underlying148
 a53:=Tryz.isAgg148
 z53:=Tryz.sizeOf148
 v53:=Tryz.zeroValue148
 t171:=Tryz.underlying293
 a171:=Tryz.isAgg293
 z171:=Tryz.sizeOf293
 v171:=Tryz.zeroValue293
 t173:=Tryz.underlying296
 a173:=Tryz.isAgg296
 z173:=Tryz.sizeOf296
 v173:=Tryz.zeroValue296
 t212:=Tryz.underlying306
 a212:=Tryz.isAgg306
 z212:=Tryz.sizeOf306
 v212:=Tryz.zeroValue306
 t213:=Tryz.underlying307
 a213:=Tryz.isAgg307
 z213:=Tryz.sizeOf307
 t232:=Tryz.underlying310
 a232:=Tryz.isAgg310
 z232:=Tryz.sizeOf310
 v232:=Tryz.zeroValue310
 t233:=Tryz.underlying311
 a233:=Tryz.isAgg311
 z233:=Tryz.sizeOf311
 v233:=Tryz.zeroValue311
 g17:=by kernel_rfl
 g18:=by kernel_rfl
 g19:=by kernel_rfl
 i0:=by kernel_rfl
 i2:=by kernel_rfl
 i3:=by kernel_rfl
 i4:=by kernel_rfl
 i5:=by kernel_rfl
 i9:=by kernel_rfl
 i20:=by kernel_rfl
 i37:=by kernel_rfl
 i46:=by kernel_rfl
 i51:=by kernel_rfl
 i53:=by kernel_rfl
 i171:=by kernel_rfl
 i173:=by kernel_rfl
 i212:=by kernel_rfl
 i232:=by kernel_rfl
 i233:=by kernel_rfl
 m17:=by kernel_rfl
 m18:=by kernel_rfl
 m19:=by kernel_rfl }
open Go.RowKit Go.Sort Go.Lib in
theorem Tryz.strconv_Itoa (n:Int) (h0:-9223372036854775808≤n) (h1:n≤9223372036854775807) (w:World) (htab:Lib.TabIs Tryz.prog w "internal/strconv.uint64pow10" .u64 Lib.pow10Tab) :
  Calls Tryz.prog 169 #[.int .i64 n] w fun e w'=>e=.returned (.string ⟨(Lib.itoa n).toArray⟩)∧∃ k os,w'=grow (w.drewN k) os:=Any.strconv_Itoa Tryz.laysM171 n h0 h1 w htab
def Tryz.lays105_ren:Go.Shelf.Ren:=⟨fun | 105=>190 | 212=>204 | 99=>194 | 165=>205 | 166=>189 | 170=>206 | 169=>191 | 263=>219 | 264=>220 | 206=>208 | 240=>203 | 241=>221 | 276=>218 | 277=>227 | n=>n,fun | 9=>9 | 3=>3 | 4=>4 | 20=>20 | 0=>0 | 46=>137 | 109=>285 | 5=>5 | 72=>272 | 76=>279 | 51=>59 | 146=>300 | 53=>148 | 148=>302 | 70=>270 | 37=>30 | 75=>278 | 127=>287 | 164=>298 | 80=>156 | n=>n,fun | n=>n⟩
theorem Tryz.lays105:Go.Proofs.Lays.n105 Tryz.prog Tryz.lays105_ren:={
 mixed:=by kernel_rfl
 f99:=Tryz.func194.trans (congrArg some (by kernel_rfl))
 f105:=Tryz.func190.trans (congrArg some (by kernel_rfl))
 f165:=Tryz.func205.trans (congrArg some (by kernel_rfl))
 f166:=Tryz.func189.trans (congrArg some (by kernel_rfl))
 f169:=Tryz.func191.trans (congrArg some (by kernel_rfl))
 f170:=Tryz.func206.trans (congrArg some (by kernel_rfl))
 f206:=Tryz.func208.trans (congrArg some (by kernel_rfl))
 f212:=Tryz.func204.trans (congrArg some (by kernel_rfl))
 f240:=Tryz.func203.trans (congrArg some (by kernel_rfl))
 f241:=Tryz.func221.trans (congrArg some (by kernel_rfl))
 f263:=Tryz.func219.trans (congrArg some (by kernel_rfl))
 f264:=Tryz.func220.trans (congrArg some (by kernel_rfl))
 f276:=Tryz.func218.trans (congrArg some (by kernel_rfl))
 f277:=Tryz.func227.trans (congrArg some (by kernel_rfl))
 t0:=Tryz.underlying0
 a0:=Tryz.isAgg0
 z0:=Tryz.sizeOf0
 v0:=Tryz.zeroValue0
 t3:=Tryz.underlying3
 a3:=Tryz.isAgg3
 z3:=Tryz.sizeOf3
 v3:=Tryz.zeroValue3
 t4:=Tryz.underlying4
 a4:=Tryz.isAgg4
 z4:=Tryz.sizeOf4
 v4:=Tryz.zeroValue4
 t5:=Tryz.underlying5
 a5:=Tryz.isAgg5
 z5:=Tryz.sizeOf5
 v5:=Tryz.zeroValue5
 t9:=Tryz.underlying9
 a9:=Tryz.isAgg9
 z9:=Tryz.sizeOf9
 v9:=Tryz.zeroValue9
 t20:=Tryz.underlying20
 a20:=Tryz.isAgg20
 z20:=Tryz.sizeOf20
 v20:=Tryz.zeroValue20
 t37:=Tryz.underlying30
 a37:=Tryz.isAgg30
 z37:=Tryz.sizeOf30
 v37:=Tryz.zeroValue30
 t46:=Tryz.underlying137
 a46:=Tryz.isAgg137
 z46:=Tryz.sizeOf137
 v46:=Tryz.zeroValue137
 t51:=Tryz.underlying59
 a51:=Tryz.isAgg59
 z51:=Tryz.sizeOf59
 v51:=Tryz.zeroValue59
 t53:=Tryz.underlying148
 a53:=Tryz.isAgg148
 z53:=Tryz.sizeOf148
 v53:=Tryz.zeroValue148
 t70:=Tryz.underlying270
 a70:=Tryz.isAgg270
 z70:=Tryz.sizeOf270
 v70:=Tryz.zeroValue270
 t72:=Tryz.underlying272
 a72:=Tryz.isAgg272
 z72:=Tryz.sizeOf272
 v72:=Tryz.zeroValue272
 t75:=Tryz.underlying278
 a75:=Tryz.isAgg278
 z75:=Tryz.sizeOf278
 v75:=Tryz.zeroValue278
 t76:=Tryz.underlying279
 a76:=Tryz.isAgg279
 z76:=Tryz.sizeOf279
 v76:=Tryz.zeroValue279
 t109:=Tryz.underlying285
 a109:=Tryz.isAgg285
 z109:=Tryz.sizeOf285
 v109:=Tryz.zeroValue285
 t127:=Tryz.underlying287
 a127:=Tryz.isAgg287
 z127:=Tryz.sizeOf287
 v127:=Tryz.zeroValue287
 t146:=Tryz.underlying300
 a146:=Tryz.isAgg300
 z146:=Tryz.sizeOf300
 v146:=Tryz.zeroValue300
 t148:=Tryz.underlying302
 a148:=Tryz.isAgg302
 z148:=Tryz.sizeOf302
 v148:=Tryz.zeroValue302
 t164:=Tryz.underlying298
 a164:=Tryz.isAgg298
 z164:=Tryz.sizeOf298
 v164:=Tryz.zeroValue298 }
theorem Tryz.Builder_Extra_105:Builder.Extra Tryz.prog Tryz.lays105_ren:={
 sizeBuilder:=by kernel_rfl
 liesBuilder:=by kernel_rfl
 t5:=Tryz.underlying5
 a5:=Tryz.isAgg5
 z5:=Tryz.sizeOf5
 v5:=Tryz.zeroValue5
 infoByte:=by kernel_rfl
 cellsByte:=by kernel_rfl
 sizeByte:=by kernel_rfl
 neB5:=by decide }
open Go.RowKit Go.Lib in
theorem Tryz.strings_Repeat (s:ByteArray) (c:Nat) (w:World) (hc:c≤9223372036854775807) (hlen:s.size*c≤140737488355328) :
  Calls Tryz.prog 190 #[.string s,.int .i64 c] w fun e w'=>e=.returned (.string ⟨(Lib.repeatL s.data.toList c).toArray⟩)∧Below w.heap.size w w':=Any.strings_Repeat Tryz.lays105 Tryz.Builder_Extra_105 s c w hc hlen
end Go.Proofs

namespace Go.Proofs
open Go Go.RowKit
def Tryz.lays240_ren:Go.Shelf.Ren:=⟨fun | 240=>203 | 276=>218 | n=>n,fun | 70=>270 | 72=>272 | 37=>30 | 164=>298 | n=>n,fun | n=>n⟩
theorem Tryz.lays240:Go.Proofs.Lays.n240 Tryz.prog Tryz.lays240_ren:={
 mixed:=by kernel_rfl
 f240:=Tryz.func203.trans (congrArg some (by kernel_rfl))
 f276:=Tryz.func218.trans (congrArg some (by kernel_rfl))
 t0:=Tryz.underlying0
 a0:=Tryz.isAgg0
 z0:=Tryz.sizeOf0
 v0:=Tryz.zeroValue0
 t4:=Tryz.underlying4
 a4:=Tryz.isAgg4
 z4:=Tryz.sizeOf4
 v4:=Tryz.zeroValue4
 t9:=Tryz.underlying9
 a9:=Tryz.isAgg9
 z9:=Tryz.sizeOf9
 v9:=Tryz.zeroValue9
 t20:=Tryz.underlying20
 a20:=Tryz.isAgg20
 z20:=Tryz.sizeOf20
 v20:=Tryz.zeroValue20
 t70:=Tryz.underlying270
 a70:=Tryz.isAgg270
 z70:=Tryz.sizeOf270
 v70:=Tryz.zeroValue270
 t72:=Tryz.underlying272
 a72:=Tryz.isAgg272
 z72:=Tryz.sizeOf272
 v72:=Tryz.zeroValue272
 t164:=Tryz.underlying298
 a164:=Tryz.isAgg298
 z164:=Tryz.sizeOf298
 v164:=Tryz.zeroValue298 }
theorem Tryz.Builder_X72_240:Builder.X72 Tryz.prog Tryz.lays240_ren:={
 sizeBuilder:=by kernel_rfl
 liesBuilder:=by kernel_rfl }
section
set_option maxHeartbeats 2000000
set_option maxRecDepth 100000
theorem Tryz.string_some (b g cap n:Nat) (p:Value) (cur:Array Value) (fz:Nat×Nat) (l:List UInt8) (w:World) (hl:l.length=n) (h0:n≠0) (hb:w.heap[b]?=some (.cells #[p,.slice (some ⟨g,0,none⟩) n cap] 272 (0,0)))
  (hg:w.heap[g]?=some (.cells cur 5 fz)) (hnc:n≤cap) (hcm:cap≤maxLen) (hcs:cur.size=cap) (hcur:∀ (j:Nat) (x:UInt8),l[j]?=some x→cur[j]?=some (.int .u8 x.toNat)) :
  Calls Tryz.prog 191 #[.pointer (some ⟨b,0,none⟩)] w fun e w'=>e=.returned (.string ⟨l.toArray⟩)∧w'=w.drew.freeze ⟨g,0,none⟩ n:=by
 subst hl
 have c1:w.drew.cell? ⟨b,1,none⟩=some (.slice (some ⟨g,0,none⟩) l.length cap):=by
  have hb':w.drew.heap[b]?=_:=hb
  simp [World.cell?,hb']
 have hSD:=Lib.run_unsafeSliceData_row (P:=Tryz.prog) w.drew #[30] 287 ⟨g,0,none⟩ l.length cap (by omega)
 have hUS:(Builtin.unsafeString_ #[287,3] 9 #[.pointer (some ⟨g,0,none⟩),.int .i64 l.length]).run Tryz.prog w.drew=.ok (.string ⟨l.toArray⟩) (w.drew.freeze ⟨g,0,none⟩ l.length):=by
  refine Lib.run_unsafeString_row w.drew 287 3 9 5 Tryz.underlying287 Tryz.Builder_Extra_169.cellsByte g cur.size (by have hg':w.drew.heap[g]?=_:=hg;simp [World.shape?,hg']) l (by intro e;rw [e] at h0;exact h0 rfl) (by omega) (by unfold maxLen at hcm;omega) ?_
  intro j x hx
  have hg':w.drew.heap[g]?=_:=hg
  have hadd:(⟨g,0,none⟩:Addr).add j=⟨g,j,none⟩:=by unfold Addr.add;split <;> simp_all
  rw [hadd]
  simp only [World.cell?,hg']
  simpa using hcur j x hx
 have t72:=Tryz.underlying272;have a72:=Tryz.isAgg272;have z72:=Tryz.sizeOf272;have v72:=Tryz.zeroValue272;have u72:=run_underlying Tryz.underlying272
 have t70:=Tryz.underlying270;have a70:=Tryz.isAgg270;have z70:=Tryz.sizeOf270;have v70:=Tryz.zeroValue270;have u70:=run_underlying Tryz.underlying270
 have t37:=Tryz.underlying30;have a37:=Tryz.isAgg30;have z37:=Tryz.sizeOf30;have v37:=Tryz.zeroValue30;have u37:=run_underlying Tryz.underlying30
 have t127:=Tryz.underlying287;have a127:=Tryz.isAgg287;have z127:=Tryz.sizeOf287;have v127:=Tryz.zeroValue287;have u127:=run_underlying Tryz.underlying287
 have t3:=Tryz.underlying3;have a3:=Tryz.isAgg3;have z3:=Tryz.sizeOf3;have v3:=Tryz.zeroValue3;have u3:=run_underlying Tryz.underlying3
 have t9:=Tryz.underlying9;have a9:=Tryz.isAgg9;have z9:=Tryz.sizeOf9;have v9:=Tryz.zeroValue9;have u9:=run_underlying Tryz.underlying9
 have mixed:=Tryz.lays169.mixed
 go_enter Tryz.func191,Tryz.ntmps191
 go_wp2
 go_region_o
 all_goals (go_wp2;go_ret;exact ⟨rfl,rfl⟩)
theorem Tryz.string_nil (b:Nat) (p:Value) (w:World) (hb:w.heap[b]?=some (.cells #[p,.slice none 0 0] 272 (0,0))) :
  Calls Tryz.prog 191 #[.pointer (some ⟨b,0,none⟩)] w fun e w'=>e=.returned (.string ⟨#[]⟩)∧w'=w.drew:=by
 have c1:w.drew.cell? ⟨b,1,none⟩=some (.slice none 0 0):=by
  have hb':w.drew.heap[b]?=_:=hb
  simp [World.cell?,hb']
 have hSD:=Lib.run_unsafeSliceData_nil (P:=Tryz.prog) w.drew #[30] 287 0 0
 have hUS:=Lib.run_unsafeString_none (P:=Tryz.prog) w.drew 287 3 9 none
 have t72:=Tryz.underlying272;have a72:=Tryz.isAgg272;have z72:=Tryz.sizeOf272;have v72:=Tryz.zeroValue272;have u72:=run_underlying Tryz.underlying272
 have t70:=Tryz.underlying270;have a70:=Tryz.isAgg270;have z70:=Tryz.sizeOf270;have v70:=Tryz.zeroValue270;have u70:=run_underlying Tryz.underlying270
 have t37:=Tryz.underlying30;have a37:=Tryz.isAgg30;have z37:=Tryz.sizeOf30;have v37:=Tryz.zeroValue30;have u37:=run_underlying Tryz.underlying30
 have t127:=Tryz.underlying287;have a127:=Tryz.isAgg287;have z127:=Tryz.sizeOf287;have v127:=Tryz.zeroValue287;have u127:=run_underlying Tryz.underlying287
 have t3:=Tryz.underlying3;have a3:=Tryz.isAgg3;have z3:=Tryz.sizeOf3;have v3:=Tryz.zeroValue3;have u3:=run_underlying Tryz.underlying3
 have t9:=Tryz.underlying9;have a9:=Tryz.isAgg9;have z9:=Tryz.sizeOf9;have v9:=Tryz.zeroValue9;have u9:=run_underlying Tryz.underlying9
 have mixed:=Tryz.lays169.mixed
 go_enter Tryz.func191,Tryz.ntmps191
 go_wp2
 go_region_o
 all_goals (go_wp2;go_ret;exact ⟨rfl,rfl⟩)
end
end Go.Proofs
namespace Go.Kz
open Go Go.Proofs
def gCheck:Nat→List PD→List SObj→Option (PD×List SObj):=fun fl args σ=>match args with
 | [.ptr id 0]=>match σ[id]? with
   | some (.box (.typed 272 [.nilptr,s]))=>if fl≤id then some (.tup [],σ.set id (.box (.typed 272 [.ptr id 0,s]))) else none
   | some (.box (.typed 272 [.ptr id' 0,_]))=>if id'=id then some (.tup [],σ) else none
   | _=>none
 | _=>none
def gText:Nat→List PD→List SObj→Option (PD×List SObj):=fun fl args σ=>match args with
 | [.ptr id 0]=>match σ[id]? with
   | some (.box (.typed 272 [_,.slice z xs tok]))=>match tok with
     | .nil=>some (.str [],σ)
     | .own id2=>match σ[id2]? with
       | some (.own 5 1 n)=>if n=xs.length∧0 < n∧z=1∧fl≤id2 then (match bytesPD xs with | some l=>some (.str l,σ) | none=>none) else none
       | _=>none
     | _=>none
   | _=>none
 | _=>none
theorem setCell_heap {w:World} {b o:Nat} {cs:Array Value} {T:TypeId} {fz:Nat×Nat} {v:Value} (hb:w.heap[b]?=some (.cells cs T fz)):(w.setCell ⟨b,o,none⟩ v).heap[b]?=some (.cells (cs.setIfInBounds o v) T fz):=by
 simp only [World.setCell,Array.getElem?_modify,if_true,hb]
 rfl
theorem setCell_other {w:World} {b o k:Nat} {v:Value} (h:k≠b):(w.setCell ⟨b,o,none⟩ v).heap[k]?=w.heap[k]?:=by
 simp only [World.setCell,Array.getElem?_modify]
 rw [if_neg (Ne.symm h)]
theorem addr_at (g j:Nat):(⟨g,0,none⟩:Addr).add j=⟨g,j,none⟩:=by unfold Addr.add;split <;> simp_all
theorem two_cells {c:Cx} {cs:Array Value} {p q:PD} (h:VRs c cs.toList [p,q]):∃ v u,cs=#[v,u]∧VR c v p∧VR c u q:=by
 obtain ⟨v,u,e,h1,h2⟩:=vrs_two h
 exact ⟨v,u,Array.toList_inj.1 (by simpa using e),h1,h2⟩
theorem lib_Check {E:PExt} (hE:ExtOk Tryz.prog E):ExtOk Tryz.prog (E.add 203 gCheck):=by
 refine hE.addRaw ⟨_,Tryz.func203,rfl⟩ fun fl args c vs p σ' hg hs hX hv=>?_
 unfold gCheck at hg
 split at hg
 ·rename_i id
  obtain ⟨v,rfl,h1⟩:=vrs_one hv
  obtain ⟨b,rfl,hd,_,hρ⟩:=h1.inv_ptr
  split at hg
  ·rename_i s hbox
   split at hg
   ·rename_i hfl
    simp only [Option.some.injEq,Prod.mk.injEq] at hg
    obtain ⟨rfl,rfl⟩:=hg
    obtain ⟨b',cs,T,e1,e2,e3,e4,e5⟩:=hs.box id _ hd hbox
    rw [hρ] at e1
    simp only [Value.pointer.injEq,Option.some.injEq,Addr.mk.injEq,and_true] at e1
    subst e1
    obtain rfl:=e5 _ _ rfl
    obtain ⟨v0,v1,rfl,q1,q2⟩:=two_cells e3
    have hv0:v0=.pointer none:=q1.inv_nilptr
    subst hv0
    have hc0:c.w.cell? ⟨b,0,none⟩=some (.pointer none):=by simp [World.cell?,e2]
    refine Calls.mono (Any.Builder_copyCheck_fresh Tryz.lays240 Tryz.Builder_X72_240 b c.w hc0 (by simp [World.shape?,e2];rfl) (by simp [World.frozen?,e2])) fun e w' he=>?_
    obtain ⟨rfl,rfl⟩:=he
    have hnew:=setCell_heap (o:=0) (v:=Value.pointer (some ⟨b,0,none⟩)) e2
    have hoth:∀ k,k≠b→(c.w.setCell ⟨b,0,none⟩ (.pointer (some ⟨b,0,none⟩))).heap[k]?=c.w.heap[k]?:=fun k hk=>setCell_other hk
    have h0:(c.w.setCell ⟨b,0,none⟩ (.pointer (some ⟨b,0,none⟩))).os=c.w.os∧(c.w.setCell ⟨b,0,none⟩ (.pointer (some ⟨b,0,none⟩))).tape=c.w.tape∧(c.w.setCell ⟨b,0,none⟩ (.pointer (some ⟨b,0,none⟩))).output=c.w.output∧(c.w.setCell ⟨b,0,none⟩ (.pointer (some ⟨b,0,none⟩))).heap.size=c.w.heap.size:=⟨rfl,rfl,rfl,by simp [World.setCell]⟩
    have hp:VR c (.pointer (some ⟨b,0,none⟩)) (.ptr id 0):=.ptr id 0 b hd ⟨_,hbox⟩ hρ
    refine ⟨c.put _ id (c.ρ id) (.box (.typed 272 [.ptr id 0,s])),rfl,rfl,Sr.putBox hs hd hbox hρ h0 hoth hnew ?_ ⟨?_,fun t ds e=>by simp only [PD.typed.injEq] at e;exact e.1⟩,Nx.putBox hs hd hbox hρ hfl h0 hoth,.tup [] [] rfl (by simp),fun _ h=>.inl h⟩
    ·refine ⟨rfl,fun i v d h1 h2=>?_⟩
     match i,h1,h2 with
     | 0,h1,h2=>
       simp [PD.cells] at h1 h2
       subst h1 h2
       exact hp
     | 1,h1,h2=>
       simp [PD.cells] at h1 h2
       subst h1 h2
       exact q2
     | i+2,h1,h2=>simp [PD.cells] at h2
    ·intro v hv
     simp at hv
     rcases hv with rfl | rfl
     ·rfl
     ·exact e4 _ (by simp)
   ·cases hg
  ·rename_i id' s hbox
   split at hg
   ·rename_i hid
    subst hid
    simp only [Option.some.injEq,Prod.mk.injEq] at hg
    obtain ⟨rfl,rfl⟩:=hg
    obtain ⟨b',cs,T,e1,e2,e3,e4,e5⟩:=hs.box _ _ hd hbox
    rw [hρ] at e1
    simp only [Value.pointer.injEq,Option.some.injEq,Addr.mk.injEq,and_true] at e1
    subst e1
    obtain ⟨v0,v1,rfl,q1,q2⟩:=two_cells e3
    obtain ⟨b2,rfl,_,_,hρ2⟩:=q1.inv_ptr
    rw [hρ] at hρ2
    simp only [Value.pointer.injEq,Option.some.injEq,Addr.mk.injEq,and_true] at hρ2
    subst hρ2
    have hc0:c.w.cell? ⟨b,0,none⟩=some (.pointer (some ⟨b,0,none⟩)):=by simp [World.cell?,e2]
    refine Calls.mono (Any.Builder_copyCheck_used Tryz.lays240 Tryz.Builder_X72_240 b c.w hc0) fun e w' he=>?_
    obtain ⟨rfl,rfl⟩:=he
    exact ⟨c,rfl,rfl,hs,.refl _ _,.tup [] [] rfl (by simp),fun _ h=>.inl h⟩
   ·cases hg
  ·cases hg
 ·cases hg
theorem lib_Text {E:PExt} (hE:ExtOk Tryz.prog E):ExtOk Tryz.prog (E.add 191 gText):=by
 refine hE.addRaw ⟨_,Tryz.func191,rfl⟩ fun fl args c vs p σ' hg hs hX hv=>?_
 unfold gText at hg
 split at hg
 ·rename_i id
  obtain ⟨v,rfl,h1⟩:=vrs_one hv
  obtain ⟨b,rfl,hd,_,hρ⟩:=h1.inv_ptr
  split at hg
  ·rename_i a z xs tok hbox
   obtain ⟨b',cs,T,e1,e2,e3,e4,e5⟩:=hs.box id _ hd hbox
   rw [hρ] at e1
   simp only [Value.pointer.injEq,Option.some.injEq,Addr.mk.injEq,and_true] at e1
   subst e1
   obtain rfl:=e5 _ _ rfl
   obtain ⟨v0,v1,rfl,q1,q2⟩:=two_cells e3
   obtain ⟨A,cap,flx,rfl,a1,a2,a3,a4,a5,a6,a7,a8⟩:=q2.inv_slice
   split at hg
   ·simp only [Option.some.injEq,Prod.mk.injEq] at hg
    obtain ⟨rfl,rfl⟩:=hg
    obtain ⟨q,_,_⟩:=a8
    rw [q] at e2
    refine Calls.mono (Tryz.string_nil b v0 c.w e2) fun e w' he=>?_
    obtain ⟨rfl,rfl⟩:=he
    have hgr:=grownBy_drew c.w
    exact ⟨c.at c.w.drew,rfl,rfl,hs.grow hgr,Nx.grow hs hgr,.str [],fun _ h=>.inl h⟩
   ·rename_i id2
    split at hg
    ·rename_i n hown
     split at hg
     ·rename_i hc
      obtain ⟨rfl,hn0,rfl,hfl⟩:=hc
      split at hg
      ·rename_i l hl
       simp only [Option.some.injEq,Prod.mk.injEq] at hg
       obtain ⟨rfl,rfl⟩:=hg
       have hxs:=bytesPD_of hl
       obtain ⟨hd2,e0,m0,hq',hle,hρ2⟩:=a8
       rw [hown] at hq'
       simp only [Option.some.injEq,SObj.own.injEq] at hq'
       obtain ⟨rfl,_,rfl⟩:=hq'
       have hρ2:=hρ2 rfl
       obtain ⟨ys,hrow⟩:=hs.own id2 _ _ _ hd2 hown
       rw [hρ2] at hrow
       rcases hrow.2 with ⟨_,h0⟩ | ⟨g,cap',cur,fz,hv0,_,hg,hfz,hnc,hcm,hcs,htake⟩
       ·omega
       ·simp only [Value.slice.injEq] at hv0
        obtain ⟨rfl,_,rfl⟩:=hv0
        have hlen:l.length=xs.length:=by rw [hxs,List.length_map]
        have hcells:∀ (j:Nat) (x:UInt8),l[j]?=some x→cur[j]?=some (.int .u8 x.toNat):=fun j x hj=>by
         have hjl:j < xs.length:=by rw [← hlen];exact (List.getElem?_eq_some_iff.1 hj).1
         have hjf:j < flx.length:=by omega
         obtain ⟨ad,q3,q4,_⟩:=a6 j flx[j] (by simp [hjf])
         cases q3
         rw [addr_at] at q4
         simp only [World.cell?,hg] at q4
         have hd3:(xs.flatMap PD.cells)[j]?=some (.int .u8 x.toNat):=by
          rw [hxs,text_flat,List.getElem?_map,hj]
          rfl
         have:=(a7 j flx[j] _ (by simp [hjf]) hd3).int_eq
         rw [this] at q4
         simpa using q4
        refine Calls.mono (Tryz.string_some b g cap xs.length v0 cur fz l c.w hlen (by omega) e2 hg hnc hcm (by rw [hcs,Nat.mul_one]) hcells) fun e w' he=>?_
        obtain ⟨rfl,rfl⟩:=he
        have hlt:g < c.w.heap.size:=heap_lt hg
        have hw1:∀ k,k≠g→(c.w.drew.freeze ⟨g,0,none⟩ xs.length).heap[k]?=c.w.heap[k]?:=fun k hk=>by
         unfold World.freeze
         rw [if_neg (by omega)]
         simp only [Array.getElem?_modify]
         rw [if_neg (Ne.symm hk)]
         rfl
        have hg':c.w.drew.heap[g]?=some (.cells cur 5 fz):=hg
        have hw2:(c.w.drew.freeze ⟨g,0,none⟩ xs.length).heap[g]?=some (.cells cur 5 (if fz.1==fz.2 then (0,0+xs.length) else (min fz.1 0,max fz.2 (0+xs.length)))):=by
         unfold World.freeze
         rw [if_neg (by omega)]
         simp only [Array.getElem?_modify,if_true,hg']
         rfl
        have hsz:(c.w.drew.freeze ⟨g,0,none⟩ xs.length).os=c.w.os∧(c.w.drew.freeze ⟨g,0,none⟩ xs.length).tape=c.w.tape∧(c.w.drew.freeze ⟨g,0,none⟩ xs.length).output=c.w.output∧(c.w.drew.freeze ⟨g,0,none⟩ xs.length).heap.size=c.w.heap.size:=by
         unfold World.freeze
         rw [if_neg (by omega)]
         exact ⟨rfl,rfl,rfl,by simp⟩
        refine ⟨c.at _,rfl,rfl,Sr.refz hs hd2 hown hρ2 hg hsz hw1 hw2 ?_,Nx.refz hd2 hρ2 hfl hg hsz hw1 hw2,.str l,fun _ h=>.inl h⟩
        simp only [Nat.zero_add,Nat.mul_one]
        split
        ·exact Nat.le_refl _
        ·simp only
         omega
      ·cases hg
     ·cases hg
    ·cases hg
   ·cases hg
  ·cases hg
 ·cases hg
end Go.Kz

namespace Go.Kz
open Go Go.Proofs Go.RowKit
def gRep:List PD→Option PD:=fun args=>match args with
 | [.str l,.int .i64 n]=>if 0≤n∧n≤1000∧l.length≤1000 then some (.str (Lib.repeatL l n.toNat)) else none
 | _=>none
def gCmp:List PD→Option PD:=fun args=>match args with
 | [.str a,.str b]=>some (.int .i64 (Lib.compareBytes a b))
 | _=>none
theorem grown_below {w w':World} (h:Below w.heap.size w w'):w.grownBy w' none:=⟨h.os,h.tape,h.output,h.size,fun k hk _=>h.block k hk⟩
theorem lib_Rep {E:PExt} (hE:ExtOk Tryz.prog E):ExtOk Tryz.prog (E.add 190 (entry gRep)):=by
 refine hE.addLib ⟨_,Tryz.func190,rfl⟩ fun args c vs p hg hs hv=>?_
 unfold gRep at hg
 split at hg
 ·rename_i l n
  split at hg
  ·rename_i hc
   obtain ⟨h0,h1,h2⟩:=hc
   simp only [Option.some.injEq] at hg
   subst hg
   obtain ⟨v,u,rfl,q1,q2⟩:=vrs_two hv
   rw [q1.str_eq,q2.int_eq]
   obtain ⟨k,rfl⟩:∃ k:Nat,n=k:=⟨n.toNat,by omega⟩
   have hle:(⟨l.toArray⟩:ByteArray).size*k≤140737488355328:=by
    have hsz:(⟨l.toArray⟩:ByteArray).size=l.length:=by simp [ByteArray.size]
    rw [hsz]
    have:l.length*k≤1000*1000:=Nat.mul_le_mul h2 (by omega)
    omega
   refine Calls.mono (Tryz.strings_Repeat ⟨l.toArray⟩ k c.w (by omega) hle) fun e w' he=>?_
   obtain ⟨rfl,hb⟩:=he
   exact ⟨_,rfl,grown_below hb,fun _=>.str _⟩
  ·cases hg
 ·cases hg
theorem lib_Cmp {E:PExt} (hE:ExtOk Tryz.prog E):ExtOk Tryz.prog (E.add 173 (entry gCmp)):=by
 refine hE.addLib ⟨_,Tryz.func173,rfl⟩ fun args c vs p hg hs hv=>?_
 unfold gCmp at hg
 split at hg
 ·rename_i a b
  simp only [Option.some.injEq] at hg
  subst hg
  obtain ⟨v,u,rfl,q1,q2⟩:=vrs_two hv
  rw [q1.str_eq,q2.str_eq]
  refine Calls.mono (Tryz.strings_Compare ⟨a.toArray⟩ ⟨b.toArray⟩ c.w) fun e w' he=>?_
  obtain ⟨rfl,rfl⟩:=he
  exact ⟨_,rfl,grownBy_refl _,fun _=>.int _ _⟩
 ·cases hg
set_option maxRecDepth 100000
noncomputable def Bs0:PExt:=fun _=>none
theorem Bs0_ok:ExtOk Tryz.prog Bs0:=fun _ hg=>by cases hg
noncomputable def Bs1:PExt:=Bs0.add 203 gCheck
theorem Bs1_ok:ExtOk Tryz.prog Bs1:=lib_Check Bs0_ok
noncomputable def Bs2:PExt:=Bs1.add 191 gText
theorem Bs2_ok:ExtOk Tryz.prog Bs2:=lib_Text Bs1_ok
noncomputable def Bs3:PExt:=Bs2.add 190 (entry gRep)
theorem Bs3_ok:ExtOk Tryz.prog Bs3:=lib_Rep Bs2_ok
noncomputable def Bs4:PExt:=Bs3.add 173 (entry gCmp)
theorem Bs4_ok:ExtOk Tryz.prog Bs4:=lib_Cmp Bs3_ok
end Go.Kz

namespace Go.Proofs
open Go Go.Shelf Go.RowKit Go.Sort Go.Lib
set_option maxHeartbeats 6400000 in
set_option maxRecDepth 100000 in
theorem Tryz.FormatUint_10 (u:Nat) (hu64:u < 18446744073709551616) (w:World) (htab:Lib.TabIs Tryz.prog w "internal/strconv.uint64pow10" .u64 Lib.pow10Tab) :
  Calls Tryz.prog 202 #[.int .u64 u,.int .i64 10] w fun e w'=>e=.returned (.string ⟨(Lib.decDigits u).toArray⟩)∧∃ k os,w'=grow (w.drewN k) os:=by
 have mixed:Tryz.prog.follows .mixedOrders=true:=by kernel_rfl
 have t3:=Tryz.underlying3;have a3:=Tryz.isAgg3;have z3:=Tryz.sizeOf3;have v3:=Tryz.zeroValue3
 have t9:=Tryz.underlying9;have a9:=Tryz.isAgg9;have z9:=Tryz.sizeOf9;have v9:=Tryz.zeroValue9
 have t4:=Tryz.underlying4;have a4:=Tryz.isAgg4;have z4:=Tryz.sizeOf4;have v4:=Tryz.zeroValue4
 have t171:=Tryz.underlying293;have a171:=Tryz.isAgg293;have z171:=Tryz.sizeOf293;have v171:=Tryz.zeroValue293
 have t53:=Tryz.underlying148;have a53:=Tryz.isAgg148;have z53:=Tryz.sizeOf148;have v53:=Tryz.zeroValue148
 have t37:=Tryz.underlying30;have a37:=Tryz.isAgg30;have z37:=Tryz.sizeOf30;have v37:=Tryz.zeroValue30
 have t5:=Tryz.underlying5;have a5:=Tryz.isAgg5;have z5:=Tryz.sizeOf5;have v5:=Tryz.zeroValue5
 have e283:∀ args w,(callFunc 214 args).run Tryz.prog w=.ok (.enter 214 args) w:=enters_of Tryz.func214 (by kernel_rfl) rfl
 have e284:∀ args w,(callFunc 215 args).run Tryz.prog w=.ok (.enter 215 args) w:=enters_of Tryz.func215 (by kernel_rfl) rfl
 have e285:∀ args w,(callFunc 216 args).run Tryz.prog w=.ok (.enter 216 args) w:=enters_of Tryz.func216 (by kernel_rfl) rfl
 by_cases hs:u < 100
 ·have hws:IntKind.i64.wrap (u:Int)=(u:Int):=by rw [IntKind.wrap_i64];omega
  have hlt:(u:Int) < 100:=by omega
  go_enter Tryz.func202,Tryz.ntmps202
  go_wp2_with (go_at_fn 214;refine (Tryz.internal_strconv_small u hs _).mono ?_;rintro e w' ⟨rfl,rfl⟩)
  go_ret
  exact ⟨rfl,0,#[],by simp [World.drewN_zero]⟩
 ·have hu1:1≤u:=by omega
  have hnlt:¬ (u:Int) < 100:=by omega
  have hnd20:Lib.nDigits u≤20:=by have:=Lib.numDigits_eq u hu1 hu64;split at this <;> omega
  have hal:Tryz.prog.arrayLen 293=24:=by simp [Program.arrayLen,Tryz.underlying293]
  have hsl1:∀ W,(Instr.sliceAt 293 (.pointer (some ⟨w.heap.size,0,none⟩)) none (some (.int .i64 (Lib.nDigits u:Int))) none).run Tryz.prog W=.ok (.slice (some ⟨w.heap.size,0,none⟩) (Lib.nDigits u) 24) W:=fun W=>by
   rw [run_sliceAt_array_h W 293 ⟨w.heap.size,0,none⟩ (by simp [Program.arrayLen,Program.elem,Tryz.underlying293]) .i64 (Lib.nDigits u:Int) (by omega) (by rw [hal];omega)]
   go_simp
  have hH0:Holds (fun (b:UInt8)=>Value.int .u8 (b.toNat:Int)) (w.alloc (.cells Lib.zeros24 293)) w.heap.size 0 (Array.replicate (Lib.nDigits u) 0):=
   Lib.holds_zero0 w _ _ (by omega)
  have hfmt:=Tryz.internal_strconv_formatBase10 w.heap.size 0 24 u (Array.replicate (Lib.nDigits u) 0) (w.alloc (.cells Lib.zeros24 293)) hH0 (by rw [Array.size_replicate];exact Lib.lt_pow_nDigits u) hu64 (by rw [Array.size_replicate];omega)
  rw [Array.size_replicate] at hfmt
  have HH0:=Lib.hid hH0
  clear hH0 hal
  go_enter Tryz.func202,Tryz.ntmps202
  go_wp2_with (first
   | (go_at_fn 215;refine (Tryz.internal_strconv_numDigits u hu1 hu64 _ (Lib.tabIs_alloc htab _)).mono ?_;rintro e w' ⟨rfl,rfl⟩))
  go_at_fn 216
  refine hfmt.mono ?_
  rintro e w' ⟨rfl,k,v',dk,rfl,hF⟩
  have hcv:(convert 30 9 (.slice (some ⟨w.heap.size,0,none⟩) (Lib.nDigits u) 24)).run Tryz.prog ((putRow (fun (b:UInt8)=>Value.int .u8 (b.toNat:Int)) (w.alloc (.cells Lib.zeros24 293)) w.heap.size 0 dk).drewN k)=.ok (.string ⟨(Lib.decDigits u).toArray⟩) ((putRow (fun (b:UInt8)=>Value.int .u8 (b.toNat:Int)) (w.alloc (.cells Lib.zeros24 293)) w.heap.size 0 dk).drewN k):=by
   have h:=run_convert_bytes_back (P:=Tryz.prog) ((putRow (fun (b:UInt8)=>Value.int .u8 (b.toNat:Int)) (w.alloc (.cells Lib.zeros24 293)) w.heap.size 0 dk).drewN k) 30 9 5 ⟨w.heap.size,0,none⟩ 24 (Lib.decDigits u) Tryz.underlying30 Tryz.underlying5 Tryz.underlying9 (fun j hj=>by
    rw [Lib.row_is_numeral hF j hj,Lib.add_plain,World.cell?_drewN]
    exact cell?_putRow (fun (b:UInt8)=>Value.int .u8 (b.toNat:Int)) _ w.heap.size 0 _ dk HH0.out (by rw [hF.size,Array.size_replicate]) j (by rw [hF.size];rw [Lib.decDigits_length] at hj;exact hj))
   rw [Lib.decDigits_length] at h
   exact h
  go_wp2
  go_ret
  obtain ⟨os,eo⟩:=Lib.fin_at w (.cells Lib.zeros24 293) dk k 0
  exact ⟨rfl,k,os,eo⟩
end Go.Proofs
namespace Go.Kz
open Go Go.Proofs Go.RowKit
def gFU:List PD→Option PD:=fun args=>match args with
 | [.int .u64 n,.int .i64 b]=>if 0≤n∧n < 18446744073709551616∧b=10 then some (.str (Lib.decDigits n.toNat)) else none
 | _=>none
theorem lib_FU {E:PExt} (hE:ExtOk Tryz.prog E):ExtOk Tryz.prog (E.add 202 (entry gFU)):=by
 refine hE.addLib ⟨_,Tryz.func202,rfl⟩ fun args c vs p hg hs hv=>?_
 unfold gFU at hg
 split at hg
 ·rename_i n b
  split at hg
  ·rename_i hc
   obtain ⟨h0,h1,rfl⟩:=hc
   simp only [Option.some.injEq] at hg
   subst hg
   obtain ⟨v,u,rfl,q1,q2⟩:=vrs_two hv
   rw [q1.int_eq,q2.int_eq]
   obtain ⟨k,rfl⟩:∃ k:Nat,n=k:=⟨n.toNat,by omega⟩
   obtain ⟨⟨cs,T,fz,hheap,hh⟩,_⟩:=hs.glob.2 1 rfl
   have hcs:=hh.1 .u64 _ rfl
   have htab:Lib.TabIs Tryz.prog c.w "internal/strconv.uint64pow10" .u64 Lib.pow10Tab:=by
    unfold Lib.TabIs World.var?
    have hg:Tryz.prog.globalNamed "internal/strconv.uint64pow10" = some 1:=by kernel_rfl
    rw [hg]
    simp only [Option.bind_some,hheap]
    rw [hcs]
    rfl
   refine Calls.mono (Tryz.FormatUint_10 k (by omega) c.w htab) fun e w' he=>?_
   obtain ⟨rfl,k',os,rfl⟩:=he
   exact ⟨_,rfl,⟨rfl,rfl,rfl,by simp [Go.Sort.grow],fun i hi _=>by simp [Go.Sort.grow,Array.getElem?_append,hi]⟩,fun _=>.str _⟩
  ·cases hg
 ·cases hg
set_option maxRecDepth 100000
noncomputable def Bs5:PExt:=Bs4.add 202 (entry gFU)
theorem Bs5_ok:ExtOk Tryz.prog Bs5:=lib_FU Bs4_ok
end Go.Kz

namespace Go.Kz
open Go Go.Proofs
set_option maxRecDepth 100000
set_option maxHeartbeats 4000000
abbrev u64e:Em Int:=Em.int .u64
def trimN (l:List Int):Nat:=(l.reverse.dropWhile fun x=>decide (x=0)).length
theorem trimN_zero (l:List Int):trimN (l++[0])=trimN l:=by simp [trimN,List.dropWhile]
theorem trimN_ne (l:List Int) (x:Int) (h:x≠0):trimN (l++[x])=l.length+1:=by simp [trimN,List.dropWhile,h]
theorem trimN_le (l:List Int):trimN l≤l.length:=by
 unfold trimN
 exact Nat.le_trans (List.dropWhile_sublist _).length_le (by simp)
theorem take_last (l:List Int) (n:Nat) (h:n < l.length):l.take (n+1)=l.take n++[l[n]]:=by simp
variable {E:PExt} (hU:Uni E)
include hU
theorem r_trim1 (h0:E 192=none) (fl z:Nat) (l:List Int) (tok:Tok) (τ:List SObj) (hz:l=[]∨z=1) (hl:l.length≤100000):WpC Tryz.prog E fl (.inl 192) [.slice z (l.map u64e.emb) tok] τ
  (fun p1 σ1=>p1=.slice z ((l.take (trimN l)).map u64e.emb) (if trimN l=l.length then tok else .any)∧σ1=τ):=by
 obtain ⟨T,hT⟩:=gn (trimN l)
 rw [hT]
 apply WpC.bodyL h0 Tryz.func192 rfl
 focus (simp [show Tryz.f192.ntmps=_ from rfl,List.replicate];rfl)
 have gx:=True.intro
 refine goA ?_
 clear gx
 refine Wp.loopI (fun m fr σ=>∃ (n:Nat),∃ gg:Nat→PD,(n=m∧n≤l.length∧trimN (l.take n)=T)∧fr=[.slice z ((l.take n).map u64e.emb) (if n=l.length then tok else .any),gg 1,gg 2,gg 3,gg 4,gg 5,gg 6,gg 7,gg 8,gg 9,gg 10,gg 11,gg 12,gg 13,gg 14,gg 15,gg 16,gg 17,gg 18,gg 19,gg 20]∧σ=τ) ?_ (l.length) (by refine ⟨l.length,?_⟩;exact exF (⟨rfl,Nat.le_refl _,by rw [List.take_length];exact hT⟩) (by (first | rfl | (simp [];repeat (first | rfl | (apply And.intro))) | (simp [];done))) (by (first | rfl | (simp [];repeat (first | rfl | (apply And.intro))) | (simp [];done))))
 rintro m fr σ ⟨n,gg,hI,rfl,rfl⟩
 obtain ⟨rfl,hn,hs⟩:=hI
 have hlen:(l.take n).length=n:=by rw [List.length_take];omega
 obtain ⟨A,hA⟩:=gn (l.take n)
 rw [hA] at hs hlen
 cases n with
 | zero=>
   have hA0:A=[]:=List.eq_nil_of_length_eq_zero hlen
   subst hA0
   have hT0:T=0:=by rw [← hs];rfl
   subst hT0
   have gx:=@hlen
   refine goA ?_
   clear gx
   exact ⟨_,_,rfl,rfl,rfl⟩
 | succ n=>
   have ht:=take_last l n (by omega)
   rw [hA] at ht
   obtain ⟨x,hx⟩:=gn (l[n])
   rw [hx] at ht
   have hz1:z=1:=hz.resolve_left (fun h=>by rw [h] at hn;simp at hn)
   subst hz1
   obtain ⟨tk,htk⟩:∃ t,(if n+1=l.length then tok else .any)=t:=⟨_,rfl⟩
   have w1:IntKind.i64.wrap ((n:Int)+1 - 1)=(n:Int):=by rw [IntKind.wrap_i64];omega
   obtain ⟨M,hM⟩:=gn ((l.take (n+1)).map u64e.emb)
   have hMl:M.length=n+1:=by rw [← hM,List.length_map,hA,hlen]
   have hMn:M[n]?=some (.int .u64 x):=by
    rw [← hM,hA,ht,List.map_append,List.getElem?_append_right (by rw [List.length_map,List.length_take];omega)]
    rw [List.length_map,List.length_take,Nat.min_eq_left (by omega),Nat.sub_self]
    rfl
   obtain ⟨hlt,hMe⟩:=List.getElem?_eq_some_iff.1 hMn
   have hMt:M.take n=(l.take n).map u64e.emb:=by
    rw [← hM,← List.map_take,List.take_take,Nat.min_eq_left (by omega)]
   rw [htk,hM]
   by_cases hx0:x=0
   ·have hn1:¬ n=l.length:=by omega
    have hn2:¬ n=n+1:=by omega
    have hs':trimN (l.take n)=T:=by rw [← hs,ht,hx0,trimN_zero]
    have hpr:∀ t,pslRow 1 1 M t (some (0,n))=some (.slice 1 ((l.take n).map u64e.emb) .any):=fun t=>by
     unfold pslRow
     simp only [hMl,Nat.sub_zero,List.drop_zero,hMt]
     simp [hn2]
    have gx:=An @hMl (An @hMn (An @hMe (An @hx0 (An @w1 (An @hpr (@hn2))))))
    refine goA ?_
    clear gx
    refine LoopI.normal (n) (by omega) (by refine ⟨n,?_⟩;exact exF (⟨rfl,by omega,hs'⟩) (by (first | rfl | (simp [hn1];repeat (first | rfl | (apply And.intro))) | (simp [hn1];done))) (by (first | rfl | (simp [hn1];repeat (first | rfl | (apply And.intro))) | (simp [hn1];done))))
   ·have hT1:T=n+1:=by rw [← hs,ht,trimN_ne _ _ hx0,List.length_take];omega
    subst hT1
    have gx:=An @hMl (An @hMn (An @hMe (@hx0)))
    refine goA ?_
    clear gx
    exact ⟨_,_,rfl,by rw [hM,htk];rfl,rfl⟩
theorem r_trim2 (h0:E 192=none) (fl id off:Nat) (l:List Int) (cs:List PD) (τ:List SObj) (hq:τ[id]?=some (.box (.agg cs))) (hc:∀ j (h:j < l.length),cs[off+j]?=some (.int .u64 (l[j]))) (hl:l.length≤100000) :
  WpC Tryz.prog E fl (.inl 192) [.sref id off l.length 1] τ (fun p1 σ1=>p1=.sref id off (trimN l) 1∧σ1=τ):=by
 obtain ⟨T,hT⟩:=gn (trimN l)
 rw [hT]
 apply WpC.bodyL h0 Tryz.func192 rfl
 focus (simp [show Tryz.f192.ntmps=_ from rfl,List.replicate];rfl)
 have gx:=True.intro
 refine goA ?_
 clear gx
 refine Wp.loopI (fun m fr σ=>∃ (n:Nat),∃ gg:Nat→PD,(n=m∧n≤l.length∧trimN (l.take n)=T)∧fr=[.sref id off n 1,gg 1,gg 2,gg 3,gg 4,gg 5,gg 6,gg 7,gg 8,gg 9,gg 10,gg 11,gg 12,gg 13,gg 14,gg 15,gg 16,gg 17,gg 18,gg 19,gg 20]∧σ=τ) ?_ (l.length) (by refine ⟨l.length,?_⟩;exact exF (⟨rfl,Nat.le_refl _,by rw [List.take_length];exact hT⟩) (by (first | rfl | (simp [];repeat (first | rfl | (apply And.intro))) | (simp [];done))) (by (first | rfl | (simp [];repeat (first | rfl | (apply And.intro))) | (simp [];done))))
 rintro m fr σ ⟨n,gg,hI,rfl,rfl⟩
 obtain ⟨rfl,hn,hs⟩:=hI
 have hlen:(l.take n).length=n:=by rw [List.length_take];omega
 obtain ⟨A,hA⟩:=gn (l.take n)
 rw [hA] at hs hlen
 cases n with
 | zero=>
   have hA0:A=[]:=List.eq_nil_of_length_eq_zero hlen
   subst hA0
   have hT0:T=0:=by rw [← hs];rfl
   subst hT0
   have gx:=@hlen
   refine goA ?_
   clear gx
   exact ⟨_,_,rfl,rfl,rfl⟩
 | succ n=>
   have ht:=take_last l n (by omega)
   rw [hA] at ht
   obtain ⟨x,hx⟩:=gn (l[n])
   have hcn:=hc n (by omega)
   rw [hx] at ht hcn
   obtain ⟨hlt,hce⟩:=List.getElem?_eq_some_iff.1 hcn
   have w1:IntKind.i64.wrap ((n:Int)+1 - 1)=(n:Int):=by rw [IntKind.wrap_i64];omega
   by_cases hx0:x=0
   ·have hs':trimN (l.take n)=T:=by rw [← hs,ht,hx0,trimN_zero]
    subst hx0
    have gx:=An @hq (An @hcn (An @hce (@w1)))
    refine goA ?_
    clear gx
    refine LoopI.normal (n) (by omega) (by refine ⟨n,?_⟩;exact exF (⟨rfl,by omega,hs'⟩) (by (first | rfl | (simp [];repeat (first | rfl | (apply And.intro))) | (simp [];done))) (by (first | rfl | (simp [];repeat (first | rfl | (apply And.intro))) | (simp [];done))))
   ·have hT1:T=n+1:=by rw [← hs,ht,trimN_ne _ _ hx0,List.length_take];omega
    subst hT1
    have gx:=An @hq (An @hcn (An @hce (An @w1 (@hx0))))
    refine goA ?_
    clear gx
    exact ⟨_,_,rfl,rfl,rfl⟩
end Go.Kz

namespace Go.Kz
open Go Go.Proofs
set_option maxRecDepth 100000
set_option maxHeartbeats 4000000
def u64s:List PD→Option (List Int)
 | []=>some []
 | .int .u64 n::r=>match u64s r with | some l=>some (n::l) | none=>none
 | _=>none
theorem u64s_of:∀ {xs:List PD} {l:List Int},u64s xs=some l→xs=l.map u64e.emb
 | [],l,h=>by simp only [u64s,Option.some.injEq] at h;subst h;rfl
 | x::r,l,h=>by
   unfold u64s at h
   split at h
   ·cases ‹_::_=_›
   ·rename_i n r' e
    simp only [List.cons.injEq] at e
    obtain ⟨rfl,rfl⟩:=e
    split at h
    ·rename_i l' hl
     simp only [Option.some.injEq] at h
     subst h
     rw [u64s_of hl]
     rfl
    ·cases h
   ·cases h
@[simp] theorem u64s_emb:∀ l:List Int,u64s (l.map u64e.emb)=some l
  | []=>rfl
  | n::l=>by
    show u64s (.int .u64 n::l.map u64e.emb)=_
    simp only [u64s,u64s_emb l]
def gTrim:Nat→List PD→List SObj→Option (PD×List SObj):=fun _ args σ=>match args with
 | [.slice z xs tok]=>match u64s xs with
   | some l=>if (l.length=0∨z=1)∧l.length≤100000 then some (.slice z ((l.take (trimN l)).map u64e.emb) (if trimN l=l.length then tok else .any),σ) else none
   | none=>none
 | [.sref id off n 1]=>match σ[id]? with
   | some (.box (.agg cs))=>match u64s ((cs.drop off).take n) with
     | some l=>if l.length=n∧n≤100000 then some (.sref id off (trimN l) 1,σ) else none
     | none=>none
   | _=>none
 | _=>none
theorem WpC.ex2 {P:Program} {E:PExt} {fl:Nat} {f:FuncId ⊕ Nat} {args:List PD} {σ σ':List SObj} {p:PD} (h:WpC P E fl f args σ (fun p1 σ1=>p1=p∧σ1=σ')):EvC P E fl f args σ p σ':=by
 obtain ⟨p1,σ1,h1,rfl,rfl⟩:=h.ex
 exact h1
section
variable {E:PExt} (hU:Uni E)
include hU
theorem lib_trim (hE:ExtOk Tryz.prog E) (h0:E 192=none):ExtOk Tryz.prog (E.add 192 gTrim):=
 hE.add (by kernel_rfl) fun fl args σ p σ' h=>by
  unfold gTrim at h
  split at h
  ·rename_i z xs tok
   split at h
   ·rename_i l hl
    split at h
    ·rename_i hc
     simp only [Option.some.injEq,Prod.mk.injEq] at h
     obtain ⟨rfl,rfl⟩:=h
     rw [u64s_of hl]
     exact WpC.ex2 (r_trim1 hU h0 fl z l tok σ (hc.1.imp List.eq_nil_of_length_eq_zero id) hc.2)
    ·cases h
   ·cases h
  ·rename_i id off n
   split at h
   ·rename_i cs hcs
    split at h
    ·rename_i l hl
     split at h
     ·rename_i hc
      simp only [Option.some.injEq,Prod.mk.injEq] at h
      obtain ⟨rfl,rfl⟩:=h
      obtain ⟨hln,hnb⟩:=hc
      subst hln
      have hx:=u64s_of hl
      refine WpC.ex2 (r_trim2 hU h0 fl id off l cs σ hcs (fun j hj=>?_) hnb)
      have h1:=congrArg (fun t=>t[j]?) hx
      simp only [List.getElem?_take,hj,if_true,List.getElem?_drop,List.getElem?_map] at h1
      rw [h1,List.getElem?_eq_getElem hj]
      rfl
     ·cases h
    ·cases h
   ·cases h
  ·cases h
end
theorem gTrim_slice (fl z:Nat) (l:List Int) (tok:Tok) (σ:List SObj) (hz:l=[]∨z=1) (hl:l.length≤100000):gTrim fl [.slice z (l.map u64e.emb) tok] σ=some (.slice z ((l.take (trimN l)).map u64e.emb) (if trimN l=l.length then tok else .any),σ):=by
 unfold gTrim
 simp only [u64s_emb]
 rw [if_pos ⟨hz.imp (fun h=>by rw [h];rfl) id,hl⟩]
def limbN (l:List UInt8):Nat:=l.foldl (fun a c=>10*a+(c.toNat - 48)) 0
def limbAt (l:List UInt8) (k:Nat):Nat:=limbN ((l.drop (l.length - 9*k - 9)).take (l.length - 9*k - (l.length - 9*k - 9)))
def limbsS (l:List UInt8) (k:Nat):List Int:=(List.range k).map fun i=>(limbAt l i:Int)
def longS (l:List UInt8):List Int:=(limbsS l ((l.length+8) / 9)).take (trimN (limbsS l ((l.length+8) / 9)))
def isDig (l:List UInt8):Prop:=∀ c∈l,48≤c.toNat∧c.toNat≤57
theorem limbN_snoc (l:List UInt8) (c:UInt8):limbN (l++[c])=10*limbN l+(c.toNat - 48):=by simp [limbN]
theorem limbN_lt:∀ (n:Nat) (l:List UInt8),l.length=n→isDig l→limbN l < 10 ^ n
 | 0,l,h,_=>by rw [List.eq_nil_of_length_eq_zero h];decide
 | n+1,l,h,hd=>by
   have hne:l≠[]:=fun e=>by rw [e] at h;simp at h
   have e:=List.dropLast_concat_getLast hne
   rw [← e,limbN_snoc]
   have h1:=limbN_lt n l.dropLast (by rw [List.length_dropLast];omega) (fun c hc=>hd c ((List.dropLast_sublist l).subset hc))
   have h2:=hd _ (List.getLast_mem hne)
   rw [Nat.pow_succ]
   omega
section
variable {E:PExt} (hU:Uni E)
include hU
theorem r_long (h0:E 186=none) (h1:E 192=some gTrim) (l:List UInt8) (hl:l.length≤1000) (hd:isDig l):Run Tryz.prog E 186 [.str l] ((u64e.list 1).emb (longS l)):=by
 obtain ⟨K,hK⟩:=gn ((l.length+8) / 9)
 have hls:∀ k,(limbsS l k).length=k:=fun k=>by simp [limbsS]
 have hsu:∀ k,limbsS l (k+1)=limbsS l k++[(limbAt l k:Int)]:=fun k=>by simp [limbsS,List.range_succ]
 unfold longS
 rw [hK]
 apply Run.bodyL h0 Tryz.func186 rfl
 focus (simp [show Tryz.f186.ntmps=_ from rfl,List.replicate];rfl)
 have gx:=True.intro
 refine goA ?_
 clear gx
 refine Wp.loopI (fun m fr σ=>∃ (k z:Nat),∃ gg:Nat→PD,(k+m=K∧(limbsS l k=[]∨z=1))∧fr=[.str l,gg 1,gg 2,.slice z ((limbsS l k).map u64e.emb) (outTok 0 (limbsS l k).length),.int .i64 ((l.length:Int) - 9*k),gg 5,gg 6,gg 7,gg 8,gg 9,gg 10,gg 11,gg 12,gg 13,gg 14,gg 15,gg 16,gg 17,gg 18,gg 19,gg 20,gg 21,gg 22,gg 23,gg 24,gg 25,gg 26,gg 27,gg 28,gg 29,gg 30,gg 31,gg 32,gg 33,gg 34,gg 35,gg 36,gg 37,gg 38]∧σ=St [] 148 1 (limbsS l k).length) ?_ (K) (by refine ⟨0,0,?_⟩;exact exF (⟨by omega,.inl rfl⟩) (by (first | rfl | (simp [limbsS,outTok];repeat (first | rfl | (apply And.intro))) | (simp [limbsS,outTok];done))) (by (first | rfl | (simp [limbsS,outTok];repeat (first | rfl | (apply And.intro))) | (simp [limbsS,outTok];done))))
 rintro m fr σ ⟨k,z,gg,hI,rfl,rfl⟩
 obtain ⟨hm,hz⟩:=hI
 by_cases hk:k < K
 ·have q1:(0:Int) < (l.length:Int) - 9*k:=by omega
  obtain ⟨b,hb⟩:=gn (l.length - 9*k)
  have eb:(l.length:Int) - 9*k=(b:Int):=by omega
  obtain ⟨a,ha⟩:=gn (b - 9)
  have hb0:0 < b:=by omega
  have hA:limbAt l k=limbN ((l.drop a).take (b - a)):=by unfold limbAt;rw [hb,ha]
  obtain ⟨C,hC⟩:=gn ((l.drop a).take (b - a))
  have hCl:C.length=b - a:=by rw [← hC,List.length_take,List.length_drop];omega
  have hCd:isDig C:=fun c hc=>hd c (by rw [← hC] at hc;exact List.mem_of_mem_drop (List.mem_of_mem_take hc))
  rw [hC] at hA
  rw [eb]
  have w1:IntKind.i64.wrap ((b:Int) - 9)=(b:Int) - 9:=by rw [IntKind.wrap_i64];omega
  have q2:(0:Int) < (b:Int):=by omega
  have hmx:(if (b:Int) - 9 < 0 then (0:Int) else (b:Int) - 9)=(a:Int):=by split <;> omega
  have gx:=An @q1 (An @q2 (An @hb0 (An @w1 (An @hmx (@hC)))))
  refine goA ?_
  clear gx
  obtain ⟨M,hM⟩:∃ M,M=m:=⟨_,rfl⟩
  rw [← hM] at hm ⊢
  clear hM
  have hl0:limbN (C.take 0)=0:=rfl
  refine Wp.loopI (fun m fr σ=>∃ (i:Nat),∃ gg:Nat→PD,(i+m=C.length)∧fr=[.str l,gg 1,gg 2,.slice z ((limbsS l k).map u64e.emb) (outTok 0 (limbsS l k).length),.int .i64 b,.int .u64 (limbN (C.take i):Nat),gg 6,gg 7,gg 8,gg 9,gg 10,gg 11,gg 12,gg 13,gg 14,gg 15,gg 16,gg 17,gg 18,gg 19,.slice 1 (C.map fun b=>.int .u8 b.toNat) .any,.int .i64 C.length,.int .i64 i,gg 23,gg 24,gg 25,gg 26,gg 27,gg 28,gg 29,gg 30,gg 31,gg 32,gg 33,gg 34,gg 35,gg 36,gg 37,gg 38]∧σ=St [] 148 1 (limbsS l k).length) ?_ (C.length) (by refine ⟨0,?_⟩;exact exF (by omega) (by (first | rfl | (simp [hl0];repeat (first | rfl | (apply And.intro))) | (simp [hl0];done))) (by (first | rfl | (simp [hl0];repeat (first | rfl | (apply And.intro))) | (simp [hl0];done))))
  rintro m fr σ ⟨i,gg,hI,rfl,rfl⟩
  have hm2:=hI
  by_cases hi:i < C.length
  ·have q3:(i:Int) < (C.length:Int):=by omega
   obtain ⟨c,hc⟩:=gn (C[i])
   have hcd:=hCd c (hc▸List.getElem_mem hi)
   have htk:C.take (i+1)=C.take i++[c]:=by rw [← hc];simp
   have hv:=limbN_lt i (C.take i) (by rw [List.length_take];omega) (fun x hx=>hCd x (List.mem_of_mem_take hx))
   have hv9:limbN (C.take i) < 10 ^ 9:=Nat.lt_of_lt_of_le hv (Nat.pow_le_pow_right (by decide) (by omega))
   have hsn:=limbN_snoc (C.take i) c
   rw [← htk] at hsn
   obtain ⟨v,hvv⟩:=gn (limbN (C.take i))
   rw [hvv] at hv9 hsn ⊢
   obtain ⟨n,hn⟩:=gn (c.toNat)
   rw [hn] at hcd hsn
   obtain ⟨d,hdd⟩:=gn (n - 48)
   rw [hdd] at hsn
   have y1:IntKind.u64.wrap (10*(v:Int))=10*(v:Int):=by rw [IntKind.wrap_u64];omega
   have y2:IntKind.u8.wrap ((n:Int) - 48)=(d:Int):=by simp only [IntKind.wrap,IntKind.bits,IntKind.signed];simp;omega
   have y3:IntKind.u64.wrap (d:Int)=(d:Int):=by rw [IntKind.wrap_u64];omega
   have y4:IntKind.u64.wrap (10*(v:Int)+(d:Int))=10*(v:Int)+(d:Int):=by rw [IntKind.wrap_u64];omega
   have gx:=An @q3 (An @hi (An @hc (An @hn (An @y1 (An @y2 (An @y3 (@y4)))))))
   refine goA ?_
   clear gx
   refine LoopI.normal (m - 1) (by omega) (by refine ⟨i+1,?_⟩;exact exF (by omega) (by (first | rfl | (simp [hsn];repeat (first | rfl | (apply And.intro))) | (simp [hsn];done))) (by (first | rfl | (simp [hsn];repeat (first | rfl | (apply And.intro))) | (simp [hsn];done))))
  ·have q3:¬ (i:Int) < (C.length:Int):=by omega
   obtain rfl:i=C.length:=by omega
   have hfull:limbN (C.take C.length)=limbAt l k:=by rw [hA,List.take_length]
   rw [hfull]
   have hls':=hls k
   have hsu':=hsu k
   have e9:(b:Int) - 9=(l.length:Int) - 9*((k:Int)+1):=by omega
   obtain ⟨LS,hLS⟩:=gn (limbsS l k)
   rw [hLS] at hls' hsu' hz ⊢
   have gx:=An @q3 (An @w1 (An @hz (@hls')))
   refine goA ?_
   clear gx
   refine LoopI.normal (M - 1) (by omega) (by refine ⟨k+1,1,?_⟩;exact exF (⟨by omega,.inr rfl⟩) (by (first | rfl | (simp [hsu',hls',e9];repeat (first | rfl | (apply And.intro))) | (simp [hsu',hls',e9];done))) (by (first | rfl | (simp [hsu',hls',e9];repeat (first | rfl | (apply And.intro))) | (simp [hsu',hls',e9];done))))
 ·have q1:¬ (0:Int) < (l.length:Int) - 9*k:=by omega
  obtain rfl:k=K:=by omega
  have hls':=hls k
  obtain ⟨LS,hLS⟩:=gn (limbsS l k)
  rw [hLS] at hls' hz ⊢
  have hg:=fun fl σ=>gTrim_slice fl z LS (outTok 0 LS.length) σ hz (by omega)
  have q4:¬ 9*(k:Int) < (l.length:Int):=by omega
  obtain ⟨T,hT⟩:=gn (trimN LS)
  have hTl:T≤LS.length:=hT▸trimN_le LS
  obtain ⟨tk,htk⟩:∃ t,(if T=LS.length then outTok 0 LS.length else .any)=t:=⟨_,rfl⟩
  rw [hT] at hg ⊢
  rw [htk] at hg
  obtain ⟨LT,hLT⟩:=gn (LS.take T)
  rw [hLT] at hg ⊢
  have hzs:LT=[]∨z=1:=hz.imp (fun h=>by rw [← hLT,h];simp) id
  have hst:PD.strip (.slice z (LT.map u64e.emb) tk)=(u64e.list 1).emb LT:=by
   rw [PD.strip_slice,show (LT.map u64e.emb).map PD.strip=LT.map u64e.emb by rw [List.map_map];exact List.map_congr_left fun x _=>u64e.str x]
   rcases hzs with h | h
   ·rw [h];rfl
   ·rw [h]
    show _=PD.slice (sz 1 LT) (LT.map u64e.emb) .any
    simp [sz]
  have gx:=An @q1 (An @q4 (An @h1 (@hg)))
  refine goA ?_
  clear gx
  exact ⟨_,_,rfl,hst⟩
end
end Go.Kz

namespace Go.Kz
open Go Go.Proofs
set_option maxRecDepth 100000
set_option maxHeartbeats 4000000
def u64w (x:Int):Int:=IntKind.u64.wrap x
def tIn (a:Int):List Int→Nat→List Int→Int→List Int×Int
 | [],_,o,c=>(o,c)
 | b::r,p,o,c=>tIn a r (p+1) (o.set p ((u64w (u64w (o.getD p 0+u64w (a*b))+c)).tmod 1000000000)) (u64w ((u64w (u64w (o.getD p 0+u64w (a*b))+c)).tdiv 1000000000))
def tOut (ns:List Int):List Int→Nat→List Int→List Int
 | [],_,o=>o
 | a::r,i,o=>tOut ns r (i+1) ((tIn a ns i o 0).1.set (i+ns.length) (u64w ((tIn a ns i o 0).1.getD (i+ns.length) 0+(tIn a ns i o 0).2)))
def timesS (m n:List Int):List Int:=(tOut n m 0 (List.replicate (m.length+n.length+1) 0)).take (trimN (tOut n m 0 (List.replicate (m.length+n.length+1) 0)))
theorem tIn_len (a:Int):∀ (r:List Int) (p:Nat) (o:List Int) (c:Int),(tIn a r p o c).1.length=o.length
 | [],_,_,_=>rfl
 | b::r,p,o,c=>by
   unfold tIn
   rw [tIn_len a r]
   simp
theorem elem_inf {P:Program} {e:TypeId} {n b:Nat} (h:pelem P e=some (n,b)):∃ i,P.info? e=some i∧i.size=n∧i.bytes=b:=by
 unfold pelem at h
 split at h
 ·rename_i i hi
  split at h
  ·split at h
   ·simp only [Option.some.injEq,Prod.mk.injEq] at h
    exact ⟨i,hi,h.1,h.2⟩
   ·cases h
  ·cases h
 ·cases h
theorem make_u64 (σ:List SObj) (n:Nat) (hn:n≤2000000):pmake Tryz.prog σ 248 148 n n=some (.sref σ.length 0 n 1,σ++[.box (.agg ((List.replicate n 0).map u64e.emb))]):=by
 obtain ⟨i,hi,h0,hb⟩:=elem_inf (P:=Tryz.prog) (e:=148) (n:=1) (b:=8) (by kernel_rfl)
 have h1:psize Tryz.prog 148=some 1:=by kernel_rfl
 have h2:pzero Tryz.prog 148=some (.int .u64 0):=by kernel_rfl
 have hz:pzeros (.int .u64 0) 1 n=(List.replicate n 0).map u64e.emb:=by
  refine List.ext_getElem? fun j=>?_
  by_cases hj:j < n
  ·simp [pzeros,PD.cells,hj,List.getElem?_replicate,Nat.mod_one,Em.int]
  ·rw [List.getElem?_eq_none (by simp [pzeros];omega),List.getElem?_eq_none (by simp;omega)]
 unfold pmake
 simp only [hi,h1,h2,hb]
 rw [if_pos ⟨Nat.le_refl _,by decide,rfl,rfl,by simp only [maxLen];omega,by omega⟩,if_neg (fun h=>h.2 h.1),if_pos trivial,if_pos (by decide),hz]
variable {E:PExt} (hU:Uni E)
include hU
theorem r_times1 (h0:E 167=none) (h1:E 192=some gTrim) (l r:List Int) (hl:l.length≤1000) (hr:r.length≤1000) :
  ∃ F,tOut r l 0 (List.replicate (l.length+r.length+1) 0)=F∧WpC Tryz.prog E 0 (.inl 167) [(u64e.list 1).emb l,(u64e.list 1).emb r] [] (fun p1 σ1=>p1=.sref 0 0 (trimN F) 1∧σ1=[.box (.agg (F.map u64e.emb))]):=by
 refine ⟨_,rfl,?_⟩
 obtain ⟨F,hF⟩:=gn (tOut r l 0 (List.replicate (l.length+r.length+1) 0))
 rw [hF]
 simp only [emb_list]
 have w1:IntKind.i64.wrap ((l.length:Int)+r.length)=(l.length:Int)+r.length:=by rw [IntKind.wrap_i64];omega
 have w2:IntKind.i64.wrap ((l.length:Int)+r.length+1)=(l.length:Int)+r.length+1:=by rw [IntKind.wrap_i64];omega
 obtain ⟨N,hN⟩:=gn (l.length+r.length+1)
 have hmk:=make_u64 [] N (by omega)
 have w3:((l.length:Int)+r.length+1).toNat=N:=by omega
 have w4:(0:Int)≤(l.length:Int)+r.length+1:=by omega
 rw [hN] at hF
 apply WpC.bodyL h0 Tryz.func167 rfl
 focus (simp [show Tryz.f167.ntmps=_ from rfl,List.replicate];rfl)
 have gx:=An @w1 (An @w2 (An @w3 (An @w4 (@hmk))))
 refine goA ?_
 clear gx
 refine Wp.loopI (fun m fr σ=>∃ (i:Nat) (o:List Int),∃ gg:Nat→PD,(i+m=l.length∧o.length=N∧tOut r (l.drop i) i o=F)∧fr=gg 0::.slice (sz 1 r) (r.map u64e.emb) .any::gg 2::gg 3::gg 4::.sref 0 0 N 1::gg 6::gg 7::gg 8::gg 9::gg 10::gg 11::gg 12::gg 13::gg 14::gg 15::gg 16::gg 17::gg 18::.slice (sz 1 l) (l.map u64e.emb) .any::.int .i64 l.length::.int .i64 i::gg 22::gg 23::gg 24::gg 25::gg 26::gg 27::gg 28::gg 29::gg 30::gg 31::gg 32::gg 33::gg 34::gg 35::gg 36::gg 37::gg 38::gg 39::gg 40::gg 41::gg 42::gg 43::gg 44::gg 45::gg 46::gg 47::gg 48::gg 49::gg 50::gg 51::gg 52::gg 53::gg 54::gg 55::gg 56::gg 57::gg 58::gg 59::gg 60::gg 61::gg 62::gg 63::gg 64::gg 65::gg 66::gg 67::[]∧σ=[.box (.agg (o.map u64e.emb))]) ?_ (l.length) (by refine ⟨0,List.replicate N 0,?_⟩;exact exF (⟨by omega,by simp,hF⟩) (by (first | rfl | (simp [];repeat (first | rfl | (apply And.intro))) | (simp [];done))) (by (first | rfl | (simp [];repeat (first | rfl | (apply And.intro))) | (simp [];done))))
 rintro m fr σ ⟨i,o,gg,hI,rfl,rfl⟩
 obtain ⟨hm,ho,hs⟩:=hI
 by_cases hi:i < l.length
 ·have q1:(i:Int) < (l.length:Int):=by omega
  obtain ⟨a,ha⟩:=gn (l[i])
  have hc1:l.drop i=a::l.drop (i+1):=by rw [List.drop_eq_getElem_cons hi,ha]
  rw [hc1] at hs
  unfold tOut at hs
  obtain ⟨Q,hQ⟩:=gn (tIn a r i o 0)
  rw [hQ] at hs
  have hQl:Q.1.length=N:=by rw [← hQ,tIn_len,ho]
  have gx:=An @q1 (An @hi (@ha))
  refine goA ?_
  clear gx
  obtain ⟨M,hM⟩:∃ M,M=m:=⟨_,rfl⟩
  rw [← hM] at hm ⊢
  clear hM
  refine Wp.loopI (fun m fr σ=>∃ (k:Nat) (o2:List Int) (c:Int),∃ gg:Nat→PD,(k+m=r.length∧o2.length=N∧tIn a (r.drop k) (i+k) o2 c=Q)∧fr=gg 0::.slice (sz 1 r) (r.map u64e.emb) .any::gg 2::gg 3::gg 4::.sref 0 0 N 1::.int .i64 i::.int .u64 a::.int .u64 c::gg 9::gg 10::gg 11::gg 12::gg 13::gg 14::gg 15::gg 16::gg 17::gg 18::.slice (sz 1 l) (l.map u64e.emb) .any::.int .i64 l.length::.int .i64 i::gg 22::gg 23::gg 24::gg 25::.slice (sz 1 r) (r.map u64e.emb) .any::.int .i64 r.length::.int .i64 k::gg 29::gg 30::gg 31::gg 32::gg 33::gg 34::gg 35::gg 36::gg 37::gg 38::gg 39::gg 40::gg 41::gg 42::gg 43::gg 44::gg 45::gg 46::gg 47::gg 48::gg 49::gg 50::gg 51::gg 52::gg 53::gg 54::gg 55::gg 56::gg 57::gg 58::gg 59::gg 60::gg 61::gg 62::gg 63::gg 64::gg 65::gg 66::gg 67::[]∧σ=[.box (.agg (o2.map u64e.emb))]) ?_ (r.length) (by refine ⟨0,o,0,?_⟩;exact exF (⟨by omega,ho,hQ⟩) (by (first | rfl | (simp [];repeat (first | rfl | (apply And.intro))) | (simp [];done))) (by (first | rfl | (simp [];repeat (first | rfl | (apply And.intro))) | (simp [];done))))
  rintro m fr σ ⟨k,o2,c,gg,hI,rfl,rfl⟩
  obtain ⟨hm2,ho2,hs2⟩:=hI
  by_cases hk:k < r.length
  ·have q2:(k:Int) < (r.length:Int):=by omega
   obtain ⟨b,hb⟩:=gn (r[k])
   have hc2:r.drop k=b::r.drop (k+1):=by rw [List.drop_eq_getElem_cons hk,hb]
   rw [hc2] at hs2
   unfold tIn at hs2
   obtain ⟨p,hp⟩:=gn (i+k)
   rw [hp] at hs2
   have hlt:p < o2.length:=by omega
   obtain ⟨v,hv⟩:=gn (o2[p])
   have hg:o2.getD p 0=v:=by rw [List.getD_eq_getElem?_getD,List.getElem?_eq_getElem hlt,hv];rfl
   rw [hg] at hs2
   have y0:IntKind.i64.wrap ((i:Int)+k)=(p:Int):=by rw [IntKind.wrap_i64];omega
   have hnk:p < N:=by omega
   obtain ⟨X,hX⟩:=gn (u64w (u64w (v+u64w (a*b))+c))
   rw [hX] at hs2
   unfold u64w at hX
   obtain ⟨Y,hY⟩:=gn (u64w (X.tdiv 1000000000))
   rw [hY] at hs2
   unfold u64w at hY
   obtain ⟨Z,hZ⟩:=gn (X.tmod 1000000000)
   rw [hZ] at hs2
   obtain ⟨A,hA⟩:=gn (o2.map u64e.emb)
   have hAn:A[p]?=some (.int .u64 v):=by rw [← hA,List.getElem?_map,List.getElem?_eq_getElem hlt,hv];rfl
   obtain ⟨hAl,hAe⟩:=List.getElem?_eq_some_iff.1 hAn
   have hAs:A.set p (.int .u64 Z)=(o2.set p Z).map u64e.emb:=by rw [← hA,List.map_set];rfl
   rw [hA]
   have hle:p+1≤A.length:=hAl
   have hAt:A.take p++PD.int .u64 Z::A.drop (p+1)=(o2.set p Z).map u64e.emb:=by
    rw [← hAs,List.set_eq_take_append_cons_drop,if_pos hAl]
   have hnx:i+(k+1)=p+1:=by omega
   have gx:=An @q2 (An @hk (An @hb (An @y0 (An @hnk (An @hAn (An @hAe (An @hX (An @hY (An @hZ (An @hAl (@hle)))))))))))
   refine goA ?_
   clear gx
   refine LoopI.normal (m - 1) (by omega) (by refine ⟨k+1,o2.set p Z,Y,?_⟩;exact exF (⟨by omega,by simp [ho2],by rw [hnx];exact hs2⟩) (by (first | rfl | (simp [hAt];repeat (first | rfl | (apply And.intro))) | (simp [hAt];done))) (by (first | rfl | (simp [hAt];repeat (first | rfl | (apply And.intro))) | (simp [hAt];done))))
  ·have q2:¬ (k:Int) < (r.length:Int):=by omega
   obtain rfl:k=r.length:=by omega
   rw [List.drop_length] at hs2
   unfold tIn at hs2
   subst hs2
   simp only at hs hQl
   obtain ⟨p,hp⟩:=gn (i+r.length)
   rw [hp] at hs
   have hlt:p < o2.length:=by omega
   obtain ⟨v,hv⟩:=gn (o2[p])
   have hg:o2.getD p 0=v:=by rw [List.getD_eq_getElem?_getD,List.getElem?_eq_getElem hlt,hv];rfl
   rw [hg] at hs
   have y0:IntKind.i64.wrap ((i:Int)+r.length)=(p:Int):=by rw [IntKind.wrap_i64];omega
   have hnk:p < N:=by omega
   obtain ⟨Z,hZ⟩:=gn (u64w (v+c))
   rw [hZ] at hs
   unfold u64w at hZ
   obtain ⟨A,hA⟩:=gn (o2.map u64e.emb)
   have hAn:A[p]?=some (.int .u64 v):=by rw [← hA,List.getElem?_map,List.getElem?_eq_getElem hlt,hv];rfl
   obtain ⟨hAl,hAe⟩:=List.getElem?_eq_some_iff.1 hAn
   have hAs:A.set p (.int .u64 Z)=(o2.set p Z).map u64e.emb:=by rw [← hA,List.map_set];rfl
   have hle:p+1≤A.length:=hAl
   have hAt:A.take p++PD.int .u64 Z::A.drop (p+1)=(o2.set p Z).map u64e.emb:=by
    rw [← hAs,List.set_eq_take_append_cons_drop,if_pos hAl]
   rw [hA]
   have gx:=An @q2 (An @y0 (An @hnk (An @hAn (An @hAe (An @hZ (An @hAl (@hle)))))))
   refine goA ?_
   clear gx
   refine LoopI.normal (M - 1) (by omega) (by refine ⟨i+1,o2.set p Z,?_⟩;exact exF (⟨by omega,by simp [ho2],hs⟩) (by (first | rfl | (simp [hAt];repeat (first | rfl | (apply And.intro))) | (simp [hAt];done))) (by (first | rfl | (simp [hAt];repeat (first | rfl | (apply And.intro))) | (simp [hAt];done))))
 ·have q1:¬ (i:Int) < (l.length:Int):=by omega
  rw [List.drop_of_length_le (by omega)] at hs
  unfold tOut at hs
  subst hs
  have hg:∀ fl,gTrim fl [.sref 0 0 N 1] [.box (.agg (o.map u64e.emb))]=some (.sref 0 0 (trimN o) 1,[.box (.agg (o.map u64e.emb))]):=fun fl=>by
   unfold gTrim
   simp only [List.getElem?_cons_zero,List.drop_zero]
   rw [List.take_of_length_le (by simp [ho]),u64s_emb]
   simp only
   rw [if_pos ⟨ho,by omega⟩]
  have gx:=An @q1 (An @h1 (@hg))
  refine goA ?_
  clear gx
  exact ⟨_,_,rfl,rfl,rfl⟩
end Go.Kz

namespace Go.Kz
open Go Go.Proofs
set_option maxRecDepth 100000
set_option maxHeartbeats 4000000
theorem gTrim_uni {E:PExt} (hU:Uni E):Uni (E.add 192 gTrim):=by
 intro f' g' args p hf hg fl σ
 unfold PExt.add at hf
 split at hf
 ·simp only [Option.some.injEq] at hf
  subst hf
  unfold gTrim at hg ⊢
  split at hg
  ·rename_i z xs tok
   split at hg
   ·rename_i l hl
    split at hg
    ·rename_i hc
     simp only [Option.some.injEq,Prod.mk.injEq] at hg
     rw [if_pos hc,hg.1]
    ·cases hg
   ·cases hg
  ·simp at hg
  ·cases hg
 ·exact hU f' g' args p hf hg fl σ
def isDigB (l:List UInt8):Bool:=l.all fun c=>decide (48≤c.toNat)&&decide (c.toNat≤57)
theorem isDigB_ok {l:List UInt8} (h:isDigB l=true):isDig l:=fun c hc=>by
 have:=List.all_eq_true.1 h c hc
 simpa using this
def gLg:List PD→Option PD:=fun args=>match args with
 | [.str s]=>if isDigB s=true∧s.length≤1000 then some (.slice (if (longS s).length=0 then 0 else 1) ((longS s).map u64e.emb) .any) else none
 | _=>none
def gTm:List PD→Option PD:=fun args=>match args with
 | [.slice z1 xs _,.slice z2 ys _]=>match u64s xs,u64s ys with
   | some l,some r=>if (l.length=0∨z1=1)∧(r.length=0∨z2=1)∧l.length≤1000∧r.length≤1000 then some (.slice (if (timesS l r).length=0 then 0 else 1) ((timesS l r).map u64e.emb) .any) else none
   | _,_=>none
 | _=>none
theorem strip_u64 {z:Nat} {l:List Int} {tok:Tok} (h:l.length=0∨z=1):PD.strip (.slice z (l.map u64e.emb) tok)=(u64e.list 1).emb l:=by
 rw [PD.strip_slice,show (l.map u64e.emb).map PD.strip=l.map u64e.emb by rw [List.map_map];exact List.map_congr_left fun x _=>u64e.str x]
 rcases h with h | h
 ·rw [List.eq_nil_of_length_eq_zero h];rfl
 ·rw [h]
  show _=PD.slice (sz 1 l) (l.map u64e.emb) .any
  simp [sz]
theorem emb_u64 (l:List Int):(u64e.list 1).emb l=.slice (if l.length=0 then 0 else 1) (l.map u64e.emb) .any:=rfl
theorem thaw_u64 (σ:List SObj) (k:Nat):∀ l:List Int,(l.map u64e.emb).map (thaw σ k)=l.map u64e.emb
 | []=>rfl
 | x::l=>by
   rw [List.map_cons,List.map_cons,thaw_u64 σ k l]
   cases k <;> rfl
theorem thaw_times (F:List Int) (n:Nat) (hn:n≤F.length):thaw [.box (.agg (F.map u64e.emb))] 2 (.sref 0 0 n 1)=.slice 1 ((F.take n).map u64e.emb) .any:=by
 simp only [thaw,List.getElem?_cons_zero,PD.cells,List.length_map,List.drop_zero]
 rw [if_pos (by omega),thaw_u64]
 simp [pch,List.map_take]
noncomputable def Mg0:PExt:=fun _=>none
theorem Mg0_ok:ExtOk Tryz.prog Mg0:=fun _ hg=>by cases hg
noncomputable def Mg1:PExt:=Mg0.add 192 gTrim
theorem Mg1_ok:ExtOk Tryz.prog Mg1:=lib_trim Uni.none Mg0_ok rfl
theorem Mg1_uni:Uni Mg1:=gTrim_uni Uni.none
noncomputable def Mg2:PExt:=Mg1.add 186 (entry gLg)
theorem Mg2_ok:ExtOk Tryz.prog Mg2:=Mg1_ok.addFree (by kernel_rfl) fun args p hg=>by
 unfold gLg at hg
 split at hg
 ·rename_i s
  split at hg
  ·rename_i hc
   simp only [Option.some.injEq] at hg
   subst hg
   obtain ⟨p1,σ1,e1,e2⟩:=r_long Mg1_uni rfl rfl s hc.2 (isDigB_ok hc.1)
   refine ⟨p1,σ1,e1,by rw [e2];exact emb_u64 _,rfl,?_⟩
   have:=(u64e.list 1).fre (longS s)
   rw [emb_u64] at this
   exact this
  ·cases hg
 ·cases hg
noncomputable def Mg3:PExt:=Mg1.add 167 (entry gTm)
theorem Mg3_ok:ExtOk Tryz.prog Mg3:=Mg1_ok.addFreeT (by kernel_rfl) fun args p hg=>by
 unfold gTm at hg
 split at hg
 ·rename_i z1 xs t1 z2 ys t2
  split at hg
  ·rename_i l r hl hr
   split at hg
   ·rename_i hc
    obtain ⟨c1,c2,c3,c4⟩:=hc
    simp only [Option.some.injEq] at hg
    subst hg
    rw [u64s_of hl,u64s_of hr]
    simp only [List.map_cons,List.map_nil]
    rw [strip_u64 c1,strip_u64 c2]
    obtain ⟨F,hF,hw⟩:=r_times1 Mg1_uni rfl rfl l r c3 c4
    refine ⟨2,_,_,WpC.ex2 hw,?_,?_,?_⟩
    ·rw [thaw_times F _ (trimN_le F),strip_u64 (.inr rfl)]
     show _=(u64e.list 1).emb (timesS l r)
     unfold timesS
     rw [hF]
    ·rw [thaw_times F _ (trimN_le F)]
     have:=(u64e.list 1).fre (F.take (trimN F))
     rw [emb_u64] at this
     exact this
    ·have h1:=(u64e.list 1).fre l
     have h2:=(u64e.list 1).fre r
     simp only [PD.idfreeL,h1,h2,Bool.and_self]
   ·cases hg
  ·cases hg
 ·cases hg
noncomputable def Bs6:PExt:=Bs5.add 186 (entry gLg)
theorem Bs6_ok:ExtOk Tryz.prog Bs6:=ExtOk.pick Mg2_ok Bs5_ok rfl
noncomputable def Bs7:PExt:=Bs6.add 167 (entry gTm)
theorem Bs7_ok:ExtOk Tryz.prog Bs7:=ExtOk.pick Mg3_ok Bs6_ok rfl
end Go.Kz

namespace Go.Kz
open Go Go.Proofs Go.RowKit
set_option maxRecDepth 100000
def gItc:List PD→Option PD:=fun args=>match args with
 | [.int .i64 n]=>if -9223372036854775808≤n∧n≤9223372036854775807 then some (.str (Lib.itoa n)) else none
 | _=>none
theorem lib_Itc {E:PExt} (hE:ExtOk Tryz.prog E):ExtOk Tryz.prog (E.add 169 (entry gItc)):=by
 refine hE.addLib ⟨_,Tryz.func169,rfl⟩ fun args c vs p hg hs hv=>?_
 unfold gItc at hg
 split at hg
 ·rename_i n
  split at hg
  ·rename_i hc
   obtain ⟨h0,h1⟩:=hc
   simp only [Option.some.injEq] at hg
   subst hg
   obtain ⟨v,rfl,h2⟩:=vrs_one hv
   rw [h2.int_eq]
   obtain ⟨⟨cs,T,fz,hheap,hh⟩,_⟩:=hs.glob.2 1 rfl
   have hcs:=hh.1 .u64 _ rfl
   have htab:Lib.TabIs Tryz.prog c.w "internal/strconv.uint64pow10" .u64 Lib.pow10Tab:=by
    unfold Lib.TabIs World.var?
    have hg:Tryz.prog.globalNamed "internal/strconv.uint64pow10" = some 1:=by kernel_rfl
    rw [hg]
    simp only [Option.bind_some,hheap]
    rw [hcs]
    rfl
   refine Calls.mono (Tryz.strconv_Itoa n h0 h1 c.w htab) fun e w' he=>?_
   obtain ⟨rfl,k,os,rfl⟩:=he
   exact ⟨_,rfl,⟨rfl,rfl,rfl,by simp [Go.Sort.grow],fun i hi _=>by simp [Go.Sort.grow,Array.getElem?_append,hi]⟩,fun _=>.str _⟩
  ·cases hg
 ·cases hg
noncomputable def Bs8:PExt:=Bs7.add 169 (entry gItc)
theorem Bs8_ok:ExtOk Tryz.prog Bs8:=lib_Itc Bs7_ok
end Go.Kz
