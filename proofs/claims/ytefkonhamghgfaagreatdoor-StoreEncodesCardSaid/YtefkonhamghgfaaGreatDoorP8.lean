/-
  Part P8 of the way: an interpreter over pure data, its soundness, walks through functions.
-/
import Derived.Shelf.Strings.Builder1
import Derived.Shelf.Strings.Builder2
import Derived.Shelf.Small.Strs
import Derived.Shelf.Strings.BuilderF
import Derived.Shelf.Strings.BuilderK
import Derived.Shelf.Strconv.Itoa0
import Derived.Shelf.Strconv.Itoa1
import Derived.Shelf.LaysM
import Derived.Shelf.Strconv.Itoa2
import Derived.Shelf.Strconv.Itoa3
import Derived.Shelf.Strings.Prefix
import Derived.Shelf.Bits.Mul64
import Derived.Shelf.Strings.Repeat
import Derived.Test.YtefkonhamghgfaaGreatDoorProg
import Derived.Test.YtefkonhamghgfaaGreatDoorP4
import Derived.Shelf.RegionOpen
import Derived.Lib.AppendIntMem
set_option linter.all false

set_option maxHeartbeats 40000000
open Go.Proofs.Tryz
noncomputable section
namespace Go.Proofs
open Go.Shelf
def Tryz.aEh:Go.Shelf.Ren:=⟨fun|169=>191|n=>n,fun|70=>270|9=>9|0=>0|72=>272|37=>30|127=>287|3=>3|5=>5|n=>n,fun|n=>n⟩
theorem Tryz.aEf:Go.Proofs.Lays.n169 prog Tryz.aEh:={
 mixed:=by kernel_rfl
 f169:=func191.trans (congrArg some (by kernel_rfl))
 t0:=underlying0
 a0:=Tryz.isAgg0
 z0:=Tryz.sizeOf0
 v0:=Tryz.zeroValue0
 t3:=underlying3
 a3:=Tryz.isAgg3
 z3:=Tryz.sizeOf3
 v3:=Tryz.zeroValue3
 t9:=underlying9
 a9:=Tryz.isAgg9
 z9:=Tryz.sizeOf9
 v9:=Tryz.zeroValue9
 t37:=underlying30
 a37:=Tryz.isAgg30
 z37:=Tryz.sizeOf30
 v37:=Tryz.zeroValue30
 t70:=underlying270
 a70:=Tryz.isAgg270
 z70:=Tryz.sizeOf270
 v70:=Tryz.zeroValue270
 t72:=underlying272
 a72:=Tryz.isAgg272
 z72:=Tryz.sizeOf272
 v72:=Tryz.zeroValue272
 t127:=underlying287
 a127:=Tryz.isAgg287
 z127:=Tryz.sizeOf287
 v127:=Tryz.zeroValue287 }
theorem Tryz.aOk:Builder.Extra prog Tryz.aEh:={
 sizeBuilder:=by kernel_rfl
 liesBuilder:=by kernel_rfl
 t5:=underlying5
 a5:=Tryz.isAgg5
 z5:=Tryz.sizeOf5
 v5:=Tryz.zeroValue5
 infoByte:=by kernel_rfl
 cellsByte:=by kernel_rfl
 sizeByte:=by kernel_rfl
 neB5:=by decide }
def Tryz.aOq:Go.Shelf.Ren:=⟨fun|106=>173|213=>196|265=>209|n=>n,fun|9=>9|3=>3|n=>n,fun|n=>n⟩
theorem Tryz.aOr:Go.Proofs.Lays.n106 prog Tryz.aOq:={
 mixed:=by kernel_rfl
 f106:=func173.trans (congrArg some (by kernel_rfl))
 f213:=func196.trans (congrArg some (by kernel_rfl))
 f265:=func209.trans (congrArg some (by kernel_rfl))
 t3:=underlying3
 a3:=Tryz.isAgg3
 z3:=Tryz.sizeOf3
 v3:=Tryz.zeroValue3
 t9:=underlying9
 a9:=Tryz.isAgg9
 z9:=Tryz.sizeOf9
 v9:=Tryz.zeroValue9 }
open Go.RowKit in
theorem Tryz.strings_Compare(a b:ByteArray)(w:World) :
  Calls prog 173 #[.string a,.string b] w fun e w'=>e=.returned (.int .i64 (Lib.compareBytes a.data.toList b.data.toList))/\w'=w:=Any.strings_Compare Tryz.aOr a b w
def Tryz.aOs:Go.Shelf.Ren:=⟨fun|283=>214|n=>n,fun|3=>3|9=>9|4=>4|n=>n,fun|n=>n⟩
theorem Tryz.aOt:Go.Proofs.Lays.n283 prog Tryz.aOs:={
 mixed:=by kernel_rfl
 f283:=func214.trans (congrArg some (by kernel_rfl))
 t3:=underlying3
 a3:=Tryz.isAgg3
 z3:=Tryz.sizeOf3
 v3:=Tryz.zeroValue3
 t4:=underlying4
 a4:=Tryz.isAgg4
 z4:=Tryz.sizeOf4
 v4:=Tryz.zeroValue4
 t9:=underlying9
 a9:=Tryz.isAgg9
 z9:=Tryz.sizeOf9
 v9:=Tryz.zeroValue9 }
open Go.Lib in
theorem Tryz.internal_strconv_small(i:Nat)(h:i<100)(w:World) :
  Calls prog 214 #[.int .i64 i] w fun e w'=>e=.returned (.string ⟨(Lib.decDigits i).toArray⟩)/\w'=w:=Any.internal_strconv_small Tryz.aOt i h w
def Tryz.aOu:Go.Shelf.Ren:=⟨fun|284=>215|129=>223|317=>222|318=>224|n=>n,fun|53=>148|3=>3|212=>306|0=>0|4=>4|46=>137|5=>5|9=>9|n=>n,fun|17=>1|n=>n⟩
theorem Tryz.aOv:Go.Proofs.LaysM.n284 prog Tryz.aOu:={
 mixed:=by kernel_rfl
 f129:=func223.trans (congrArg some (by kernel_rfl))
 f284:=func215.trans (congrArg some (by kernel_rfl))
 f317:=func222.trans (congrArg some (by kernel_rfl))
 f318:=func224.trans (congrArg some (by kernel_rfl))
 t0:=underlying0
 a0:=Tryz.isAgg0
 z0:=Tryz.sizeOf0
 v0:=Tryz.zeroValue0
 t3:=underlying3
 a3:=Tryz.isAgg3
 z3:=Tryz.sizeOf3
 v3:=Tryz.zeroValue3
 t4:=underlying4
 a4:=Tryz.isAgg4
 z4:=Tryz.sizeOf4
 v4:=Tryz.zeroValue4
 t5:=underlying5
 a5:=Tryz.isAgg5
 z5:=Tryz.sizeOf5
 v5:=Tryz.zeroValue5
 t9:=underlying9
 a9:=Tryz.isAgg9
 z9:=Tryz.sizeOf9
 v9:=Tryz.zeroValue9
 t46:=underlying137
 a46:=Tryz.isAgg137
 z46:=Tryz.sizeOf137
 v46:=Tryz.zeroValue137
 t53:=underlying148
 a53:=Tryz.isAgg148
 z53:=Tryz.sizeOf148
 v53:=Tryz.zeroValue148
 t212:=underlying306
 a212:=Tryz.isAgg306
 z212:=Tryz.sizeOf306
 v212:=Tryz.zeroValue306
 g17:=by kernel_rfl
 i0:=by kernel_rfl
 i3:=by kernel_rfl
 i4:=by kernel_rfl
 i5:=by kernel_rfl
 i9:=by kernel_rfl
 i46:=by kernel_rfl
 i53:=by kernel_rfl
 i212:=by kernel_rfl
 m17:=by kernel_rfl }
open Go.Lib in
theorem Tryz.internal_strconv_numDigits(u:Nat)(h1:1<=u)(h2:u<18446744073709551616)(w:World)(htab:Lib.TabIs prog w "internal/strconv.uint64pow10" .u64 Lib.pow10Tab) :
  Calls prog 215 #[.int .u64 u] w fun e w'=>e=.returned (.int .i64 (Lib.nDigits u))/\w'=w:=Any.internal_strconv_numDigits Tryz.aOv u h1 h2 w htab
def Tryz.aOw:Go.Shelf.Ren:=⟨fun|285=>216|n=>n,fun|37=>30|53=>148|3=>3|4=>4|51=>59|9=>9|5=>5|0=>0|n=>n,fun|n=>n⟩
theorem Tryz.aOx:Go.Proofs.Lays.n285 prog Tryz.aOw:={
 mixed:=by kernel_rfl
 f285:=func216.trans (congrArg some (by kernel_rfl))
 t0:=underlying0
 a0:=Tryz.isAgg0
 z0:=Tryz.sizeOf0
 v0:=Tryz.zeroValue0
 t3:=underlying3
 a3:=Tryz.isAgg3
 z3:=Tryz.sizeOf3
 v3:=Tryz.zeroValue3
 t4:=underlying4
 a4:=Tryz.isAgg4
 z4:=Tryz.sizeOf4
 v4:=Tryz.zeroValue4
 t5:=underlying5
 a5:=Tryz.isAgg5
 z5:=Tryz.sizeOf5
 v5:=Tryz.zeroValue5
 t9:=underlying9
 a9:=Tryz.isAgg9
 z9:=Tryz.sizeOf9
 v9:=Tryz.zeroValue9
 t37:=underlying30
 a37:=Tryz.isAgg30
 z37:=Tryz.sizeOf30
 v37:=Tryz.zeroValue30
 t51:=underlying59
 a51:=Tryz.isAgg59
 z51:=Tryz.sizeOf59
 v51:=Tryz.zeroValue59
 t53:=underlying148
 a53:=Tryz.isAgg148
 z53:=Tryz.sizeOf148
 v53:=Tryz.zeroValue148 }
open Go.RowKit Go.Sort Go.Lib in
theorem Tryz.internal_strconv_formatBase10(aV off cap:Nat)(u:Nat)(d:Array UInt8)(w:World)(hH:Holds (fun(b:UInt8)=>Value.int .u8 (b.toNat:Int)) w aV off d)(hu:u<10^d.size)(hu64:u<18446744073709551616)(hsz:d.size<4611686018427387904) :
  Calls prog 216 #[.slice (some ⟨aV,off,none⟩) d.size cap,.int .u64 u] w fun e w'=>
   e=.returned (.tuple #[])/\∃(n v':Nat) (dk:Array UInt8),w'=(putRow (fun(b:UInt8)=>Value.int .u8 (b.toNat:Int)) w aV off dk).drewN n/\FmtInv d.size u 0 v' dk:=Any.internal_strconv_formatBase10 Tryz.aOx aV off cap u d w hH hu hu64 hsz
def Tryz.aOy:Go.Shelf.Ren:=⟨fun|171=>169|243=>193|246=>207|283=>214|284=>215|285=>216|286=>217|129=>223|317=>222|318=>224|319=>225|320=>226|337=>228|338=>229|n=>n,fun|3=>3|9=>9|2=>2|4=>4|171=>293|0=>0|53=>148|37=>30|5=>5|173=>296|212=>306|51=>59|20=>20|213=>307|46=>137|232=>310|233=>311|n=>n,fun|17=>1|18=>2|19=>3|n=>n⟩
theorem Tryz.aOz:Go.Proofs.LaysM.n171 prog Tryz.aOy:={
 mixed:=by kernel_rfl
 f129:=func223.trans (congrArg some (by kernel_rfl))
 f171:=func169.trans (congrArg some (by kernel_rfl))
 f243:=func193.trans (congrArg some (by kernel_rfl))
 f246:=func207.trans (congrArg some (by kernel_rfl))
 f283:=func214.trans (congrArg some (by kernel_rfl))
 f284:=func215.trans (congrArg some (by kernel_rfl))
 f285:=func216.trans (congrArg some (by kernel_rfl))
 f286:=func217.trans (congrArg some (by kernel_rfl))
 f317:=func222.trans (congrArg some (by kernel_rfl))
 f318:=func224.trans (congrArg some (by kernel_rfl))
 f319:=func225.trans (congrArg some (by kernel_rfl))
 f320:=func226.trans (congrArg some (by kernel_rfl))
 f337:=func228.trans (congrArg some (by kernel_rfl))
 f338:=func229.trans (congrArg some (by kernel_rfl))
 t0:=underlying0
 a0:=Tryz.isAgg0
 z0:=Tryz.sizeOf0
 v0:=Tryz.zeroValue0
 t2:=underlying2
 a2:=Tryz.isAgg2
 z2:=Tryz.sizeOf2
 v2:=Tryz.zeroValue2
 t3:=underlying3
 a3:=Tryz.isAgg3
 z3:=Tryz.sizeOf3
 v3:=Tryz.zeroValue3
 t4:=underlying4
 a4:=Tryz.isAgg4
 z4:=Tryz.sizeOf4
 v4:=Tryz.zeroValue4
 t5:=underlying5
 a5:=Tryz.isAgg5
 z5:=Tryz.sizeOf5
 v5:=Tryz.zeroValue5
 t9:=underlying9
 a9:=Tryz.isAgg9
 z9:=Tryz.sizeOf9
 v9:=Tryz.zeroValue9
 t20:=underlying20
 a20:=Tryz.isAgg20
 z20:=Tryz.sizeOf20
 v20:=Tryz.zeroValue20
 t37:=underlying30
 a37:=Tryz.isAgg30
 z37:=Tryz.sizeOf30
 v37:=Tryz.zeroValue30
 t46:=underlying137
 a46:=Tryz.isAgg137
 z46:=Tryz.sizeOf137
 v46:=Tryz.zeroValue137
 t51:=underlying59
 a51:=Tryz.isAgg59
 z51:=Tryz.sizeOf59
 v51:=Tryz.zeroValue59
 t53:=underlying148
 a53:=Tryz.isAgg148
 z53:=Tryz.sizeOf148
 v53:=Tryz.zeroValue148
 t171:=underlying293
 a171:=Tryz.isAgg293
 z171:=Tryz.sizeOf293
 v171:=Tryz.zeroValue293
 t173:=underlying296
 a173:=Tryz.isAgg296
 z173:=Tryz.sizeOf296
 v173:=Tryz.zeroValue296
 t212:=underlying306
 a212:=Tryz.isAgg306
 z212:=Tryz.sizeOf306
 v212:=Tryz.zeroValue306
 t213:=underlying307
 a213:=Tryz.isAgg307
 z213:=Tryz.sizeOf307
 t232:=underlying310
 a232:=Tryz.isAgg310
 z232:=Tryz.sizeOf310
 v232:=Tryz.zeroValue310
 t233:=underlying311
 a233:=Tryz.isAgg311
 z233:=Tryz.sizeOf311
 v233:=Tryz.zeroValue311
 g17:=by kernel_rfl
 g18:=by kernel_rfl
 g19:=by kernel_rfl
 i0:=by kernel_rfl
 i2:=by kernel_rfl
 i3:=by kernel_rfl
 i4:=by kernel_rfl
 i5:=by kernel_rfl
 i9:=by kernel_rfl
 i20:=by kernel_rfl
 i37:=by kernel_rfl
 i46:=by kernel_rfl
 i51:=by kernel_rfl
 i53:=by kernel_rfl
 i171:=by kernel_rfl
 i173:=by kernel_rfl
 i212:=by kernel_rfl
 i232:=by kernel_rfl
 i233:=by kernel_rfl
 m17:=by kernel_rfl
 m18:=by kernel_rfl
 m19:=by kernel_rfl }
open Go.RowKit Go.Sort Go.Lib in
theorem Tryz.strconv_Itoa(n:Int)(h0:-9223372036854775808<=n)(h1:n<=9223372036854775807)(w:World)(htab:Lib.TabIs prog w "internal/strconv.uint64pow10" .u64 Lib.pow10Tab) :
  Calls prog 169 #[.int .i64 n] w fun e w'=>e=.returned (.string ⟨(Lib.itoa n).toArray⟩)/\∃k os,w'=grow (w.drewN k) os:=Any.strconv_Itoa Tryz.aOz n h0 h1 w htab
def Tryz.aEi:Go.Shelf.Ren:=⟨fun|105=>190|212=>204|99=>194|165=>205|166=>189|170=>206|169=>191|263=>219|264=>220|206=>208|240=>203|241=>221|276=>218|277=>227|n=>n,fun|9=>9|3=>3|4=>4|20=>20|0=>0|46=>137|109=>285|5=>5|72=>272|76=>279|51=>59|146=>300|53=>148|148=>302|70=>270|37=>30|75=>278|127=>287|164=>298|80=>156|n=>n,fun|n=>n⟩
theorem Tryz.aOA:Go.Proofs.Lays.n105 prog Tryz.aEi:={
 mixed:=by kernel_rfl
 f99:=func194.trans (congrArg some (by kernel_rfl))
 f105:=func190.trans (congrArg some (by kernel_rfl))
 f165:=func205.trans (congrArg some (by kernel_rfl))
 f166:=func189.trans (congrArg some (by kernel_rfl))
 f169:=func191.trans (congrArg some (by kernel_rfl))
 f170:=func206.trans (congrArg some (by kernel_rfl))
 f206:=func208.trans (congrArg some (by kernel_rfl))
 f212:=func204.trans (congrArg some (by kernel_rfl))
 f240:=func203.trans (congrArg some (by kernel_rfl))
 f241:=func221.trans (congrArg some (by kernel_rfl))
 f263:=func219.trans (congrArg some (by kernel_rfl))
 f264:=func220.trans (congrArg some (by kernel_rfl))
 f276:=func218.trans (congrArg some (by kernel_rfl))
 f277:=func227.trans (congrArg some (by kernel_rfl))
 t0:=underlying0
 a0:=Tryz.isAgg0
 z0:=Tryz.sizeOf0
 v0:=Tryz.zeroValue0
 t3:=underlying3
 a3:=Tryz.isAgg3
 z3:=Tryz.sizeOf3
 v3:=Tryz.zeroValue3
 t4:=underlying4
 a4:=Tryz.isAgg4
 z4:=Tryz.sizeOf4
 v4:=Tryz.zeroValue4
 t5:=underlying5
 a5:=Tryz.isAgg5
 z5:=Tryz.sizeOf5
 v5:=Tryz.zeroValue5
 t9:=underlying9
 a9:=Tryz.isAgg9
 z9:=Tryz.sizeOf9
 v9:=Tryz.zeroValue9
 t20:=underlying20
 a20:=Tryz.isAgg20
 z20:=Tryz.sizeOf20
 v20:=Tryz.zeroValue20
 t37:=underlying30
 a37:=Tryz.isAgg30
 z37:=Tryz.sizeOf30
 v37:=Tryz.zeroValue30
 t46:=underlying137
 a46:=Tryz.isAgg137
 z46:=Tryz.sizeOf137
 v46:=Tryz.zeroValue137
 t51:=underlying59
 a51:=Tryz.isAgg59
 z51:=Tryz.sizeOf59
 v51:=Tryz.zeroValue59
 t53:=underlying148
 a53:=Tryz.isAgg148
 z53:=Tryz.sizeOf148
 v53:=Tryz.zeroValue148
 t70:=underlying270
 a70:=Tryz.isAgg270
 z70:=Tryz.sizeOf270
 v70:=Tryz.zeroValue270
 t72:=underlying272
 a72:=Tryz.isAgg272
 z72:=Tryz.sizeOf272
 v72:=Tryz.zeroValue272
 t75:=underlying278
 a75:=Tryz.isAgg278
 z75:=Tryz.sizeOf278
 v75:=Tryz.zeroValue278
 t76:=underlying279
 a76:=Tryz.isAgg279
 z76:=Tryz.sizeOf279
 v76:=Tryz.zeroValue279
 t109:=underlying285
 a109:=Tryz.isAgg285
 z109:=Tryz.sizeOf285
 v109:=Tryz.zeroValue285
 t127:=underlying287
 a127:=Tryz.isAgg287
 z127:=Tryz.sizeOf287
 v127:=Tryz.zeroValue287
 t146:=underlying300
 a146:=Tryz.isAgg300
 z146:=Tryz.sizeOf300
 v146:=Tryz.zeroValue300
 t148:=underlying302
 a148:=Tryz.isAgg302
 z148:=Tryz.sizeOf302
 v148:=Tryz.zeroValue302
 t164:=underlying298
 a164:=Tryz.isAgg298
 z164:=Tryz.sizeOf298
 v164:=Tryz.zeroValue298 }
theorem Tryz.aOB:Builder.Extra prog Tryz.aEi:={
 sizeBuilder:=by kernel_rfl
 liesBuilder:=by kernel_rfl
 t5:=underlying5
 a5:=Tryz.isAgg5
 z5:=Tryz.sizeOf5
 v5:=Tryz.zeroValue5
 infoByte:=by kernel_rfl
 cellsByte:=by kernel_rfl
 sizeByte:=by kernel_rfl
 neB5:=by decide }
open Go.RowKit Go.Lib in
theorem Tryz.strings_Repeat(s:ByteArray)(c:Nat)(w:World)(hc:c<=9223372036854775807)(hlen:s.size*c<=140737488355328) :
  Calls prog 190 #[.string s,.int .i64 c] w fun e w'=>e=.returned (.string ⟨(Lib.repeatL s.data.toList c).toArray⟩)/\Below w.heap.size w w':=Any.strings_Repeat Tryz.aOA Tryz.aOB s c w hc hlen
end Go.Proofs
namespace Go.Proofs
open Go Go.RowKit
def Tryz.aEc:Go.Shelf.Ren:=⟨fun|240=>203|276=>218|n=>n,fun|70=>270|72=>272|37=>30|164=>298|n=>n,fun|n=>n⟩
theorem Tryz.aEd:Go.Proofs.Lays.n240 prog Tryz.aEc:={
 mixed:=by kernel_rfl
 f240:=func203.trans (congrArg some (by kernel_rfl))
 f276:=func218.trans (congrArg some (by kernel_rfl))
 t0:=underlying0
 a0:=Tryz.isAgg0
 z0:=Tryz.sizeOf0
 v0:=Tryz.zeroValue0
 t4:=underlying4
 a4:=Tryz.isAgg4
 z4:=Tryz.sizeOf4
 v4:=Tryz.zeroValue4
 t9:=underlying9
 a9:=Tryz.isAgg9
 z9:=Tryz.sizeOf9
 v9:=Tryz.zeroValue9
 t20:=underlying20
 a20:=Tryz.isAgg20
 z20:=Tryz.sizeOf20
 v20:=Tryz.zeroValue20
 t70:=underlying270
 a70:=Tryz.isAgg270
 z70:=Tryz.sizeOf270
 v70:=Tryz.zeroValue270
 t72:=underlying272
 a72:=Tryz.isAgg272
 z72:=Tryz.sizeOf272
 v72:=Tryz.zeroValue272
 t164:=underlying298
 a164:=Tryz.isAgg298
 z164:=Tryz.sizeOf298
 v164:=Tryz.zeroValue298 }
theorem Tryz.aEe:Builder.X72 prog Tryz.aEc:={
 sizeBuilder:=by kernel_rfl
 liesBuilder:=by kernel_rfl }
section
set_option maxRecDepth 100000
theorem Tryz.aOj(b g cap n:Nat)(p:Value)(cur:Array Value)(fz:Nat×Nat)(l:List UInt8)(w:World)(hl:l.length=n)(h0:n≠0)(hb:w.heap[b]?=some (.cells #[p,.slice (some ⟨g,0,none⟩) n cap] 272 (0,0)))
  (hg:w.heap[g]?=some (.cells cur 5 fz)) (hnc:n<=cap) (hcm:cap<=maxLen) (hcs:cur.size=cap) (hcur:∀(j:Nat) (x:UInt8),l[j]?=some x->cur[j]?=some (.int .u8 x.toNat)) :
  Calls prog 191 #[.pointer (some ⟨b,0,none⟩)] w fun e w'=>e=.returned (.string ⟨l.toArray⟩)/\w'=w.drew.freeze ⟨g,0,none⟩ n:=by
 subst hl
 have c1:w.drew.cell? ⟨b,1,none⟩=some (.slice (some ⟨g,0,none⟩) l.length cap):=by
  have hb':w.drew.heap[b]?=_:=hb
  simp[World.cell?,hb']
 have hSD:=Lib.run_unsafeSliceData_row (P:=prog) w.drew #[30] 287 ⟨g,0,none⟩ l.length cap (by omega)
 have hUS:(Builtin.unsafeString_ #[287,3] 9 #[.pointer (some ⟨g,0,none⟩),.int .i64 l.length]).run prog w.drew=.ok (.string ⟨l.toArray⟩) (w.drew.freeze ⟨g,0,none⟩ l.length):=by
  refine Lib.run_unsafeString_row w.drew 287 3 9 5 underlying287 Tryz.aOk.cellsByte g cur.size (by have hg':w.drew.heap[g]?=_:=hg;simp[World.shape?,hg']) l (by intro e;rw[e]at h0;exact h0 rfl) (by omega) (by unfold maxLen at hcm;omega) ?_
  intro j x hx
  have hg':w.drew.heap[g]?=_:=hg
  have hadd:(⟨g,0,none⟩:Addr).add j=⟨g,j,none⟩:=by unfold Addr.add;split<;>simp_all
  rw[hadd]
  simp only[World.cell?,hg']
  simpa using hcur j x hx
 have t72:=underlying272;have a72:=Tryz.isAgg272;have z72:=Tryz.sizeOf272;have v72:=Tryz.zeroValue272;have u72:=run_underlying underlying272
 have t70:=underlying270;have a70:=Tryz.isAgg270;have z70:=Tryz.sizeOf270;have v70:=Tryz.zeroValue270;have u70:=run_underlying underlying270
 have t37:=underlying30;have a37:=Tryz.isAgg30;have z37:=Tryz.sizeOf30;have v37:=Tryz.zeroValue30;have u37:=run_underlying underlying30
 have t127:=underlying287;have a127:=Tryz.isAgg287;have z127:=Tryz.sizeOf287;have v127:=Tryz.zeroValue287;have aOl:=run_underlying underlying287
 have t3:=underlying3;have a3:=Tryz.isAgg3;have z3:=Tryz.sizeOf3;have v3:=Tryz.zeroValue3;have u3:=run_underlying underlying3
 have t9:=underlying9;have a9:=Tryz.isAgg9;have z9:=Tryz.sizeOf9;have v9:=Tryz.zeroValue9;have u9:=run_underlying underlying9
 have mixed:=Tryz.aEf.mixed
 go_enter func191,Tryz.ntmps191
 go_wp2
 go_region_o
 all_goals (go_wp2;go_ret;exact⟨rfl,rfl⟩)
theorem Tryz.aOm(b:Nat)(p:Value)(w:World)(hb:w.heap[b]?=some (.cells #[p,.slice none 0 0] 272 (0,0))) :
  Calls prog 191 #[.pointer (some ⟨b,0,none⟩)] w fun e w'=>e=.returned (.string ⟨#[]⟩)/\w'=w.drew:=by
 have c1:w.drew.cell? ⟨b,1,none⟩=some (.slice none 0 0):=by
  have hb':w.drew.heap[b]?=_:=hb
  simp[World.cell?,hb']
 have hSD:=Lib.run_unsafeSliceData_nil (P:=prog) w.drew #[30] 287 0 0
 have hUS:=Lib.run_unsafeString_none (P:=prog) w.drew 287 3 9 none
 have t72:=underlying272;have a72:=Tryz.isAgg272;have z72:=Tryz.sizeOf272;have v72:=Tryz.zeroValue272;have u72:=run_underlying underlying272
 have t70:=underlying270;have a70:=Tryz.isAgg270;have z70:=Tryz.sizeOf270;have v70:=Tryz.zeroValue270;have u70:=run_underlying underlying270
 have t37:=underlying30;have a37:=Tryz.isAgg30;have z37:=Tryz.sizeOf30;have v37:=Tryz.zeroValue30;have u37:=run_underlying underlying30
 have t127:=underlying287;have a127:=Tryz.isAgg287;have z127:=Tryz.sizeOf287;have v127:=Tryz.zeroValue287;have aOl:=run_underlying underlying287
 have t3:=underlying3;have a3:=Tryz.isAgg3;have z3:=Tryz.sizeOf3;have v3:=Tryz.zeroValue3;have u3:=run_underlying underlying3
 have t9:=underlying9;have a9:=Tryz.isAgg9;have z9:=Tryz.sizeOf9;have v9:=Tryz.zeroValue9;have u9:=run_underlying underlying9
 have mixed:=Tryz.aEf.mixed
 go_enter func191,Tryz.ntmps191
 go_wp2
 go_region_o
 all_goals (go_wp2;go_ret;exact⟨rfl,rfl⟩)
end
end Go.Proofs
namespace Go.Kz
open Go Go.Proofs
def WE:Nat->List PD->List aB->Option (PD×List aB):=fun fl args σ=>match args with
 | [.ptr id 0]=>match σ[id]? with
   |some (.box (.typed 272 [.eN,s]))=>if fl<=id then some (.aH [],σ.set id (.box (.typed 272 [.ptr id 0,s])))else none
   |some (.box (.typed 272 [.ptr id' 0,_]))=>if id'=id then some (.aH [],σ)else none
   |_=>none
 |_=>none
def WG:Nat->List PD->List aB->Option (PD×List aB):=fun fl args σ=>match args with
 | [.ptr id 0]=>match σ[id]? with
   |some (.box (.typed 272 [_,.slice z xs tok]))=>match tok with
    |.nil=>some (.str [],σ)
    |.own DJ=>match σ[DJ]? with
      |some (.own 5 1 n)=>if n=xs.length/\0<n/\z=1/\fl<=DJ then(match KB xs with|some l=>some (.str l,σ)|none=>none)else none
      |_=>none
    |_=>none
   |_=>none
 |_=>none
theorem aOn{w:World}{b o:Nat}{cs:Array Value}{T:TypeId}{fz:Nat×Nat}{v:Value}(hb:w.heap[b]?=some (.cells cs T fz)):(w.setCell ⟨b,o,none⟩ v).heap[b]?=some (.cells (cs.setIfInBounds o v) T fz):=by
 simp only[World.setCell,Array.getElem?_modify,if_true,hb]
 rfl
theorem aOo{w:World}{b o k:Nat}{v:Value}(h:k≠b):(w.setCell ⟨b,o,none⟩ v).heap[k]?=w.heap[k]?:=by
 simp only[World.setCell,Array.getElem?_modify]
 rw[if_neg (Ne.symm h)]
theorem aOp(g j:Nat):(⟨g,0,none⟩:Addr).add j=⟨g,j,none⟩:=by unfold Addr.add;split<;>simp_all
theorem WH{c:Cx}{cs:Array Value}{p q:PD}(h:aQ c cs.toList [p,q]):∃v u,cs=#[v,u]/\VR c v p/\VR c u q:=by
 obtain⟨v,u,e,h1,h2⟩:=O2 h
 exact⟨v,u,Array.toList_inj.1 (by simpa using e),h1,h2⟩
theorem aOf{E:aD}(hE:aE prog E):aE prog (E.add 203 WE):=by
 refine hE.WI ⟨_,func203,rfl⟩ fun fl args c vs p σ' hg hs hX hv=>?_
 unfold WE at hg
 split at hg
 ·rename_i id
  obtain⟨v,rfl,h1⟩:=WJ hv
  obtain⟨b,rfl,hd,_,hρ⟩:=h1.rT
  split at hg
  ·rename_i s hbox
   split at hg
   ·rename_i hfl
    simp only[yAb,yAc]at hg
    obtain⟨rfl,rfl⟩:=hg
    obtain⟨b',cs,T,e1,e2,e3,e4,e5⟩:=hs.box id _ hd hbox
    rw[hρ]at e1
    simp only[Value.pointer.injEq,yAb,Addr.mk.injEq,and_true]at e1
    subst e1
    obtain rfl:=e5 _ _ rfl
    obtain⟨v0,v1,rfl,q1,q2⟩:=WH e3
    have gH:v0=.pointer none:=q1.BZ
    subst gH
    have hc0:c.w.cell? ⟨b,0,none⟩=some (.pointer none):=by simp[World.cell?,e2]
    refine Calls.mono (Any.Builder_copyCheck_fresh Tryz.aEd Tryz.aEe b c.w hc0 (by simp[World.shape?,e2];rfl) (by simp[World.frozen?,e2])) fun e w' he=>?_
    obtain⟨rfl,rfl⟩:=he
    have hnew:=aOn (o:=0) (v:=Value.pointer (some ⟨b,0,none⟩)) e2
    have hoth:∀k,k≠b->(c.w.setCell ⟨b,0,none⟩ (.pointer (some ⟨b,0,none⟩))).heap[k]?=c.w.heap[k]?:=fun k hk=>aOo hk
    have h0:(c.w.setCell ⟨b,0,none⟩ (.pointer (some ⟨b,0,none⟩))).os=c.w.os/\(c.w.setCell ⟨b,0,none⟩ (.pointer (some ⟨b,0,none⟩))).tape=c.w.tape/\(c.w.setCell ⟨b,0,none⟩ (.pointer (some ⟨b,0,none⟩))).output=c.w.output/\(c.w.setCell ⟨b,0,none⟩ (.pointer (some ⟨b,0,none⟩))).heap.size=c.w.heap.size:=⟨rfl,rfl,rfl,by simp[World.setCell]⟩
    have hp:VR c (.pointer (some ⟨b,0,none⟩)) (.ptr id 0):=.ptr id 0 b hd ⟨_,hbox⟩ hρ
    refine⟨c.put _ id (c.ρ id) (.box (.typed 272 [.ptr id 0,s])),rfl,rfl,Sr.zF hs hd hbox hρ h0 hoth hnew ?_ ⟨?_,fun t ds e=>by simp only[PD.typed.injEq]at e;exact e.1⟩,Nx.zF hs hd hbox hρ hfl h0 hoth,.aH [] [] rfl (by simp),fun _ h=>.inl h⟩
    ·refine⟨rfl,fun i v d h1 h2=>?_⟩
     match i,h1,h2 with
     |0,h1,h2=>
      simp[PD.cells]at h1 h2
      subst h1 h2
      exact hp
     |1,h1,h2=>
      simp[PD.cells]at h1 h2
      subst h1 h2
      exact q2
     |i+2,h1,h2=>simp[PD.cells]at h2
    ·intro v hv
     simp at hv
     rcases hv with rfl|rfl
     ·rfl
     ·exact e4 _ (by simp)
   ·cases hg
  ·rename_i id' s hbox
   split at hg
   ·rename_i hid
    subst hid
    simp only[yAb,yAc]at hg
    obtain⟨rfl,rfl⟩:=hg
    obtain⟨b',cs,T,e1,e2,e3,e4,e5⟩:=hs.box _ _ hd hbox
    rw[hρ]at e1
    simp only[Value.pointer.injEq,yAb,Addr.mk.injEq,and_true]at e1
    subst e1
    obtain⟨v0,v1,rfl,q1,q2⟩:=WH e3
    obtain⟨b2,rfl,_,_,o8⟩:=q1.rT
    rw[hρ]at o8
    simp only[Value.pointer.injEq,yAb,Addr.mk.injEq,and_true]at o8
    subst o8
    have hc0:c.w.cell? ⟨b,0,none⟩=some (.pointer (some ⟨b,0,none⟩)):=by simp[World.cell?,e2]
    refine Calls.mono (Any.Builder_copyCheck_used Tryz.aEd Tryz.aEe b c.w hc0) fun e w' he=>?_
    obtain⟨rfl,rfl⟩:=he
    exact⟨c,rfl,rfl,hs,.refl _ _,.aH [] [] rfl (by simp),fun _ h=>.inl h⟩
   ·cases hg
  ·cases hg
 ·cases hg
theorem aOh{E:aD}(hE:aE prog E):aE prog (E.add 191 WG):=by
 refine hE.WI ⟨_,func191,rfl⟩ fun fl args c vs p σ' hg hs hX hv=>?_
 unfold WG at hg
 split at hg
 ·rename_i id
  obtain⟨v,rfl,h1⟩:=WJ hv
  obtain⟨b,rfl,hd,_,hρ⟩:=h1.rT
  split at hg
  ·rename_i a z xs tok hbox
   obtain⟨b',cs,T,e1,e2,e3,e4,e5⟩:=hs.box id _ hd hbox
   rw[hρ]at e1
   simp only[Value.pointer.injEq,yAb,Addr.mk.injEq,and_true]at e1
   subst e1
   obtain rfl:=e5 _ _ rfl
   obtain⟨v0,v1,rfl,q1,q2⟩:=WH e3
   obtain⟨A,cap,flx,rfl,a1,a2,a3,a4,a5,a6,a7,a8⟩:=q2.nW
   split at hg
   ·simp only[yAb,yAc]at hg
    obtain⟨rfl,rfl⟩:=hg
    obtain⟨q,_,_⟩:=a8
    rw[q]at e2
    refine Calls.mono (Tryz.aOm b v0 c.w e2) fun e w' he=>?_
    obtain⟨rfl,rfl⟩:=he
    have hgr:=Y0 c.w
    exact⟨c.at c.w.drew,rfl,rfl,hs.grow hgr,Nx.grow hs hgr,.str [],fun _ h=>.inl h⟩
   ·rename_i DJ
    split at hg
    ·rename_i n hown
     split at hg
     ·rename_i hc
      obtain⟨rfl,hn0,rfl,hfl⟩:=hc
      split at hg
      ·rename_i l hl
       simp only[yAb,yAc]at hg
       obtain⟨rfl,rfl⟩:=hg
       have hxs:=aEg hl
       obtain⟨o7,e0,m0,eC,hle,o8⟩:=a8
       rw[hown]at eC
       simp only[yAb,aB.own.injEq]at eC
       obtain⟨rfl,_,rfl⟩:=eC
       have o8:=o8 rfl
       obtain⟨ys,hrow⟩:=hs.own DJ _ _ _ o7 hown
       rw[o8]at hrow
       rcases hrow.2 with⟨_,h0⟩ | ⟨g,cap',cur,fz,gH,_,hg,hfz,hnc,hcm,hcs,htake⟩
       ·omega
       ·simp only[Value.slice.injEq]at gH
        obtain⟨rfl,_,rfl⟩:=gH
        have hlen:l.length=xs.length:=by rw[hxs,yAe]
        have hcells:∀(j:Nat) (x:UInt8),l[j]?=some x->cur[j]?=some (.int .u8 x.toNat):=fun j x hj=>by
         have hjl:j<xs.length:=by rw[<-hlen];exact(yA.1 hj).1
         have hjf:j<flx.length:=by omega
         obtain⟨ad,q3,q4,_⟩:=a6 j flx[j] (by simp[hjf])
         cases q3
         rw[aOp]at q4
         simp only[World.cell?,hg]at q4
         have yV:(xs.flatMap PD.cells)[j]?=some (.int .u8 x.toNat):=by
          rw[hxs,HV,yAo,hj]
          rfl
         have:=(a7 j flx[j] _ (by simp[hjf]) yV).int_eq
         rw[this]at q4
         simpa using q4
        refine Calls.mono (Tryz.aOj b g cap xs.length v0 cur fz l c.w hlen (by omega) e2 hg hnc hcm (by rw[hcs,Nat.mul_one]) hcells) fun e w' he=>?_
        obtain⟨rfl,rfl⟩:=he
        have hlt:g<c.w.heap.size:=gJ hg
        have hw1:∀k,k≠g->(c.w.drew.freeze ⟨g,0,none⟩ xs.length).heap[k]?=c.w.heap[k]?:=fun k hk=>by
         unfold World.freeze
         rw[if_neg (by omega)]
         simp only[Array.getElem?_modify]
         rw[if_neg (Ne.symm hk)]
         rfl
        have hg':c.w.drew.heap[g]?=some (.cells cur 5 fz):=hg
        have JL:(c.w.drew.freeze ⟨g,0,none⟩ xs.length).heap[g]?=some (.cells cur 5 (if fz.1==fz.2 then(0,0+xs.length)else(min fz.1 0,max fz.2 (0+xs.length)))):=by
         unfold World.freeze
         rw[if_neg (by omega)]
         simp only[Array.getElem?_modify,if_true,hg']
         rfl
        have hsz:(c.w.drew.freeze ⟨g,0,none⟩ xs.length).os=c.w.os/\(c.w.drew.freeze ⟨g,0,none⟩ xs.length).tape=c.w.tape/\(c.w.drew.freeze ⟨g,0,none⟩ xs.length).output=c.w.output/\(c.w.drew.freeze ⟨g,0,none⟩ xs.length).heap.size=c.w.heap.size:=by
         unfold World.freeze
         rw[if_neg (by omega)]
         exact⟨rfl,rfl,rfl,by simp⟩
        refine⟨c.at _,rfl,rfl,Sr.O3 hs o7 hown o8 hg hsz hw1 JL ?_,Nx.O3 o7 o8 hfl hg hsz hw1 JL,.str l,fun _ h=>.inl h⟩
        simp only[yAp,Nat.mul_one]
        split
        ·exact yAk _
        ·simp only
         omega
      ·cases hg
     ·cases hg
    ·cases hg
   ·cases hg
  ·cases hg
 ·cases hg
end Go.Kz
namespace Go.Kz
set_option maxRecDepth 100000
section
open Go Go.Proofs Go.RowKit
def WB:List PD->Option PD:=fun args=>match args with
 | [.str l,.int .i64 n]=>if 0<=n/\n<=1000/\l.length<=1000 then some (.str (Lib.repeatL l n.toNat))else none
 |_=>none
def WC:List PD->Option PD:=fun args=>match args with
 | [.str a,.str b]=>some (.int .i64 (Lib.compareBytes a b))
 |_=>none
theorem aN9{w w':World}(h:Below w.heap.size w w'):w.grownBy w' none:=⟨h.os,h.tape,h.output,h.size,fun k hk _=>h.block k hk⟩
theorem aOa{E:aD}(hE:aE prog E):aE prog (E.add 190 (entry WB)):=by
 refine hE.O1 ⟨_,func190,rfl⟩ fun args c vs p hg hs hv=>?_
 unfold WB at hg
 split at hg
 ·rename_i l n
  split at hg
  ·rename_i hc
   obtain⟨h0,h1,h2⟩:=hc
   simp only[yAb]at hg
   subst hg
   obtain⟨v,u,rfl,q1,q2⟩:=O2 hv
   rw[q1.WD,q2.int_eq]
   obtain⟨k,rfl⟩:∃k:Nat,n=k:=⟨n.toNat,by omega⟩
   have hle:(⟨l.toArray⟩:ByteArray).size*k<=140737488355328:=by
    have hsz:(⟨l.toArray⟩:ByteArray).size=l.length:=by simp[ByteArray.size]
    rw[hsz]
    have:l.length*k<=1000*1000:=Nat.mul_le_mul h2 (by omega)
    omega
   refine Calls.mono (Tryz.strings_Repeat ⟨l.toArray⟩ k c.w (by omega) hle) fun e w' he=>?_
   obtain⟨rfl,hb⟩:=he
   exact⟨_,rfl,aN9 hb,fun _=>.str _⟩
  ·cases hg
 ·cases hg
theorem aOb{E:aD}(hE:aE prog E):aE prog (E.add 173 (entry WC)):=by
 refine hE.O1 ⟨_,func173,rfl⟩ fun args c vs p hg hs hv=>?_
 unfold WC at hg
 split at hg
 ·rename_i a b
  simp only[yAb]at hg
  subst hg
  obtain⟨v,u,rfl,q1,q2⟩:=O2 hv
  rw[q1.WD,q2.WD]
  refine Calls.mono (Tryz.strings_Compare ⟨a.toArray⟩ ⟨b.toArray⟩ c.w) fun e w' he=>?_
  obtain⟨rfl,rfl⟩:=he
  exact⟨_,rfl,aOc _,fun _=>.int _ _⟩
 ·cases hg
def Bs0:aD:=fun _=>none
theorem aOd:aE prog Bs0:=fun _ hg=>by cases hg
def Bs1:aD:=Bs0.add 203 WE
theorem aOe:aE prog Bs1:=aOf aOd
def Bs2:aD:=Bs1.add 191 WG
theorem aOg:aE prog Bs2:=aOh aOe
def Bs3:aD:=Bs2.add 190 (entry WB)
theorem aOi:aE prog Bs3:=aOa aOg
def Bs4:aD:=Bs3.add 173 (entry WC)
theorem aN8:aE prog Bs4:=aOb aOi
end
end Go.Kz
namespace Go.Proofs
open Go Go.Shelf Go.RowKit Go.Sort Go.Lib
set_option maxHeartbeats 6400000 in
set_option maxRecDepth 100000 in
theorem Tryz.aN4(u:Nat)(hu64:u<18446744073709551616)(w:World)(htab:Lib.TabIs prog w "internal/strconv.uint64pow10" .u64 Lib.pow10Tab) :
  Calls prog 202 #[.int .u64 u,.int .i64 10] w fun e w'=>e=.returned (.string ⟨(Lib.decDigits u).toArray⟩)/\∃k os,w'=grow (w.drewN k) os:=by
 have mixed:prog.follows .mixedOrders=true:=by kernel_rfl
 have t3:=underlying3;have a3:=Tryz.isAgg3;have z3:=Tryz.sizeOf3;have v3:=Tryz.zeroValue3
 have t9:=underlying9;have a9:=Tryz.isAgg9;have z9:=Tryz.sizeOf9;have v9:=Tryz.zeroValue9
 have t4:=underlying4;have a4:=Tryz.isAgg4;have z4:=Tryz.sizeOf4;have v4:=Tryz.zeroValue4
 have t171:=underlying293;have a171:=Tryz.isAgg293;have z171:=Tryz.sizeOf293;have v171:=Tryz.zeroValue293
 have t53:=underlying148;have a53:=Tryz.isAgg148;have z53:=Tryz.sizeOf148;have v53:=Tryz.zeroValue148
 have t37:=underlying30;have a37:=Tryz.isAgg30;have z37:=Tryz.sizeOf30;have v37:=Tryz.zeroValue30
 have t5:=underlying5;have a5:=Tryz.isAgg5;have z5:=Tryz.sizeOf5;have v5:=Tryz.zeroValue5
 have aS9:∀args w,(callFunc 214 args).run prog w=.ok (.enter 214 args) w:=enters_of func214 (by kernel_rfl) rfl
 have aTa:∀args w,(callFunc 215 args).run prog w=.ok (.enter 215 args) w:=enters_of func215 (by kernel_rfl) rfl
 have aTb:∀args w,(callFunc 216 args).run prog w=.ok (.enter 216 args) w:=enters_of func216 (by kernel_rfl) rfl
 by_cases hs:u<100
 ·have hws:IntKind.i64.wrap (u:Int)=(u:Int):=by rw[IntKind.wrap_i64];omega
  have hlt:(u:Int)<100:=by omega
  go_enter func202,Tryz.ntmps202
  go_wp2_with (go_at_fn 214;refine(Tryz.internal_strconv_small u hs _).mono ?_;rintro e w' ⟨rfl,rfl⟩)
  go_ret
  exact⟨rfl,0,#[],by simp[World.drewN_zero]⟩
 ·have hu1:1<=u:=by omega
  have hnlt:¬(u:Int)<100:=by omega
  have hnd20:Lib.nDigits u<=20:=by have:=Lib.numDigits_eq u hu1 hu64;split at this<;>omega
  have hal:prog.arrayLen 293=24:=by simp[Program.arrayLen,underlying293]
  have aTc:∀W,(Instr.sliceAt 293 (.pointer (some ⟨w.heap.size,0,none⟩)) none (some (.int .i64 (Lib.nDigits u:Int))) none).run prog W=.ok (.slice (some ⟨w.heap.size,0,none⟩) (Lib.nDigits u) 24) W:=fun W=>by
   rw[run_sliceAt_array_h W 293 ⟨w.heap.size,0,none⟩ (by simp[Program.arrayLen,Program.elem,underlying293]) .i64 (Lib.nDigits u:Int) (by omega) (by rw[hal];omega)]
   go_simp
  have V9:Holds (fun(b:UInt8)=>Value.int .u8 (b.toNat:Int)) (w.alloc (.cells Lib.zeros24 293)) w.heap.size 0 (Array.replicate (Lib.nDigits u) 0):=
   Lib.holds_zero0 w _ _ (by omega)
  have hfmt:=Tryz.internal_strconv_formatBase10 w.heap.size 0 24 u (Array.replicate (Lib.nDigits u) 0) (w.alloc (.cells Lib.zeros24 293)) V9 (by rw[Array.size_replicate];exact Lib.lt_pow_nDigits u) hu64 (by rw[Array.size_replicate];omega)
  rw[Array.size_replicate]at hfmt
  have HH0:=Lib.hid V9
  clear V9 hal
  go_enter func202,Tryz.ntmps202
  go_wp2_with (first
   |(go_at_fn 215;refine(Tryz.internal_strconv_numDigits u hu1 hu64 _ (Lib.tabIs_alloc htab _)).mono ?_;rintro e w' ⟨rfl,rfl⟩))
  go_at_fn 216
  refine hfmt.mono ?_
  rintro e w' ⟨rfl,k,v',dk,rfl,hF⟩
  have hcv:(convert 30 9 (.slice (some ⟨w.heap.size,0,none⟩) (Lib.nDigits u) 24)).run prog ((putRow (fun(b:UInt8)=>Value.int .u8 (b.toNat:Int)) (w.alloc (.cells Lib.zeros24 293)) w.heap.size 0 dk).drewN k)=.ok (.string ⟨(Lib.decDigits u).toArray⟩) ((putRow (fun(b:UInt8)=>Value.int .u8 (b.toNat:Int)) (w.alloc (.cells Lib.zeros24 293)) w.heap.size 0 dk).drewN k):=by
   have h:=run_convert_bytes_back (P:=prog) ((putRow (fun(b:UInt8)=>Value.int .u8 (b.toNat:Int)) (w.alloc (.cells Lib.zeros24 293)) w.heap.size 0 dk).drewN k) 30 9 5 ⟨w.heap.size,0,none⟩ 24 (Lib.decDigits u) underlying30 underlying5 underlying9 (fun j hj=>by
    rw[Lib.row_is_numeral hF j hj,Lib.add_plain,World.cell?_drewN]
    exact cell?_putRow (fun(b:UInt8)=>Value.int .u8 (b.toNat:Int)) _ w.heap.size 0 _ dk HH0.out (by rw[hF.size,Array.size_replicate]) j (by rw[hF.size];rw[Lib.decDigits_length]at hj;exact hj))
   rw[Lib.decDigits_length]at h
   exact h
  go_wp2
  go_ret
  obtain⟨os,eo⟩:=Lib.fin_at w (.cells Lib.zeros24 293) dk k 0
  exact⟨rfl,k,os,eo⟩
end Go.Proofs
namespace Go.Kz
open Go Go.Proofs Go.RowKit
def WA:List PD->Option PD:=fun args=>match args with
 | [.int .u64 n,.int .i64 b]=>if 0<=n/\n<18446744073709551616/\b=10 then some (.str (Lib.decDigits n.toNat))else none
 |_=>none
theorem aN6{E:aD}(hE:aE prog E):aE prog (E.add 202 (entry WA)):=by
 refine hE.O1 ⟨_,func202,rfl⟩ fun args c vs p hg hs hv=>?_
 unfold WA at hg
 split at hg
 ·rename_i n b
  split at hg
  ·rename_i hc
   obtain⟨h0,h1,rfl⟩:=hc
   simp only[yAb]at hg
   subst hg
   obtain⟨v,u,rfl,q1,q2⟩:=O2 hv
   rw[q1.int_eq,q2.int_eq]
   obtain⟨k,rfl⟩:∃k:Nat,n=k:=⟨n.toNat,by omega⟩
   obtain⟨⟨cs,T,fz,hheap,hh⟩,_⟩:=hs.jZ.2 1 rfl
   have hcs:=hh.1 .u64 _ rfl
   have htab:Lib.TabIs prog c.w "internal/strconv.uint64pow10" .u64 Lib.pow10Tab:=by
    unfold Lib.TabIs World.var?
    have hg:prog.globalNamed "internal/strconv.uint64pow10" = some 1:=by kernel_rfl
    rw[hg]
    simp only[Option.bind_some,hheap]
    rw[hcs]
    rfl
   refine Calls.mono (Tryz.aN4 k (by omega) c.w htab) fun e w' he=>?_
   obtain⟨rfl,k',os,rfl⟩:=he
   exact⟨_,rfl,⟨rfl,rfl,rfl,by simp[Go.Sort.grow],fun i hi _=>by simp[Go.Sort.grow,Array.getElem?_append,hi]⟩,fun _=>.str _⟩
  ·cases hg
 ·cases hg
set_option maxRecDepth 100000
def Bs5:aD:=Bs4.add 202 (entry WA)
theorem aN7:aE prog Bs5:=aN6 aN8
end Go.Kz
namespace Go.Kz
open Go Go.Proofs
set_option maxRecDepth 100000
section
abbrev dB:Em Int:=Em.int .u64
def jY(l:List Int):Nat:=(l.reverse.dropWhile fun x=>decide (x=0)).length
theorem aD9(l:List Int):jY (l++[0])=jY l:=by simp[jY,List.dropWhile]
theorem aEa(l:List Int)(x:Int)(h:x≠0):jY (l++[x])=l.length+1:=by simp[jY,List.dropWhile,h]
theorem V6(l:List Int):jY l<=l.length:=by
 unfold jY
 exact Nat.le_trans (List.dropWhile_sublist _).length_le (by simp)
theorem aEb(l:List Int)(n:Nat)(h:n<l.length):l.take (n+1)=l.take n++[l[n]]:=by simp
variable{E:aD}(hU:aI E)
include hU
theorem aN0(h0:E 192=none)(fl z:Nat)(l:List Int)(tok:Tok)(τ:List aB)(hz:l=[]\/z=1)(hl:l.length<=100000):aN prog E fl (.inl 192) [.slice z (l.map dB.U) tok] τ
  (fun p1 σ1=>p1=.slice z ((l.take (jY l)).map dB.U) (if jY l=l.length then tok else .any)/\σ1=τ):=by
 obtain⟨T,hT⟩:=gn (jY l)
 rw[hT]
 apply aN.aK h0 func192 rfl
 focus(simp[show Tryz.f192.ntmps=_ from rfl,List.replicate];rfl)
 have gx:=True.intro
 refine aC ?_
 clear gx
 refine Wp.cJ (fun m fr σ=>∃(n:Nat),∃gg:Nat->PD,(n=m/\n<=l.length/\jY (l.take n)=T)/\fr=[.slice z ((l.take n).map dB.U) (if n=l.length then tok else .any),gg 1,gg 2,gg 3,gg 4,gg 5,gg 6,gg 7,gg 8,gg 9,gg 10,gg 11,gg 12,gg 13,gg 14,gg 15,gg 16,gg 17,gg 18,gg 19,gg 20]/\σ=τ) ?_ (l.length) (by refine⟨l.length,?_⟩;exact bW (⟨rfl,yAk _,by rw[List.take_length];exact hT⟩))
 rintro m fr σ ⟨n,gg,hI,rfl,rfl⟩
 obtain⟨rfl,hn,hs⟩:=hI
 have hlen:(l.take n).length=n:=by rw[yAt];omega
 obtain⟨A,hA⟩:=gn (l.take n)
 rw[hA]at hs hlen
 cases n with
 |zero=>
  have rH:A=[]:=yAf hlen
  subst rH
  have V7:T=0:=by rw[<-hs];rfl
  subst V7
  have gx:=@hlen
  refine aC ?_
  clear gx
  exact⟨_,_,rfl,rfl,rfl⟩
 |succ n=>
  have ht:=aEb l n (by omega)
  rw[hA]at ht
  obtain⟨x,hx⟩:=gn (l[n])
  rw[hx]at ht
  have gL:z=1:=hz.resolve_left (fun h=>by rw[h]at hn;simp at hn)
  subst gL
  obtain⟨tk,htk⟩:∃t,(if n+1=l.length then tok else .any)=t:=⟨_,rfl⟩
  have w1:IntKind.i64.wrap ((n:Int)+1-1)=(n:Int):=by rw[IntKind.wrap_i64];omega
  obtain⟨M,hM⟩:=gn ((l.take (n+1)).map dB.U)
  have hMl:M.length=n+1:=by rw[<-hM,yAe,hA,hlen]
  have hMn:M[n]?=some (.int .u64 x):=by
   rw[<-hM,hA,ht,yBh,List.getElem?_append_right (by rw[yAe,yAt];omega)]
   rw[yAe,yAt,Nat.min_eq_left (by omega),Nat.sub_self]
   rfl
  obtain⟨hlt,hMe⟩:=yA.1 hMn
  have hMt:M.take n=(l.take n).map dB.U:=by
   rw[<-hM,<-List.map_take,List.take_take,Nat.min_eq_left (by omega)]
  rw[htk,hM]
  by_cases hx0:x=0
  ·have iO:¬n=l.length:=by omega
   have hn2:¬n=n+1:=by omega
   have hs':jY (l.take n)=T:=by rw[<-hs,ht,hx0,aD9]
   have hpr:∀t,ED 1 1 M t (some (0,n))=some (.slice 1 ((l.take n).map dB.U) .any):=fun t=>by
    unfold ED
    simp only[hMl,Nat.sub_zero,List.drop_zero,hMt]
    simp[hn2]
   have gx:=An @hMl (An @hMn (An @hMe (An @hx0 (An @w1 (An @hpr (@hn2))))))
   refine aC ?_
   clear gx
   refine bP.normal (n) (by omega) (by refine⟨n,?_⟩;exact cW (⟨rfl,by omega,hs'⟩) (by(first|rfl|(simp[iO];repeat(first|rfl|(apply And.intro)))|(simp[iO];done))) (by(first|rfl|(simp[iO];repeat(first|rfl|(apply And.intro)))|(simp[iO];done))))
  ·have V8:T=n+1:=by rw[<-hs,ht,aEa _ _ hx0,yAt];omega
   subst V8
   have gx:=An @hMl (An @hMn (An @hMe (@hx0)))
   refine aC ?_
   clear gx
   exact⟨_,_,rfl,by rw[hM,htk];rfl,rfl⟩
theorem aN1(h0:E 192=none)(fl id off:Nat)(l:List Int)(cs:List PD)(τ:List aB)(hq:τ[id]?=some (.box (.agg cs)))(hc:∀j (h:j<l.length),cs[off+j]?=some (.int .u64 (l[j])))(hl:l.length<=100000) :
  aN prog E fl (.inl 192) [.dE id off l.length 1] τ (fun p1 σ1=>p1=.dE id off (jY l) 1/\σ1=τ):=by
 obtain⟨T,hT⟩:=gn (jY l)
 rw[hT]
 apply aN.aK h0 func192 rfl
 focus(simp[show Tryz.f192.ntmps=_ from rfl,List.replicate];rfl)
 have gx:=True.intro
 refine aC ?_
 clear gx
 refine Wp.cJ (fun m fr σ=>∃(n:Nat),∃gg:Nat->PD,(n=m/\n<=l.length/\jY (l.take n)=T)/\fr=[.dE id off n 1,gg 1,gg 2,gg 3,gg 4,gg 5,gg 6,gg 7,gg 8,gg 9,gg 10,gg 11,gg 12,gg 13,gg 14,gg 15,gg 16,gg 17,gg 18,gg 19,gg 20]/\σ=τ) ?_ (l.length) (by refine⟨l.length,?_⟩;exact bW (⟨rfl,yAk _,by rw[List.take_length];exact hT⟩))
 rintro m fr σ ⟨n,gg,hI,rfl,rfl⟩
 obtain⟨rfl,hn,hs⟩:=hI
 have hlen:(l.take n).length=n:=by rw[yAt];omega
 obtain⟨A,hA⟩:=gn (l.take n)
 rw[hA]at hs hlen
 cases n with
 |zero=>
  have rH:A=[]:=yAf hlen
  subst rH
  have V7:T=0:=by rw[<-hs];rfl
  subst V7
  have gx:=@hlen
  refine aC ?_
  clear gx
  exact⟨_,_,rfl,rfl,rfl⟩
 |succ n=>
  have ht:=aEb l n (by omega)
  rw[hA]at ht
  obtain⟨x,hx⟩:=gn (l[n])
  have hcn:=hc n (by omega)
  rw[hx]at ht hcn
  obtain⟨hlt,hce⟩:=yA.1 hcn
  have w1:IntKind.i64.wrap ((n:Int)+1-1)=(n:Int):=by rw[IntKind.wrap_i64];omega
  by_cases hx0:x=0
  ·have hs':jY (l.take n)=T:=by rw[<-hs,ht,hx0,aD9]
   subst hx0
   have gx:=An @hq (An @hcn (An @hce (@w1)))
   refine aC ?_
   clear gx
   refine bP.normal (n) (by omega) (by refine⟨n,?_⟩;exact bW (⟨rfl,by omega,hs'⟩))
  ·have V8:T=n+1:=by rw[<-hs,ht,aEa _ _ hx0,yAt];omega
   subst V8
   have gx:=An @hq (An @hcn (An @hce (An @w1 (@hx0))))
   refine aC ?_
   clear gx
   exact⟨_,_,rfl,rfl,rfl⟩
end
section
def vF:List PD->Option (List Int)
 | []=>some []
 |.int .u64 n::r=>match vF r with|some l=>some (n::l)|none=>none
 |_=>none
theorem J7:∀ {xs:List PD} {l:List Int},vF xs=some l->xs=l.map dB.U
 | [],l,h=>by simp only[vF,yAb]at h;subst h;rfl
 |x::r,l,h=>by
  unfold vF at h
  split at h
  ·cases ‹_::_=_›
  ·rename_i n r' e
   simp only[List.cons.injEq]at e
   obtain⟨rfl,rfl⟩:=e
   split at h
   ·rename_i l' hl
    simp only[yAb]at h
    subst h
    rw[J7 hl]
    rfl
   ·cases h
  ·cases h
@[simp] theorem V5:∀l:List Int,vF (l.map dB.U)=some l
  | []=>rfl
  |n::l=>by
   show vF (.int .u64 n::l.map dB.U)=_
   simp only[vF,V5 l]
def vG:Nat->List PD->List aB->Option (PD×List aB):=fun _ args σ=>match args with
 | [.slice z xs tok]=>match vF xs with
   |some l=>if (l.length=0\/z=1)/\l.length<=100000 then some (.slice z ((l.take (jY l)).map dB.U) (if jY l=l.length then tok else .any),σ)else none
   |none=>none
 | [.dE id off n 1]=>match σ[id]? with
   |some (.box (.agg cs))=>match vF ((cs.drop off).take n)with
    |some l=>if l.length=n/\n<=100000 then some (.dE id off (jY l) 1,σ)else none
    |none=>none
   |_=>none
 |_=>none
theorem aN.AL{P:Program}{E:aD}{fl:Nat}{f:FuncId ⊕ Nat}{args:List PD}{σ σ':List aB}{p:PD}(h:aN P E fl f args σ (fun p1 σ1=>p1=p/\σ1=σ')):mD P E fl f args σ p σ':=by
 obtain⟨p1,σ1,h1,rfl,rfl⟩:=h.ex
 exact h1
section
variable{E:aD}(hU:aI E)
include hU
theorem aNZ(hE:aE prog E)(h0:E 192=none):aE prog (E.add 192 vG):=
 hE.add (by kernel_rfl) fun fl args σ p σ' h=>by
  unfold vG at h
  split at h
  ·rename_i z xs tok
   split at h
   ·rename_i l hl
    split at h
    ·rename_i hc
     simp only[yAb,yAc]at h
     obtain⟨rfl,rfl⟩:=h
     rw[J7 hl]
     exact aN.AL (aN0 hU h0 fl z l tok σ (hc.1.imp yAf id) hc.2)
    ·cases h
   ·cases h
  ·rename_i id off n
   split at h
   ·rename_i cs hcs
    split at h
    ·rename_i l hl
     split at h
     ·rename_i hc
      simp only[yAb,yAc]at h
      obtain⟨rfl,rfl⟩:=h
      obtain⟨hln,hnb⟩:=hc
      subst hln
      have hx:=J7 hl
      refine aN.AL (aN1 hU h0 fl id off l cs σ hcs (fun j hj=>?_) hnb)
      have h1:=congrArg (fun t=>t[j]?) hx
      simp only[yAv,hj,if_true,List.getElem?_drop,yAo]at h1
      rw[h1,yAh hj]
      rfl
     ·cases h
    ·cases h
   ·cases h
  ·cases h
end
theorem aN2(fl z:Nat)(l:List Int)(tok:Tok)(σ:List aB)(hz:l=[]\/z=1)(hl:l.length<=100000):vG fl [.slice z (l.map dB.U) tok] σ=some (.slice z ((l.take (jY l)).map dB.U) (if jY l=l.length then tok else .any),σ):=by
 unfold vG
 simp only[V5]
 rw[if_pos ⟨hz.imp (fun h=>by rw[h];rfl) id,hl⟩]
def vH(l:List UInt8):Nat:=l.foldl (fun a c=>10*a+(c.toNat-48)) 0
def J8(l:List UInt8)(k:Nat):Nat:=vH ((l.drop (l.length-9*k-9)).take (l.length-9*k-(l.length-9*k-9)))
def nJ(l:List UInt8)(k:Nat):List Int:=(List.range k).map fun i=>(J8 l i:Int)
def J9(l:List UInt8):List Int:=(nJ l ((l.length+8)/9)).take (jY (nJ l ((l.length+8)/9)))
def OZ(l:List UInt8):Prop:=∀c∈l,48<=c.toNat/\c.toNat<=57
theorem aD7(l:List UInt8)(c:UInt8):vH (l++[c])=10*vH l+(c.toNat-48):=by simp[vH]
theorem aD8:∀(n:Nat) (l:List UInt8),l.length=n->OZ l->vH l<10^n
 |0,l,h,_=>by rw[yAf h];decide
 |n+1,l,h,hd=>by
  have hne:l≠[]:=fun e=>by rw[e]at h;simp at h
  have e:=List.dropLast_concat_getLast hne
  rw[<-e,aD7]
  have h1:=aD8 n l.dropLast (by rw[List.length_dropLast];omega) (fun c hc=>hd c ((List.dropLast_sublist l).subset hc))
  have h2:=hd _ (List.getLast_mem hne)
  rw[Nat.pow_succ]
  omega
section
variable{E:aD}(hU:aI E)
include hU
theorem aN3(h0:E 186=none)(h1:E 192=some vG)(l:List UInt8)(hl:l.length<=1000)(hd:OZ l):aS prog E 186 [.str l] ((dB.list 1).U (J9 l)):=by
 obtain⟨K,hK⟩:=gn ((l.length+8)/9)
 have hls:∀k,(nJ l k).length=k:=fun k=>by simp[nJ]
 have hsu:∀k,nJ l (k+1)=nJ l k++[(J8 l k:Int)]:=fun k=>by simp[nJ,List.range_succ]
 unfold J9
 rw[hK]
 apply aS.aK h0 func186 rfl
 focus(simp[show Tryz.f186.ntmps=_ from rfl,List.replicate];rfl)
 have gx:=True.intro
 refine aC ?_
 clear gx
 refine Wp.cJ (fun m fr σ=>∃(k z:Nat),∃gg:Nat->PD,(k+m=K/\(nJ l k=[]\/z=1))/\fr=[.str l,gg 1,gg 2,.slice z ((nJ l k).map dB.U) (jB 0 (nJ l k).length),.int .i64 ((l.length:Int)-9*k),gg 5,gg 6,gg 7,gg 8,gg 9,gg 10,gg 11,gg 12,gg 13,gg 14,gg 15,gg 16,gg 17,gg 18,gg 19,gg 20,gg 21,gg 22,gg 23,gg 24,gg 25,gg 26,gg 27,gg 28,gg 29,gg 30,gg 31,gg 32,gg 33,gg 34,gg 35,gg 36,gg 37,gg 38]/\σ=St [] 148 1 (nJ l k).length) ?_ (K) (by refine⟨0,0,?_⟩;exact cW (⟨by omega,.inl rfl⟩) (by(first|rfl|(simp[nJ,jB];repeat(first|rfl|(apply And.intro)))|(simp[nJ,jB];done))) (by(first|rfl|(simp[nJ,jB];repeat(first|rfl|(apply And.intro)))|(simp[nJ,jB];done))))
 rintro m fr σ ⟨k,z,gg,hI,rfl,rfl⟩
 obtain⟨hm,hz⟩:=hI
 by_cases hk:k<K
 ·have q1:(0:Int)<(l.length:Int)-9*k:=by omega
  obtain⟨b,hb⟩:=gn (l.length-9*k)
  have eb:(l.length:Int)-9*k=(b:Int):=by omega
  obtain⟨a,ha⟩:=gn (b-9)
  have hb0:0<b:=by omega
  have hA:J8 l k=vH ((l.drop a).take (b-a)):=by unfold J8;rw[hb,ha]
  obtain⟨C,hC⟩:=gn ((l.drop a).take (b-a))
  have hCl:C.length=b-a:=by rw[<-hC,yAt,List.length_drop];omega
  have hCd:OZ C:=fun c hc=>hd c (by rw[<-hC]at hc;exact List.mem_of_mem_drop (yAy hc))
  rw[hC]at hA
  rw[eb]
  have w1:IntKind.i64.wrap ((b:Int)-9)=(b:Int)-9:=by rw[IntKind.wrap_i64];omega
  have q2:(0:Int)<(b:Int):=by omega
  have hmx:(if (b:Int)-9<0 then(0:Int)else(b:Int)-9)=(a:Int):=by split<;>omega
  have gx:=An @q1 (An @q2 (An @hb0 (An @w1 (An @hmx (@hC)))))
  refine aC ?_
  clear gx
  obtain⟨M,hM⟩:∃M,M=m:=⟨_,rfl⟩
  rw[<-hM]at hm ⊢
  clear hM
  have hl0:vH (C.take 0)=0:=rfl
  refine Wp.cJ (fun m fr σ=>∃(i:Nat),∃gg:Nat->PD,(i+m=C.length)/\fr=[.str l,gg 1,gg 2,.slice z ((nJ l k).map dB.U) (jB 0 (nJ l k).length),.int .i64 b,.int .u64 (vH (C.take i):Nat),gg 6,gg 7,gg 8,gg 9,gg 10,gg 11,gg 12,gg 13,gg 14,gg 15,gg 16,gg 17,gg 18,gg 19,.slice 1 (C.map fun b=>.int .u8 b.toNat) .any,.int .i64 C.length,.int .i64 i,gg 23,gg 24,gg 25,gg 26,gg 27,gg 28,gg 29,gg 30,gg 31,gg 32,gg 33,gg 34,gg 35,gg 36,gg 37,gg 38]/\σ=St [] 148 1 (nJ l k).length) ?_ (C.length) (by refine⟨0,?_⟩;exact cW (by omega) (by(first|rfl|(simp[hl0];repeat(first|rfl|(apply And.intro)))|(simp[hl0];done))) (by(first|rfl|(simp[hl0];repeat(first|rfl|(apply And.intro)))|(simp[hl0];done))))
  rintro m fr σ ⟨i,gg,hI,rfl,rfl⟩
  have hm2:=hI
  by_cases hi:i<C.length
  ·have q3:(i:Int)<(C.length:Int):=by omega
   obtain⟨c,hc⟩:=gn (C[i])
   have hcd:=hCd c (hc▸yAm hi)
   have htk:C.take (i+1)=C.take i++[c]:=by rw[<-hc];simp
   have hv:=aD8 i (C.take i) (by rw[yAt];omega) (fun x hx=>hCd x (yAy hx))
   have hv9:vH (C.take i)<10^9:=Nat.lt_of_lt_of_le hv (Nat.pow_le_pow_right (by decide) (by omega))
   have hsn:=aD7 (C.take i) c
   rw[<-htk]at hsn
   obtain⟨v,hvv⟩:=gn (vH (C.take i))
   rw[hvv]at hv9 hsn ⊢
   obtain⟨n,hn⟩:=gn (c.toNat)
   rw[hn]at hcd hsn
   obtain⟨d,hdd⟩:=gn (n-48)
   rw[hdd]at hsn
   have y1:IntKind.u64.wrap (10*(v:Int))=10*(v:Int):=by rw[IntKind.wrap_u64];omega
   have y2:IntKind.u8.wrap ((n:Int)-48)=(d:Int):=by simp only[IntKind.wrap,IntKind.bits,IntKind.signed];simp;omega
   have y3:IntKind.u64.wrap (d:Int)=(d:Int):=by rw[IntKind.wrap_u64];omega
   have y4:IntKind.u64.wrap (10*(v:Int)+(d:Int))=10*(v:Int)+(d:Int):=by rw[IntKind.wrap_u64];omega
   have gx:=An @q3 (An @hi (An @hc (An @hn (An @y1 (An @y2 (An @y3 (@y4)))))))
   refine aC ?_
   clear gx
   refine bP.normal (m-1) (by omega) (by refine⟨i+1,?_⟩;exact cW (by omega) (by(first|rfl|(simp[hsn];repeat(first|rfl|(apply And.intro)))|(simp[hsn];done))) (by(first|rfl|(simp[hsn];repeat(first|rfl|(apply And.intro)))|(simp[hsn];done))))
  ·have q3:¬(i:Int)<(C.length:Int):=by omega
   obtain rfl:i=C.length:=by omega
   have hfull:vH (C.take C.length)=J8 l k:=by rw[hA,List.take_length]
   rw[hfull]
   have AQ:=hls k
   have KA:=hsu k
   have e9:(b:Int)-9=(l.length:Int)-9*((k:Int)+1):=by omega
   obtain⟨LS,hLS⟩:=gn (nJ l k)
   rw[hLS]at AQ KA hz ⊢
   have gx:=An @q3 (An @w1 (An @hz (@AQ)))
   refine aC ?_
   clear gx
   refine bP.normal (M-1) (by omega) (by refine⟨k+1,1,?_⟩;exact cW (⟨by omega,.inr rfl⟩) (by(first|rfl|(simp[KA,AQ,e9];repeat(first|rfl|(apply And.intro)))|(simp[KA,AQ,e9];done))) (by(first|rfl|(simp[KA,AQ,e9];repeat(first|rfl|(apply And.intro)))|(simp[KA,AQ,e9];done))))
 ·have q1:¬(0:Int)<(l.length:Int)-9*k:=by omega
  obtain rfl:k=K:=by omega
  have AQ:=hls k
  obtain⟨LS,hLS⟩:=gn (nJ l k)
  rw[hLS]at AQ hz ⊢
  have hg:=fun fl σ=>aN2 fl z LS (jB 0 LS.length) σ hz (by omega)
  have q4:¬9*(k:Int)<(l.length:Int):=by omega
  obtain⟨T,hT⟩:=gn (jY LS)
  have hTl:T<=LS.length:=hT▸V6 LS
  obtain⟨tk,htk⟩:∃t,(if T=LS.length then jB 0 LS.length else .any)=t:=⟨_,rfl⟩
  rw[hT]at hg ⊢
  rw[htk]at hg
  obtain⟨LT,hLT⟩:=gn (LS.take T)
  rw[hLT]at hg ⊢
  have hzs:LT=[]\/z=1:=hz.imp (fun h=>by rw[<-hLT,h];simp) id
  have hst:PD.strip (.slice z (LT.map dB.U) tk)=(dB.list 1).U LT:=by
   rw[PD.lG,show(LT.map dB.U).map PD.strip=LT.map dB.U by rw[List.map_map];exact yBg fun x _=>dB.str x]
   rcases hzs with h|h
   ·rw[h];rfl
   ·rw[h]
    show _=PD.slice (sz 1 LT) (LT.map dB.U) .any
    simp[sz]
  have gx:=An @q1 (An @q4 (An @h1 (@hg)))
  refine aC ?_
  clear gx
  exact⟨_,_,rfl,hst⟩
end
end
section
def pX(x:Int):Int:=IntKind.u64.wrap x
def wR(a:Int):List Int->Nat->List Int->Int->List Int×Int
 | [],_,o,c=>(o,c)
 |b::r,p,o,c=>wR a r (p+1) (o.set p ((pX (pX (o.getD p 0+pX (a*b))+c)).tmod 1000000000)) (pX ((pX (pX (o.getD p 0+pX (a*b))+c)).tdiv 1000000000))
def AW(ns:List Int):List Int->Nat->List Int->List Int
 | [],_,o=>o
 |a::r,i,o=>AW ns r (i+1) ((wR a ns i o 0).1.set (i+ns.length) (pX ((wR a ns i o 0).1.getD (i+ns.length) 0+(wR a ns i o 0).2)))
def O9(m n:List Int):List Int:=(AW n m 0 (List.replicate (m.length+n.length+1) 0)).take (jY (AW n m 0 (List.replicate (m.length+n.length+1) 0)))
theorem aFc(a:Int):∀(r:List Int) (p:Nat) (o:List Int) (c:Int),(wR a r p o c).1.length=o.length
 | [],_,_,_=>rfl
 |b::r,p,o,c=>by
  unfold wR
  rw[aFc a r]
  simp
theorem aP5{P:Program}{e:TypeId}{n b:Nat}(h:mS P e=some (n,b)):∃i,P.info? e=some i/\i.size=n/\i.bytes=b:=by
 unfold mS at h
 split at h
 ·rename_i i hi
  split at h
  ·split at h
   ·simp only[yAb,yAc]at h
    exact⟨i,hi,h.1,h.2⟩
   ·cases h
  ·cases h
 ·cases h
theorem aP6(σ:List aB)(n:Nat)(hn:n<=2000000):BC prog σ 248 148 n n=some (.dE σ.length 0 n 1,σ++[.box (.agg ((List.replicate n 0).map dB.U))]):=by
 obtain⟨i,hi,h0,hb⟩:=aP5 (P:=prog) (e:=148) (n:=1) (b:=8) (by kernel_rfl)
 have h1:bT prog 148=some 1:=by kernel_rfl
 have h2:eE prog 148=some (.int .u64 0):=by kernel_rfl
 have hz:qC (.int .u64 0) 1 n=(List.replicate n 0).map dB.U:=by
  refine List.ext_getElem? fun j=>?_
  by_cases hj:j<n
  ·simp[qC,PD.cells,hj,List.getElem?_replicate,Nat.mod_one,Em.int]
  ·rw[List.getElem?_eq_none (by simp[qC];omega),List.getElem?_eq_none (by simp;omega)]
 unfold BC
 simp only[hi,h1,h2,hb]
 rw[if_pos ⟨yAk _,by decide,rfl,rfl,by simp only[maxLen];omega,by omega⟩,if_neg (fun h=>h.2 h.1),if_pos trivial,if_pos (by decide),hz]
variable{E:aD}(hU:aI E)
include hU
theorem aP3(h0:E 167=none)(h1:E 192=some vG)(l r:List Int)(hl:l.length<=1000)(hr:r.length<=1000) :
  ∃F,AW r l 0 (List.replicate (l.length+r.length+1) 0)=F/\aN prog E 0 (.inl 167) [(dB.list 1).U l,(dB.list 1).U r] [] (fun p1 σ1=>p1=.dE 0 0 (jY F) 1/\σ1=[.box (.agg (F.map dB.U))]):=by
 refine⟨_,rfl,?_⟩
 obtain⟨F,hF⟩:=gn (AW r l 0 (List.replicate (l.length+r.length+1) 0))
 rw[hF]
 simp only[bJ]
 have w1:IntKind.i64.wrap ((l.length:Int)+r.length)=(l.length:Int)+r.length:=by rw[IntKind.wrap_i64];omega
 have w2:IntKind.i64.wrap ((l.length:Int)+r.length+1)=(l.length:Int)+r.length+1:=by rw[IntKind.wrap_i64];omega
 obtain⟨N,hN⟩:=gn (l.length+r.length+1)
 have hmk:=aP6 [] N (by omega)
 have w3:((l.length:Int)+r.length+1).toNat=N:=by omega
 have w4:(0:Int)<=(l.length:Int)+r.length+1:=by omega
 rw[hN]at hF
 apply aN.aK h0 func167 rfl
 focus(simp[show Tryz.f167.ntmps=_ from rfl,List.replicate];rfl)
 have gx:=An @w1 (An @w2 (An @w3 (An @w4 (@hmk))))
 refine aC ?_
 clear gx
 refine Wp.cJ (fun m fr σ=>∃(i:Nat) (o:List Int),∃gg:Nat->PD,(i+m=l.length/\o.length=N/\AW r (l.drop i) i o=F)/\fr=gg 0::.slice (sz 1 r) (r.map dB.U) .any::gg 2::gg 3::gg 4::.dE 0 0 N 1::gg 6::gg 7::gg 8::gg 9::gg 10::gg 11::gg 12::gg 13::gg 14::gg 15::gg 16::gg 17::gg 18::.slice (sz 1 l) (l.map dB.U) .any::.int .i64 l.length::.int .i64 i::gg 22::gg 23::gg 24::gg 25::gg 26::gg 27::gg 28::gg 29::gg 30::gg 31::gg 32::gg 33::gg 34::gg 35::gg 36::gg 37::gg 38::gg 39::gg 40::gg 41::gg 42::gg 43::gg 44::gg 45::gg 46::gg 47::gg 48::gg 49::gg 50::gg 51::gg 52::gg 53::gg 54::gg 55::gg 56::gg 57::gg 58::gg 59::gg 60::gg 61::gg 62::gg 63::gg 64::gg 65::gg 66::gg 67::[]/\σ=[.box (.agg (o.map dB.U))]) ?_ (l.length) (by refine⟨0,List.replicate N 0,?_⟩;exact bW (⟨by omega,by simp,hF⟩))
 rintro m fr σ ⟨i,o,gg,hI,rfl,rfl⟩
 obtain⟨hm,ho,hs⟩:=hI
 by_cases hi:i<l.length
 ·have q1:(i:Int)<(l.length:Int):=by omega
  obtain⟨a,ha⟩:=gn (l[i])
  have dT:l.drop i=a::l.drop (i+1):=by rw[yAq hi,ha]
  rw[dT]at hs
  unfold AW at hs
  obtain⟨Q,hQ⟩:=gn (wR a r i o 0)
  rw[hQ]at hs
  have hQl:Q.1.length=N:=by rw[<-hQ,aFc,ho]
  have gx:=An @q1 (An @hi (@ha))
  refine aC ?_
  clear gx
  obtain⟨M,hM⟩:∃M,M=m:=⟨_,rfl⟩
  rw[<-hM]at hm ⊢
  clear hM
  refine Wp.cJ (fun m fr σ=>∃(k:Nat) (o2:List Int) (c:Int),∃gg:Nat->PD,(k+m=r.length/\o2.length=N/\wR a (r.drop k) (i+k) o2 c=Q)/\fr=gg 0::.slice (sz 1 r) (r.map dB.U) .any::gg 2::gg 3::gg 4::.dE 0 0 N 1::.int .i64 i::.int .u64 a::.int .u64 c::gg 9::gg 10::gg 11::gg 12::gg 13::gg 14::gg 15::gg 16::gg 17::gg 18::.slice (sz 1 l) (l.map dB.U) .any::.int .i64 l.length::.int .i64 i::gg 22::gg 23::gg 24::gg 25::.slice (sz 1 r) (r.map dB.U) .any::.int .i64 r.length::.int .i64 k::gg 29::gg 30::gg 31::gg 32::gg 33::gg 34::gg 35::gg 36::gg 37::gg 38::gg 39::gg 40::gg 41::gg 42::gg 43::gg 44::gg 45::gg 46::gg 47::gg 48::gg 49::gg 50::gg 51::gg 52::gg 53::gg 54::gg 55::gg 56::gg 57::gg 58::gg 59::gg 60::gg 61::gg 62::gg 63::gg 64::gg 65::gg 66::gg 67::[]/\σ=[.box (.agg (o2.map dB.U))]) ?_ (r.length) (by refine⟨0,o,0,?_⟩;exact bW (⟨by omega,ho,hQ⟩))
  rintro m fr σ ⟨k,o2,c,gg,hI,rfl,rfl⟩
  obtain⟨hm2,jV,hs2⟩:=hI
  by_cases hk:k<r.length
  ·have q2:(k:Int)<(r.length:Int):=by omega
   obtain⟨b,hb⟩:=gn (r[k])
   have hc2:r.drop k=b::r.drop (k+1):=by rw[yAq hk,hb]
   rw[hc2]at hs2
   unfold wR at hs2
   obtain⟨p,hp⟩:=gn (i+k)
   rw[hp]at hs2
   have hlt:p<o2.length:=by omega
   obtain⟨v,hv⟩:=gn (o2[p])
   have hg:o2.getD p 0=v:=by rw[yBa,yAh hlt,hv];rfl
   rw[hg]at hs2
   have y0:IntKind.i64.wrap ((i:Int)+k)=(p:Int):=by rw[IntKind.wrap_i64];omega
   have hnk:p<N:=by omega
   obtain⟨X,hX⟩:=gn (pX (pX (v+pX (a*b))+c))
   rw[hX]at hs2
   unfold pX at hX
   obtain⟨Y,hY⟩:=gn (pX (X.tdiv 1000000000))
   rw[hY]at hs2
   unfold pX at hY
   obtain⟨Z,hZ⟩:=gn (X.tmod 1000000000)
   rw[hZ]at hs2
   obtain⟨A,hA⟩:=gn (o2.map dB.U)
   have hAn:A[p]?=some (.int .u64 v):=by rw[<-hA,yAo,yAh hlt,hv];rfl
   obtain⟨hAl,hAe⟩:=yA.1 hAn
   have hAs:A.set p (.int .u64 Z)=(o2.set p Z).map dB.U:=by rw[<-hA,List.map_set];rfl
   rw[hA]
   have hle:p+1<=A.length:=hAl
   have hAt:A.take p++PD.int .u64 Z::A.drop (p+1)=(o2.set p Z).map dB.U:=by
    rw[<-hAs,List.set_eq_take_append_cons_drop,if_pos hAl]
   have hnx:i+(k+1)=p+1:=by omega
   have gx:=An @q2 (An @hk (An @hb (An @y0 (An @hnk (An @hAn (An @hAe (An @hX (An @hY (An @hZ (An @hAl (@hle)))))))))))
   refine aC ?_
   clear gx
   refine bP.normal (m-1) (by omega) (by refine⟨k+1,o2.set p Z,Y,?_⟩;exact cW (⟨by omega,by simp[jV],by rw[hnx];exact hs2⟩) (by(first|rfl|(simp[hAt];repeat(first|rfl|(apply And.intro)))|(simp[hAt];done))) (by(first|rfl|(simp[hAt];repeat(first|rfl|(apply And.intro)))|(simp[hAt];done))))
  ·have q2:¬(k:Int)<(r.length:Int):=by omega
   obtain rfl:k=r.length:=by omega
   rw[List.drop_length]at hs2
   unfold wR at hs2
   subst hs2
   simp only at hs hQl
   obtain⟨p,hp⟩:=gn (i+r.length)
   rw[hp]at hs
   have hlt:p<o2.length:=by omega
   obtain⟨v,hv⟩:=gn (o2[p])
   have hg:o2.getD p 0=v:=by rw[yBa,yAh hlt,hv];rfl
   rw[hg]at hs
   have y0:IntKind.i64.wrap ((i:Int)+r.length)=(p:Int):=by rw[IntKind.wrap_i64];omega
   have hnk:p<N:=by omega
   obtain⟨Z,hZ⟩:=gn (pX (v+c))
   rw[hZ]at hs
   unfold pX at hZ
   obtain⟨A,hA⟩:=gn (o2.map dB.U)
   have hAn:A[p]?=some (.int .u64 v):=by rw[<-hA,yAo,yAh hlt,hv];rfl
   obtain⟨hAl,hAe⟩:=yA.1 hAn
   have hAs:A.set p (.int .u64 Z)=(o2.set p Z).map dB.U:=by rw[<-hA,List.map_set];rfl
   have hle:p+1<=A.length:=hAl
   have hAt:A.take p++PD.int .u64 Z::A.drop (p+1)=(o2.set p Z).map dB.U:=by
    rw[<-hAs,List.set_eq_take_append_cons_drop,if_pos hAl]
   rw[hA]
   have gx:=An @q2 (An @y0 (An @hnk (An @hAn (An @hAe (An @hZ (An @hAl (@hle)))))))
   refine aC ?_
   clear gx
   refine bP.normal (M-1) (by omega) (by refine⟨i+1,o2.set p Z,?_⟩;exact cW (⟨by omega,by simp[jV],hs⟩) (by(first|rfl|(simp[hAt];repeat(first|rfl|(apply And.intro)))|(simp[hAt];done))) (by(first|rfl|(simp[hAt];repeat(first|rfl|(apply And.intro)))|(simp[hAt];done))))
 ·have q1:¬(i:Int)<(l.length:Int):=by omega
  rw[List.drop_of_length_le (by omega)]at hs
  unfold AW at hs
  subst hs
  have hg:∀fl,vG fl [.dE 0 0 N 1] [.box (.agg (o.map dB.U))]=some (.dE 0 0 (jY o) 1,[.box (.agg (o.map dB.U))]):=fun fl=>by
   unfold vG
   simp only[List.getElem?_cons_zero,List.drop_zero]
   rw[yAz (by simp[ho]),V5]
   simp only
   rw[if_pos ⟨ho,by omega⟩]
  have gx:=An @q1 (An @h1 (@hg))
  refine aC ?_
  clear gx
  exact⟨_,_,rfl,rfl,rfl⟩
end
theorem aPY{E:aD}(hU:aI E):aI (E.add 192 vG):=by
 intro f' g' args p hf hg fl σ
 unfold aD.add at hf
 split at hf
 ·simp only[yAb]at hf
  subst hf
  unfold vG at hg ⊢
  split at hg
  ·rename_i z xs tok
   split at hg
   ·rename_i l hl
    split at hg
    ·rename_i hc
     simp only[yAb,yAc]at hg
     rw[if_pos hc,hg.1]
    ·cases hg
   ·cases hg
  ·simp at hg
  ·cases hg
 ·exact hU f' g' args p hf hg fl σ
def aE7(l:List UInt8):Bool:=l.all fun c=>decide (48<=c.toNat)&&decide (c.toNat<=57)
theorem aPZ{l:List UInt8}(h:aE7 l=true):OZ l:=fun c hc=>by
 have:=yAn.1 h c hc
 simpa using this
def W3:List PD->Option PD:=fun args=>match args with
 | [.str s]=>if aE7 s=true/\s.length<=1000 then some (.slice (if (J9 s).length=0 then 0 else 1) ((J9 s).map dB.U) .any)else none
 |_=>none
def W4:List PD->Option PD:=fun args=>match args with
 | [.slice z1 xs _,.slice z2 ys _]=>match vF xs,vF ys with
   |some l,some r=>if (l.length=0\/z1=1)/\(r.length=0\/z2=1)/\l.length<=1000/\r.length<=1000 then some (.slice (if (O9 l r).length=0 then 0 else 1) ((O9 l r).map dB.U) .any)else none
   |_,_=>none
 |_=>none
theorem W5{z:Nat}{l:List Int}{tok:Tok}(h:l.length=0\/z=1):PD.strip (.slice z (l.map dB.U) tok)=(dB.list 1).U l:=by
 rw[PD.lG,show(l.map dB.U).map PD.strip=l.map dB.U by rw[List.map_map];exact yBg fun x _=>dB.str x]
 rcases h with h|h
 ·rw[yAf h];rfl
 ·rw[h]
  show _=PD.slice (sz 1 l) (l.map dB.U) .any
  simp[sz]
theorem W6(l:List Int):(dB.list 1).U l=.slice (if l.length=0 then 0 else 1) (l.map dB.U) .any:=rfl
theorem aE8(σ:List aB)(k:Nat):∀l:List Int,(l.map dB.U).map (bA σ k)=l.map dB.U
 | []=>rfl
 |x::l=>by
  rw[List.map_cons,List.map_cons,aE8 σ k l]
  cases k<;>rfl
theorem aE9(F:List Int)(n:Nat)(hn:n<=F.length):bA [.box (.agg (F.map dB.U))] 2 (.dE 0 0 n 1)=.slice 1 ((F.take n).map dB.U) .any:=by
 simp only[bA,List.getElem?_cons_zero,PD.cells,yAe,List.drop_zero]
 rw[if_pos (by omega),aE8]
 simp[qF,List.map_take]
def Mg0:aD:=fun _=>none
theorem aP0:aE prog Mg0:=fun _ hg=>by cases hg
def PA:aD:=Mg0.add 192 vG
theorem aFa:aE prog PA:=aNZ aI.none aP0 rfl
theorem aFb:aI PA:=aPY aI.none
def Mg2:aD:=PA.add 186 (entry W3)
theorem aP1:aE prog Mg2:=aFa.D0 (by kernel_rfl) fun args p hg=>by
 unfold W3 at hg
 split at hg
 ·rename_i s
  split at hg
  ·rename_i hc
   simp only[yAb]at hg
   subst hg
   obtain⟨p1,σ1,e1,e2⟩:=aN3 aFb rfl rfl s hc.2 (aPZ hc.1)
   refine⟨p1,σ1,e1,by rw[e2];exact W6 _,rfl,?_⟩
   have:=(dB.list 1).dU (J9 s)
   rw[W6]at this
   exact this
  ·cases hg
 ·cases hg
def Mg3:aD:=PA.add 167 (entry W4)
theorem aP2:aE prog Mg3:=aFa.RX (by kernel_rfl) fun args p hg=>by
 unfold W4 at hg
 split at hg
 ·rename_i z1 xs t1 z2 ys t2
  split at hg
  ·rename_i l r hl hr
   split at hg
   ·rename_i hc
    obtain⟨c1,c2,c3,c4⟩:=hc
    simp only[yAb]at hg
    subst hg
    rw[J7 hl,J7 hr]
    simp only[List.map_cons,List.map_nil]
    rw[W5 c1,W5 c2]
    obtain⟨F,hF,hw⟩:=aP3 aFb rfl rfl l r c3 c4
    refine⟨2,_,_,aN.AL hw,?_,?_,?_⟩
    ·rw[aE9 F _ (V6 F),W5 (.inr rfl)]
     show _=(dB.list 1).U (O9 l r)
     unfold O9
     rw[hF]
    ·rw[aE9 F _ (V6 F)]
     have:=(dB.list 1).dU (F.take (jY F))
     rw[W6]at this
     exact this
    ·have h1:=(dB.list 1).dU l
     have h2:=(dB.list 1).dU r
     simp only[PD.eM,h1,h2,Bool.and_self]
   ·cases hg
  ·cases hg
 ·cases hg
def Bs6:aD:=Bs5.add 186 (entry W3)
theorem aP4:aE prog Bs6:=aE.pick aP1 aN7 rfl
def Bs7:aD:=Bs6.add 167 (entry W4)
theorem aPX:aE prog Bs7:=aE.pick aP2 aP4 rfl
end Go.Kz
namespace Go.Kz
set_option maxRecDepth 100000
section
open Go Go.Proofs Go.RowKit
def W0:List PD->Option PD:=fun args=>match args with
 | [.int .i64 n]=>if -9223372036854775808<=n/\n<=9223372036854775807 then some (.str (Lib.itoa n))else none
 |_=>none
theorem aPW{E:aD}(hE:aE prog E):aE prog (E.add 169 (entry W0)):=by
 refine hE.O1 ⟨_,func169,rfl⟩ fun args c vs p hg hs hv=>?_
 unfold W0 at hg
 split at hg
 ·rename_i n
  split at hg
  ·rename_i hc
   obtain⟨h0,h1⟩:=hc
   simp only[yAb]at hg
   subst hg
   obtain⟨v,rfl,h2⟩:=WJ hv
   rw[h2.int_eq]
   obtain⟨⟨cs,T,fz,hheap,hh⟩,_⟩:=hs.jZ.2 1 rfl
   have hcs:=hh.1 .u64 _ rfl
   have htab:Lib.TabIs prog c.w "internal/strconv.uint64pow10" .u64 Lib.pow10Tab:=by
    unfold Lib.TabIs World.var?
    have hg:prog.globalNamed "internal/strconv.uint64pow10" = some 1:=by kernel_rfl
    rw[hg]
    simp only[Option.bind_some,hheap]
    rw[hcs]
    rfl
   refine Calls.mono (Tryz.strconv_Itoa n h0 h1 c.w htab) fun e w' he=>?_
   obtain⟨rfl,k,os,rfl⟩:=he
   exact⟨_,rfl,⟨rfl,rfl,rfl,by simp[Go.Sort.grow],fun i hi _=>by simp[Go.Sort.grow,Array.getElem?_append,hi]⟩,fun _=>.str _⟩
  ·cases hg
 ·cases hg
def mO:aD:=Bs7.add 169 (entry W0)
theorem aEU:aE prog mO:=aPW aPX
end
end Go.Kz
end
