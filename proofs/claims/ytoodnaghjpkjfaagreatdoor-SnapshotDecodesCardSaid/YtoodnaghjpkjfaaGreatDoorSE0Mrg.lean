/- A part. -/
import Derived.Shelf.Strings.OnBuilder
import Derived.Shelf.Strings.BuilderF
import Derived.Shelf.Small.Strs
import Derived.Shelf.Small.Wraps
import Derived.Shelf.Strconv.Itoa0
import Derived.Shelf.Strconv.Itoa4
import Derived.Shelf.LaysM
import Derived.Shelf.Slices.Equal
import Derived.Shelf.Slices.Clone
import Derived.Shelf.Slices.Empties2
import Derived.Ground.Names2Prog
import Derived.Test.YtoodnaghjpkjfaaGreatDoorProg
import Derived.Shelf.Unicode.ValidAny
import Derived.Ground.NamesProg
import Derived.Shelf.Strings.Cut
import Derived.Shelf.Strings.Repeat
import Derived.Shelf.Strconv.AtoiAll
import Derived.Shelf.Strings.Prefix
import Derived.Shelf.Strings.Split
import Derived.Shelf.Strings.BuilderK
import Derived.Shelf.Spec.TrailingZeros
import Derived.Ground.Names7Prog
import Derived.Shelf.Strings.Search3
import Derived.Shelf.SlSortCmp.WholeK
import Derived.Ground.SlsfProg
namespace Go.Proofs
open Tryz
set_option linter.unusedVariables false
set_option linter.unusedSimpArgs false
theorem cs0 {α:Type _} {a b:α} (h:a=b:=by kernel_rfl):some a=some b:=congrArg some h
open Go.Shelf
def Tryz.lays156_ren:Go.Shelf.Ren:=⟨fun|156=>48|165=>97|166=>65|169=>54|240=>101|241=>153|276=>157|277=>209|n=>n,fun|31=>43|9=>9|3=>3|4=>4|0=>0|20=>20|72=>112|76=>102|70=>110|37=>40|75=>101|127=>159|164=>220|5=>5|80=>58|n=>n,fun|n=>n⟩
theorem Tryz.lays156:Go.Proofs.Lays.n156 Tryz.prog Tryz.lays156_ren:={
 mixed:=by kernel_rfl
 f156:=func48.trans cs0
 f165:=func97.trans cs0
 f166:=func65.trans cs0
 f169:=func54.trans cs0
 f240:=func101.trans cs0
 f241:=func153.trans cs0
 f276:=func157.trans cs0
 f277:=func209.trans cs0
 t0:=underlying0
 a0:=isAgg0
 z0:=sizeOf0
 v0:=zeroValue0
 t3:=underlying3
 a3:=isAgg3
 z3:=sizeOf3
 v3:=zeroValue3
 t4:=underlying4
 a4:=isAgg4
 z4:=sizeOf4
 v4:=zeroValue4
 t9:=underlying9
 a9:=isAgg9
 z9:=sizeOf9
 v9:=zeroValue9
 t20:=underlying20
 a20:=isAgg20
 z20:=sizeOf20
 v20:=zeroValue20
 t31:=underlying43
 a31:=isAgg43
 z31:=sizeOf43
 v31:=zeroValue43
 t37:=underlying40
 a37:=isAgg40
 z37:=sizeOf40
 v37:=zeroValue40
 t70:=underlying110
 a70:=isAgg110
 z70:=sizeOf110
 v70:=zeroValue110
 t72:=underlying112
 a72:=isAgg112
 z72:=sizeOf112
 v72:=zeroValue112
 t75:=underlying101
 a75:=isAgg101
 z75:=sizeOf101
 v75:=zeroValue101
 t76:=underlying102
 a76:=isAgg102
 z76:=sizeOf102
 v76:=zeroValue102
 t127:=underlying159
 a127:=isAgg159
 z127:=sizeOf159
 v127:=zeroValue159
 t164:=underlying220
 a164:=isAgg220
 z164:=sizeOf220
 v164:=zeroValue220 }
theorem Tryz.Builder_Extra_156:Builder.Extra Tryz.prog Tryz.lays156_ren:={
 sizeBuilder:=by kernel_rfl
 liesBuilder:=by kernel_rfl
 t5:=underlying5
 a5:=isAgg5
 z5:=sizeOf5
 v5:=zeroValue5
 infoByte:=by kernel_rfl
 cellsByte:=by kernel_rfl
 sizeByte:=by kernel_rfl
 neB5:=by decide }
open Go.RowKit in
theorem Tryz.strings_Join_none (a:Option Addr) (c:Nat) (sep:ByteArray) (w:World) :
 Calls Tryz.prog 48 #[.slice a 0 c,.string sep] w λe w'=>e=.returned (.string ⟨#[]⟩)/\w'=w:=Any.strings_Join_none Tryz.lays156 Tryz.Builder_Extra_156 a c sep w
open Go.RowKit in
theorem Tryz.strings_Join (bk o c:Nat) (xs:List ByteArray) (sep:ByteArray) (w:World) (hcells:∀(j:Nat) x,xs[j]?=some x->w.cell? ⟨bk,o+j,none⟩=some (.string x)) (hbk:bk<w.heap.size) (hN:xs.length<=140737488355328) (hcap:xs.length<=c) (hlen:(Lib.join (xs.map (·.data.toList)) sep.data.toList).length<=140737488355328) :
 Calls Tryz.prog 48 #[.slice (some ⟨bk,o,none⟩) xs.length c,.string sep] w λe w'=>e=.returned (.string ⟨(Lib.join (xs.map (·.data.toList)) sep.data.toList).toArray⟩)/\Below w.heap.size w w':=Any.strings_Join Tryz.lays156 Tryz.Builder_Extra_156 bk o c xs sep w hcells hbk hN hcap hlen
def Tryz.lays106_ren:Go.Shelf.Ren:=⟨fun|106=>185|213=>249|265=>276|n=>n,fun|9=>9|3=>3|n=>n,fun|n=>n⟩
theorem Tryz.lays106:Go.Proofs.Lays.n106 Tryz.prog Tryz.lays106_ren:={
 mixed:=by kernel_rfl
 f106:=func185.trans cs0
 f213:=func249.trans cs0
 f265:=func276.trans cs0
 t3:=underlying3
 a3:=isAgg3
 z3:=sizeOf3
 v3:=zeroValue3
 t9:=underlying9
 a9:=isAgg9
 z9:=sizeOf9
 v9:=zeroValue9 }
open Go.RowKit in
theorem Tryz.strings_Compare (a b:ByteArray) (w:World) :
 Calls Tryz.prog 185 #[.string a,.string b] w λe w'=>e=.returned (.int .i64 (Lib.compareBytes a.data.toList b.data.toList))/\w'=w:=Any.strings_Compare Tryz.lays106 a b w
def Tryz.lays122_ren:Go.Shelf.Ren:=⟨fun|122=>182|215=>248|n=>n,fun|3=>3|4=>4|n=>n,fun|n=>n⟩
theorem Tryz.lays122:Go.Proofs.Lays.n122 Tryz.prog Tryz.lays122_ren:={
 mixed:=by kernel_rfl
 f122:=func182.trans cs0
 f215:=func248.trans cs0
 t3:=underlying3
 a3:=isAgg3
 z3:=sizeOf3
 v3:=zeroValue3
 t4:=underlying4
 a4:=isAgg4
 z4:=sizeOf4
 v4:=zeroValue4 }
open Go.RowKit in
theorem Tryz.cmp_Compare_int (x y:Int) (w:World) :
 Calls Tryz.prog 182 #[.int .i64 x,.int .i64 y] w λe w'=>e=.returned (.int .i64 (Lib.compareInt x y))/\w'=w:=Any.cmp_Compare_int Tryz.lays122 x y w
def Tryz.laysM171_ren:Go.Shelf.Ren:=⟨fun|171=>64|243=>121|246=>139|283=>197|284=>198|285=>199|286=>200|129=>258|317=>257|318=>259|319=>260|320=>261|337=>282|338=>283|n=>n,fun|3=>3|9=>9|2=>2|4=>4|171=>257|0=>0|53=>113|37=>40|5=>5|173=>260|212=>293|51=>238|20=>20|213=>294|46=>186|232=>325|233=>326|n=>n,fun|17=>5|18=>6|19=>7|n=>n⟩
theorem Tryz.laysM171:Go.Proofs.LaysM.n171 Tryz.prog Tryz.laysM171_ren:={
 mixed:=by kernel_rfl
 f129:=func258.trans cs0
 f171:=func64.trans cs0
 f243:=func121.trans cs0
 f246:=func139.trans cs0
 f283:=func197.trans cs0
 f284:=func198.trans cs0
 f285:=func199.trans cs0
 f286:=func200.trans cs0
 f317:=func257.trans cs0
 f318:=func259.trans cs0
 f319:=func260.trans cs0
 f320:=func261.trans cs0
 f337:=func282.trans cs0
 f338:=func283.trans cs0
 t0:=underlying0
 a0:=isAgg0
 z0:=sizeOf0
 v0:=zeroValue0
 t2:=underlying2
 a2:=isAgg2
 z2:=sizeOf2
 v2:=zeroValue2
 t3:=underlying3
 a3:=isAgg3
 z3:=sizeOf3
 v3:=zeroValue3
 t4:=underlying4
 a4:=isAgg4
 z4:=sizeOf4
 v4:=zeroValue4
 t5:=underlying5
 a5:=isAgg5
 z5:=sizeOf5
 v5:=zeroValue5
 t9:=underlying9
 a9:=isAgg9
 z9:=sizeOf9
 v9:=zeroValue9
 t20:=underlying20
 a20:=isAgg20
 z20:=sizeOf20
 v20:=zeroValue20
 t37:=underlying40
 a37:=isAgg40
 z37:=sizeOf40
 v37:=zeroValue40
 t46:=underlying186
 a46:=isAgg186
 z46:=sizeOf186
 v46:=zeroValue186
 t51:=underlying238
 a51:=isAgg238
 z51:=sizeOf238
 v51:=zeroValue238
 t53:=underlying113
 a53:=isAgg113
 z53:=sizeOf113
 v53:=zeroValue113
 t171:=underlying257
 a171:=isAgg257
 z171:=sizeOf257
 v171:=zeroValue257
 t173:=underlying260
 a173:=isAgg260
 z173:=sizeOf260
 v173:=zeroValue260
 t212:=underlying293
 a212:=isAgg293
 z212:=sizeOf293
 v212:=zeroValue293
 t213:=underlying294
 a213:=isAgg294
 z213:=sizeOf294
 t232:=underlying325
 a232:=isAgg325
 z232:=sizeOf325
 v232:=zeroValue325
 t233:=underlying326
 a233:=isAgg326
 z233:=sizeOf326
 v233:=zeroValue326
 g17:=by kernel_rfl
 g18:=by kernel_rfl
 g19:=by kernel_rfl
 i0:=by kernel_rfl
 i2:=by kernel_rfl
 i3:=by kernel_rfl
 i4:=by kernel_rfl
 i5:=by kernel_rfl
 i9:=by kernel_rfl
 i20:=by kernel_rfl
 i37:=by kernel_rfl
 i46:=by kernel_rfl
 i51:=by kernel_rfl
 i53:=by kernel_rfl
 i171:=by kernel_rfl
 i173:=by kernel_rfl
 i212:=by kernel_rfl
 i232:=by kernel_rfl
 i233:=by kernel_rfl
 m17:=by kernel_rfl
 m18:=by kernel_rfl
 m19:=by kernel_rfl }
open Go.RowKit Go.Sort Go.Lib in
theorem Tryz.strconv_Itoa (n : Int) (h0 : -9223372036854775808 <= n) (h1 : n <= 9223372036854775807) (w : World) (htab : Lib.TabIs Tryz.prog w "internal/strconv.uint64pow10" .u64 Lib.pow10Tab) :
 Calls Tryz.prog 64 #[.int .i64 n] w λe w'=>e=.returned (.string ⟨(Lib.itoa n).toArray⟩)/\∃k os,w'=grow (w.drewN k) os:=Any.strconv_Itoa Tryz.laysM171 n h0 h1 w htab
end Go.Proofs

namespace Go.Proofs
open Go.Shelf
def Tryz.laysValid_ren:Go.Shelf.Ren:=⟨fun|196=>191|259=>251|n=>n,fun|9=>9|4=>4|3=>3|5=>5|12=>12|119=>283|0=>0|46=>186|139=>286|138=>285|53=>113|n=>n,fun|3=>3|4=>4|n=>n⟩
theorem Tryz.laysValid:Go.Proofs.Lays.n196 Tryz.prog Tryz.laysValid_ren:={
 mixed:=by kernel_rfl
 f196:=func191.trans cs0
 f259:=func251.trans cs0
 t0:=underlying0
 a0:=isAgg0
 z0:=sizeOf0
 v0:=zeroValue0
 t3:=underlying3
 a3:=isAgg3
 z3:=sizeOf3
 v3:=zeroValue3
 t4:=underlying4
 a4:=isAgg4
 z4:=sizeOf4
 v4:=zeroValue4
 t5:=underlying5
 a5:=isAgg5
 z5:=sizeOf5
 v5:=zeroValue5
 t9:=underlying9
 a9:=isAgg9
 z9:=sizeOf9
 v9:=zeroValue9
 t12:=underlying12
 a12:=isAgg12
 z12:=sizeOf12
 v12:=zeroValue12
 t46:=underlying186
 a46:=isAgg186
 z46:=sizeOf186
 v46:=zeroValue186
 t53:=underlying113
 a53:=isAgg113
 z53:=sizeOf113
 v53:=zeroValue113
 t119:=underlying283
 a119:=isAgg283
 z119:=sizeOf283
 t138:=underlying285
 a138:=isAgg285
 z138:=sizeOf285
 v138:=zeroValue285
 t139:=underlying286
 a139:=isAgg286
 z139:=sizeOf286
 v139:=zeroValue286
 g3:=by kernel_rfl
 g4:=by kernel_rfl }
open Go.RowKit Go.Lib in
theorem Tryz.utf8_ValidString (s:ByteArray) (w:World) (hs:s.size<=9223372036854775807) (hT:Lib.Utf8Tabs (Tryz.laysValid_ren.g 3) (Tryz.laysValid_ren.g 4) w) :
 Calls Tryz.prog 191 #[.string s] w λe w'=>e=.returned (.bool (Lib.validD s.data.toList))/\Below w.heap.size w w':=Any.utf8_ValidString Tryz.laysValid s w hs hT
end Go.Proofs

namespace Go.Proofs
open Go.Shelf
def Tryz.lays145_ren:Go.Shelf.Ren:=⟨fun|145=>50|220=>98|219=>143|217=>102|225=>202|224=>203|267=>204|266=>158|314=>262|n=>n,fun|9=>9|4=>4|59=>108|3=>3|5=>5|46=>186|146=>239|51=>238|n=>n,fun|1=>0|n=>n⟩
theorem Tryz.lays145:Go.Proofs.Lays.n145 Tryz.prog Tryz.lays145_ren:={
 mixed:=by kernel_rfl
 f145:=func50.trans cs0
 f217:=func102.trans cs0
 f219:=func143.trans cs0
 f220:=func98.trans cs0
 f224:=func203.trans cs0
 f225:=func202.trans cs0
 f266:=func158.trans cs0
 f267:=func204.trans cs0
 f314:=func262.trans cs0
 t3:=underlying3
 a3:=isAgg3
 z3:=sizeOf3
 v3:=zeroValue3
 t4:=underlying4
 a4:=isAgg4
 z4:=sizeOf4
 v4:=zeroValue4
 t5:=underlying5
 a5:=isAgg5
 z5:=sizeOf5
 v5:=zeroValue5
 t9:=underlying9
 a9:=isAgg9
 z9:=sizeOf9
 v9:=zeroValue9
 t46:=underlying186
 a46:=isAgg186
 z46:=sizeOf186
 v46:=zeroValue186
 t51:=underlying238
 a51:=isAgg238
 z51:=sizeOf238
 v51:=zeroValue238
 t59:=underlying108
 a59:=isAgg108
 z59:=sizeOf108
 v59:=zeroValue108
 t146:=underlying239
 a146:=isAgg239
 z146:=sizeOf239
 v146:=zeroValue239
 g1:=by kernel_rfl }
open Go.RowKit Go.Lib in
theorem Tryz.strings_Cut (s sep:ByteArray) (m:Int) (w:World) (hs:s.size<4294967281) (hm:w.cell? ⟨0,0,none⟩=some (.int .i64 m)) :
 Calls Tryz.prog 50 #[.string s,.string sep] w λe w'=>e=.returned (.tuple #[.string ⟨(Lib.cut s.data.toList sep.data.toList).1.toArray⟩,.string ⟨(Lib.cut s.data.toList sep.data.toList).2.1.toArray⟩,.bool (Lib.cut s.data.toList sep.data.toList).2.2])/\∃n,w'=w.drewN n:=Any.strings_Cut Tryz.lays145 s sep m w hs hm
def Tryz.lays121_ren:Go.Shelf.Ren:=⟨fun|121=>192|214=>252|n=>n,fun|4=>4|9=>9|n=>n,fun|n=>n⟩
theorem Tryz.lays121:Go.Proofs.Lays.n121 Tryz.prog Tryz.lays121_ren:={
 mixed:=by kernel_rfl
 f121:=func192.trans cs0
 f214:=func252.trans cs0
 t4:=underlying4
 a4:=isAgg4
 z4:=sizeOf4
 v4:=zeroValue4
 t9:=underlying9
 a9:=isAgg9
 z9:=sizeOf9
 v9:=zeroValue9 }
open Go.RowKit Go.Lib in
theorem Tryz.strconv_FormatBool (b:Bool) (w:World) :
 Calls Tryz.prog 192 #[.bool b] w λe w'=>e=.returned (.string ⟨(Lib.formatBool b).toArray⟩)/\w'=w:=Any.strconv_FormatBool Tryz.lays121 b w
def Tryz.lays105_ren:Go.Shelf.Ren:=⟨fun|105=>69|212=>122|99=>46|165=>97|166=>65|170=>123|169=>54|263=>177|264=>178|206=>94|240=>101|241=>153|276=>157|277=>209|n=>n,fun|9=>9|3=>3|4=>4|20=>20|0=>0|46=>186|109=>187|5=>5|72=>112|76=>102|51=>238|146=>239|53=>113|148=>241|70=>110|37=>40|75=>101|127=>159|164=>220|80=>58|n=>n,fun|n=>n⟩
theorem Tryz.lays105:Go.Proofs.Lays.n105 Tryz.prog Tryz.lays105_ren:={
 mixed:=by kernel_rfl
 f99:=func46.trans cs0
 f105:=func69.trans cs0
 f165:=func97.trans cs0
 f166:=func65.trans cs0
 f169:=func54.trans cs0
 f170:=func123.trans cs0
 f206:=func94.trans cs0
 f212:=func122.trans cs0
 f240:=func101.trans cs0
 f241:=func153.trans cs0
 f263:=func177.trans cs0
 f264:=func178.trans cs0
 f276:=func157.trans cs0
 f277:=func209.trans cs0
 t0:=underlying0
 a0:=isAgg0
 z0:=sizeOf0
 v0:=zeroValue0
 t3:=underlying3
 a3:=isAgg3
 z3:=sizeOf3
 v3:=zeroValue3
 t4:=underlying4
 a4:=isAgg4
 z4:=sizeOf4
 v4:=zeroValue4
 t5:=underlying5
 a5:=isAgg5
 z5:=sizeOf5
 v5:=zeroValue5
 t9:=underlying9
 a9:=isAgg9
 z9:=sizeOf9
 v9:=zeroValue9
 t20:=underlying20
 a20:=isAgg20
 z20:=sizeOf20
 v20:=zeroValue20
 t37:=underlying40
 a37:=isAgg40
 z37:=sizeOf40
 v37:=zeroValue40
 t46:=underlying186
 a46:=isAgg186
 z46:=sizeOf186
 v46:=zeroValue186
 t51:=underlying238
 a51:=isAgg238
 z51:=sizeOf238
 v51:=zeroValue238
 t53:=underlying113
 a53:=isAgg113
 z53:=sizeOf113
 v53:=zeroValue113
 t70:=underlying110
 a70:=isAgg110
 z70:=sizeOf110
 v70:=zeroValue110
 t72:=underlying112
 a72:=isAgg112
 z72:=sizeOf112
 v72:=zeroValue112
 t75:=underlying101
 a75:=isAgg101
 z75:=sizeOf101
 v75:=zeroValue101
 t76:=underlying102
 a76:=isAgg102
 z76:=sizeOf102
 v76:=zeroValue102
 t109:=underlying187
 a109:=isAgg187
 z109:=sizeOf187
 v109:=zeroValue187
 t127:=underlying159
 a127:=isAgg159
 z127:=sizeOf159
 v127:=zeroValue159
 t146:=underlying239
 a146:=isAgg239
 z146:=sizeOf239
 v146:=zeroValue239
 t148:=underlying241
 a148:=isAgg241
 z148:=sizeOf241
 v148:=zeroValue241
 t164:=underlying220
 a164:=isAgg220
 z164:=sizeOf220
 v164:=zeroValue220 }
theorem Tryz.Builder_Extra_105:Builder.Extra Tryz.prog Tryz.lays105_ren:={
 sizeBuilder:=by kernel_rfl
 liesBuilder:=by kernel_rfl
 t5:=underlying5
 a5:=isAgg5
 z5:=sizeOf5
 v5:=zeroValue5
 infoByte:=by kernel_rfl
 cellsByte:=by kernel_rfl
 sizeByte:=by kernel_rfl
 neB5:=by decide }
open Go.RowKit Go.Lib in
theorem Tryz.strings_Repeat (s:ByteArray) (c:Nat) (w:World) (hc:c<=9223372036854775807) (hlen:s.size * c<=140737488355328) :
 Calls Tryz.prog 69 #[.string s,.int .i64 c] w λe w'=>e=.returned (.string ⟨(Lib.repeatL s.data.toList c).toArray⟩)/\Below w.heap.size w w':=Any.strings_Repeat Tryz.lays105 Tryz.Builder_Extra_105 s c w hc hlen
def Tryz.laysC172_ren:Go.Shelf.Ren:=⟨fun|172=>45|244=>92|245=>93|247=>144|279=>145|280=>146|281=>147|282=>148|287=>100|316=>205|171=>64|205=>206|321=>155|322=>156|243=>121|246=>139|283=>197|284=>198|285=>199|286=>200|129=>258|317=>257|318=>259|319=>260|320=>261|337=>282|338=>283|n=>n,fun|9=>9|3=>3|75=>101|76=>102|4=>4|5=>5|167=>208|37=>40|0=>0|85=>209|2=>2|168=>211|53=>113|175=>114|46=>186|210=>264|127=>159|145=>299|143=>297|21=>21|171=>257|173=>260|212=>293|51=>238|20=>20|213=>294|232=>325|233=>326|80=>58|n=>n,fun|15=>1|16=>2|17=>5|18=>6|19=>7|n=>n⟩
theorem Tryz.laysC172:Go.Proofs.LaysC.n172 Tryz.prog Tryz.laysC172_ren:={
 mixed:=by kernel_rfl
 f129:=func258.trans cs0
 f171:=func64.trans cs0
 f172:=func45.trans cs0
 f205:=func206.trans cs0
 f243:=func121.trans cs0
 f244:=func92.trans cs0
 f245:=func93.trans cs0
 f246:=func139.trans cs0
 f247:=func144.trans cs0
 f279:=func145.trans cs0
 f280:=func146.trans cs0
 f281:=func147.trans cs0
 f282:=func148.trans cs0
 f283:=func197.trans cs0
 f284:=func198.trans cs0
 f285:=func199.trans cs0
 f286:=func200.trans cs0
 f287:=func100.trans cs0
 f316:=func205.trans cs0
 f317:=func257.trans cs0
 f318:=func259.trans cs0
 f319:=func260.trans cs0
 f320:=func261.trans cs0
 f321:=func155.trans cs0
 f322:=func156.trans cs0
 f337:=func282.trans cs0
 f338:=func283.trans cs0
 t0:=underlying0
 a0:=isAgg0
 z0:=sizeOf0
 v0:=zeroValue0
 t2:=underlying2
 a2:=isAgg2
 z2:=sizeOf2
 v2:=zeroValue2
 t3:=underlying3
 a3:=isAgg3
 z3:=sizeOf3
 v3:=zeroValue3
 t4:=underlying4
 a4:=isAgg4
 z4:=sizeOf4
 v4:=zeroValue4
 t5:=underlying5
 a5:=isAgg5
 z5:=sizeOf5
 v5:=zeroValue5
 t9:=underlying9
 a9:=isAgg9
 z9:=sizeOf9
 v9:=zeroValue9
 t20:=underlying20
 a20:=isAgg20
 z20:=sizeOf20
 v20:=zeroValue20
 t21:=underlying21
 a21:=isAgg21
 z21:=sizeOf21
 v21:=zeroValue21
 t37:=underlying40
 a37:=isAgg40
 z37:=sizeOf40
 v37:=zeroValue40
 t46:=underlying186
 a46:=isAgg186
 z46:=sizeOf186
 v46:=zeroValue186
 t51:=underlying238
 a51:=isAgg238
 z51:=sizeOf238
 v51:=zeroValue238
 t53:=underlying113
 a53:=isAgg113
 z53:=sizeOf113
 v53:=zeroValue113
 t75:=underlying101
 a75:=isAgg101
 z75:=sizeOf101
 v75:=zeroValue101
 t76:=underlying102
 a76:=isAgg102
 z76:=sizeOf102
 v76:=zeroValue102
 t85:=underlying209
 a85:=isAgg209
 z85:=sizeOf209
 v85:=zeroValue209
 t127:=underlying159
 a127:=isAgg159
 z127:=sizeOf159
 v127:=zeroValue159
 t143:=underlying297
 a143:=isAgg297
 z143:=sizeOf297
 v143:=zeroValue297
 t145:=underlying299
 a145:=isAgg299
 z145:=sizeOf299
 v145:=zeroValue299
 t167:=underlying208
 a167:=isAgg208
 z167:=sizeOf208
 v167:=zeroValue208
 t168:=underlying211
 a168:=isAgg211
 z168:=sizeOf211
 v168:=zeroValue211
 t171:=underlying257
 a171:=isAgg257
 z171:=sizeOf257
 v171:=zeroValue257
 t173:=underlying260
 a173:=isAgg260
 z173:=sizeOf260
 v173:=zeroValue260
 t175:=underlying114
 a175:=isAgg114
 z175:=sizeOf114
 v175:=zeroValue114
 t210:=underlying264
 a210:=isAgg264
 z210:=sizeOf264
 v210:=zeroValue264
 t212:=underlying293
 a212:=isAgg293
 z212:=sizeOf293
 v212:=zeroValue293
 t213:=underlying294
 a213:=isAgg294
 z213:=sizeOf294
 t232:=underlying325
 a232:=isAgg325
 z232:=sizeOf325
 v232:=zeroValue325
 t233:=underlying326
 a233:=isAgg326
 z233:=sizeOf326
 v233:=zeroValue326
 g15:=by kernel_rfl
 g16:=by kernel_rfl
 g17:=by kernel_rfl
 g18:=by kernel_rfl
 g19:=by kernel_rfl
 t80:=underlying58
 a80:=isAgg58
 z80:=sizeOf58
 v80:=zeroValue58
 i0:=by kernel_rfl
 i2:=by kernel_rfl
 i3:=by kernel_rfl
 i4:=by kernel_rfl
 i5:=by kernel_rfl
 i9:=by kernel_rfl
 i20:=by kernel_rfl
 i21:=by kernel_rfl
 i37:=by kernel_rfl
 i46:=by kernel_rfl
 i51:=by kernel_rfl
 i53:=by kernel_rfl
 i75:=by kernel_rfl
 i76:=by kernel_rfl
 i80:=by kernel_rfl
 i85:=by kernel_rfl
 i127:=by kernel_rfl
 i143:=by kernel_rfl
 i145:=by kernel_rfl
 i167:=by kernel_rfl
 i168:=by kernel_rfl
 i171:=by kernel_rfl
 i173:=by kernel_rfl
 i175:=by kernel_rfl
 i210:=by kernel_rfl
 i212:=by kernel_rfl
 i232:=by kernel_rfl
 i233:=by kernel_rfl
 m15:=by kernel_rfl
 m16:=by kernel_rfl
 m17:=by kernel_rfl
 m18:=by kernel_rfl
 m19:=by kernel_rfl
 c0:=by kernel_rfl
 c2:=by kernel_rfl
 c3:=by kernel_rfl
 c4:=by kernel_rfl
 c5:=by kernel_rfl
 c9:=by kernel_rfl
 c20:=by kernel_rfl
 c21:=by kernel_rfl
 c37:=by kernel_rfl
 c46:=by kernel_rfl
 c51:=by kernel_rfl
 c53:=by kernel_rfl
 c75:=by kernel_rfl
 c76:=by kernel_rfl
 c80:=by kernel_rfl
 c85:=by kernel_rfl
 c127:=by kernel_rfl
 c143:=by kernel_rfl
 c145:=by kernel_rfl
 c167:=by kernel_rfl
 c168:=by kernel_rfl
 c171:=by kernel_rfl
 c173:=by kernel_rfl
 c175:=by kernel_rfl
 c210:=by kernel_rfl
 c212:=by kernel_rfl
 c213:=by kernel_rfl
 c232:=by kernel_rfl
 c233:=by kernel_rfl }
open Go.RowKit Go.Lib in
theorem Tryz.strconv_Atoi_ok (s:ByteArray) (hmax:s.size<=9223372036854775806) (v:Int) (h:Lib.atoiAll s.data.toList=.ok v) (w:World) :
 Calls Tryz.prog 45 #[.string s] w λe w'=>e=.returned (.tuple #[.int .i64 v,.nilIface])/\(w'=w\/∃t,w'=Lib.bytesWorld w 5 t):=Any.strconv_Atoi_ok Tryz.laysC172 s hmax v h w
open Go.RowKit Go.Lib in
theorem Tryz.strconv_Atoi_range (s:ByteArray) (hlim:s.size<=281474976710656) (h:Lib.atoiAll s.data.toList=.range) (ev:Value) (w:World) (hv:w.cell? ⟨2,0,none⟩=some ev) (hev:ev=.nilIface\/∃te pe,ev=.iface te pe) :
 Calls Tryz.prog 45 #[.string s] w λe w'=>∃N,e=.returned (.tuple #[.int .i64 (Lib.atoiSat s.data.toList),.iface 211 (.pointer (some ⟨N,0,none⟩))])/\w.heap.size<=N/\w'.heap[N]?=some (.cells #[.string ⟨#[65,116,111,105]⟩,.string s,ev] 264 (0,0))/\Below w.heap.size w w':=Any.strconv_Atoi_range Tryz.laysC172 s hlim h ev w hv hev
end Go.Proofs

namespace Go.Proofs
open Go.Shelf
def Tryz.lays137_ren:Go.Shelf.Ren:=⟨fun|137=>55|217=>102|266=>158|n=>n,fun|9=>9|5=>5|3=>3|n=>n,fun|n=>n⟩
theorem Tryz.lays137:Go.Proofs.Lays.n137 Tryz.prog Tryz.lays137_ren:={
 mixed:=by kernel_rfl
 f137:=func55.trans cs0
 f217:=func102.trans cs0
 f266:=func158.trans cs0
 t3:=underlying3
 a3:=isAgg3
 z3:=sizeOf3
 v3:=zeroValue3
 t5:=underlying5
 a5:=isAgg5
 z5:=sizeOf5
 v5:=zeroValue5
 t9:=underlying9
 a9:=isAgg9
 z9:=sizeOf9
 v9:=zeroValue9 }
open Go.RowKit Go.Lib in
theorem Tryz.strings_IndexByte (s:ByteArray) (c:Int) (w:World) :
 Calls Tryz.prog 55 #[.string s,.int .u8 c] w λe w'=>e=.returned (.int .i64 (Lib.indexByte s.data.toList c.toNat.toUInt8))/\w'=w:=Any.strings_IndexByte Tryz.lays137 s c w
def Tryz.lays99_ren:Go.Shelf.Ren:=⟨fun|99=>46|206=>94|n=>n,fun|9=>9|4=>4|3=>3|n=>n,fun|n=>n⟩
theorem Tryz.lays99:Go.Proofs.Lays.n99 Tryz.prog Tryz.lays99_ren:={
 mixed:=by kernel_rfl
 f99:=func46.trans cs0
 f206:=func94.trans cs0
 t3:=underlying3
 a3:=isAgg3
 z3:=sizeOf3
 v3:=zeroValue3
 t4:=underlying4
 a4:=isAgg4
 z4:=sizeOf4
 v4:=zeroValue4
 t9:=underlying9
 a9:=isAgg9
 z9:=sizeOf9
 v9:=zeroValue9 }
open Go.RowKit Go.Lib in
theorem Tryz.strings_HasPrefix (s p:ByteArray) (w:World) :
 Calls Tryz.prog 46 #[.string s,.string p] w λe w'=>e=.returned (.bool (Lib.hasPrefix s.data.toList p.data.toList))/\w'=w:=Any.strings_HasPrefix Tryz.lays99 s p w
def Tryz.lays101_ren:Go.Shelf.Ren:=⟨fun|101=>284|208=>297|206=>94|n=>n,fun|9=>9|4=>4|3=>3|n=>n,fun|n=>n⟩
theorem Tryz.lays101:Go.Proofs.Lays.n101 Tryz.prog Tryz.lays101_ren:={
 mixed:=by kernel_rfl
 f101:=func284.trans cs0
 f206:=func94.trans cs0
 f208:=func297.trans cs0
 t3:=underlying3
 a3:=isAgg3
 z3:=sizeOf3
 v3:=zeroValue3
 t4:=underlying4
 a4:=isAgg4
 z4:=sizeOf4
 v4:=zeroValue4
 t9:=underlying9
 a9:=isAgg9
 z9:=sizeOf9
 v9:=zeroValue9 }
open Go.RowKit Go.Lib in
theorem Tryz.strings_TrimPrefix (s p:ByteArray) (w:World) :
 Calls Tryz.prog 284 #[.string s,.string p] w λe w'=>e=.returned (.string ⟨(Lib.trimPrefix s.data.toList p.data.toList).toArray⟩)/\w'=w:=Any.strings_TrimPrefix Tryz.lays101 s p w
def Tryz.lays102_ren:Go.Shelf.Ren:=⟨fun|102=>151|209=>208|207=>154|n=>n,fun|9=>9|4=>4|3=>3|n=>n,fun|n=>n⟩
theorem Tryz.lays102:Go.Proofs.Lays.n102 Tryz.prog Tryz.lays102_ren:={
 mixed:=by kernel_rfl
 f102:=func151.trans cs0
 f207:=func154.trans cs0
 f209:=func208.trans cs0
 t3:=underlying3
 a3:=isAgg3
 z3:=sizeOf3
 v3:=zeroValue3
 t4:=underlying4
 a4:=isAgg4
 z4:=sizeOf4
 v4:=zeroValue4
 t9:=underlying9
 a9:=isAgg9
 z9:=sizeOf9
 v9:=zeroValue9 }
open Go.RowKit Go.Lib in
theorem Tryz.strings_TrimSuffix (s p:ByteArray) (w:World) (hs:s.size<=9223372036854775807) :
 Calls Tryz.prog 151 #[.string s,.string p] w λe w'=>e=.returned (.string ⟨(Lib.trimSuffix s.data.toList p.data.toList).toArray⟩)/\w'=w:=Any.strings_TrimSuffix Tryz.lays102 s p w hs
def Tryz.lays103_ren:Go.Shelf.Ren:=⟨fun|103=>44|210=>91|206=>94|n=>n,fun|9=>9|4=>4|24=>98|3=>3|n=>n,fun|n=>n⟩
theorem Tryz.lays103:Go.Proofs.Lays.n103 Tryz.prog Tryz.lays103_ren:={
 mixed:=by kernel_rfl
 f103:=func44.trans cs0
 f206:=func94.trans cs0
 f210:=func91.trans cs0
 t3:=underlying3
 a3:=isAgg3
 z3:=sizeOf3
 v3:=zeroValue3
 t4:=underlying4
 a4:=isAgg4
 z4:=sizeOf4
 v4:=zeroValue4
 t9:=underlying9
 a9:=isAgg9
 z9:=sizeOf9
 v9:=zeroValue9
 t24:=underlying98
 a24:=isAgg98
 z24:=sizeOf98
 v24:=zeroValue98 }
open Go.RowKit Go.Lib in
theorem Tryz.strings_CutPrefix (s p:ByteArray) (w:World) :
 Calls Tryz.prog 44 #[.string s,.string p] w λe w'=>e=.returned (.tuple #[.string ⟨(Lib.trimPrefix s.data.toList p.data.toList).toArray⟩,.bool (Lib.hasPrefix s.data.toList p.data.toList)])/\w'=w:=Any.strings_CutPrefix Tryz.lays103 s p w
def Tryz.lays146_ren:Go.Shelf.Ren:=⟨fun|146=>10|221=>43|268=>88|138=>89|143=>90|195=>140|197=>141|218=>142|219=>143|260=>201|217=>102|225=>202|224=>203|267=>204|266=>158|314=>262|n=>n,fun|9=>9|31=>43|3=>3|4=>4|0=>0|105=>206|21=>21|5=>5|46=>186|119=>283|139=>286|138=>285|146=>239|51=>238|n=>n,fun|1=>0|3=>3|4=>4|n=>n⟩
theorem Tryz.lays146:Go.Proofs.Lays.n146 Tryz.prog Tryz.lays146_ren:={
 mixed:=by kernel_rfl
 f138:=func89.trans cs0
 f143:=func90.trans cs0
 f146:=func10.trans cs0
 f195:=func140.trans cs0
 f197:=func141.trans cs0
 f217:=func102.trans cs0
 f218:=func142.trans cs0
 f219:=func143.trans cs0
 f221:=func43.trans cs0
 f224:=func203.trans cs0
 f225:=func202.trans cs0
 f260:=func201.trans cs0
 f266:=func158.trans cs0
 f267:=func204.trans cs0
 f268:=func88.trans cs0
 f314:=func262.trans cs0
 t0:=underlying0
 a0:=isAgg0
 z0:=sizeOf0
 v0:=zeroValue0
 t3:=underlying3
 a3:=isAgg3
 z3:=sizeOf3
 v3:=zeroValue3
 t4:=underlying4
 a4:=isAgg4
 z4:=sizeOf4
 v4:=zeroValue4
 t5:=underlying5
 a5:=isAgg5
 z5:=sizeOf5
 v5:=zeroValue5
 t9:=underlying9
 a9:=isAgg9
 z9:=sizeOf9
 v9:=zeroValue9
 t21:=underlying21
 a21:=isAgg21
 z21:=sizeOf21
 v21:=zeroValue21
 t31:=underlying43
 a31:=isAgg43
 z31:=sizeOf43
 v31:=zeroValue43
 t46:=underlying186
 a46:=isAgg186
 z46:=sizeOf186
 v46:=zeroValue186
 t51:=underlying238
 a51:=isAgg238
 z51:=sizeOf238
 v51:=zeroValue238
 t105:=underlying206
 a105:=isAgg206
 z105:=sizeOf206
 v105:=zeroValue206
 t119:=underlying283
 a119:=isAgg283
 z119:=sizeOf283
 t138:=underlying285
 a138:=isAgg285
 z138:=sizeOf285
 v138:=zeroValue285
 t139:=underlying286
 a139:=isAgg286
 z139:=sizeOf286
 v139:=zeroValue286
 t146:=underlying239
 a146:=isAgg239
 z146:=sizeOf239
 v146:=zeroValue239
 g1:=by kernel_rfl
 g3:=by kernel_rfl
 g4:=by kernel_rfl }
open Go.RowKit Go.Lib in
theorem Tryz.strings_Split (s sep:ByteArray) (m:Int) (w:World) (hs:s.size<4294967281) (hm:w.cell? ⟨0,0,none⟩=some (.int .i64 m)) (h1:1<=sep.size) :
 Calls Tryz.prog 10 #[.string s,.string sep] w λe w' =>
  e=.returned (.slice (some ⟨w.heap.size,0,none⟩) (Lib.countB s sep+1) (Lib.countB s sep+1))/\w'=w.alloc (.cells ((Lib.splitB sep 0 (Lib.countB s sep) s).map Value.string).toArray 9):=Any.strings_Split Tryz.lays146 (by kernel_rfl) s sep m w hs hm h1
def Tryz.lays147_ren:Go.Shelf.Ren:=⟨fun|147=>56|221=>43|268=>88|138=>89|143=>90|195=>140|197=>141|218=>142|219=>143|260=>201|217=>102|225=>202|224=>203|267=>204|266=>158|314=>262|n=>n,fun|9=>9|3=>3|31=>43|4=>4|0=>0|105=>206|21=>21|5=>5|46=>186|119=>283|139=>286|138=>285|146=>239|51=>238|n=>n,fun|1=>0|3=>3|4=>4|n=>n⟩
theorem Tryz.lays147:Go.Proofs.Lays.n147 Tryz.prog Tryz.lays147_ren:={
 mixed:=by kernel_rfl
 f138:=func89.trans cs0
 f143:=func90.trans cs0
 f147:=func56.trans cs0
 f195:=func140.trans cs0
 f197:=func141.trans cs0
 f217:=func102.trans cs0
 f218:=func142.trans cs0
 f219:=func143.trans cs0
 f221:=func43.trans cs0
 f224:=func203.trans cs0
 f225:=func202.trans cs0
 f260:=func201.trans cs0
 f266:=func158.trans cs0
 f267:=func204.trans cs0
 f268:=func88.trans cs0
 f314:=func262.trans cs0
 t0:=underlying0
 a0:=isAgg0
 z0:=sizeOf0
 v0:=zeroValue0
 t3:=underlying3
 a3:=isAgg3
 z3:=sizeOf3
 v3:=zeroValue3
 t4:=underlying4
 a4:=isAgg4
 z4:=sizeOf4
 v4:=zeroValue4
 t5:=underlying5
 a5:=isAgg5
 z5:=sizeOf5
 v5:=zeroValue5
 t9:=underlying9
 a9:=isAgg9
 z9:=sizeOf9
 v9:=zeroValue9
 t21:=underlying21
 a21:=isAgg21
 z21:=sizeOf21
 v21:=zeroValue21
 t31:=underlying43
 a31:=isAgg43
 z31:=sizeOf43
 v31:=zeroValue43
 t46:=underlying186
 a46:=isAgg186
 z46:=sizeOf186
 v46:=zeroValue186
 t51:=underlying238
 a51:=isAgg238
 z51:=sizeOf238
 v51:=zeroValue238
 t105:=underlying206
 a105:=isAgg206
 z105:=sizeOf206
 v105:=zeroValue206
 t119:=underlying283
 a119:=isAgg283
 z119:=sizeOf283
 t138:=underlying285
 a138:=isAgg285
 z138:=sizeOf285
 v138:=zeroValue285
 t139:=underlying286
 a139:=isAgg286
 z139:=sizeOf286
 v139:=zeroValue286
 t146:=underlying239
 a146:=isAgg239
 z146:=sizeOf239
 v146:=zeroValue239
 g1:=by kernel_rfl
 g3:=by kernel_rfl
 g4:=by kernel_rfl }
open Go.RowKit Go.Lib in
theorem Tryz.strings_SplitN (s sep:ByteArray) (n:Nat) (m:Int) (w:World) (hs:s.size<4294967281) (hm:w.cell? ⟨0,0,none⟩=some (.int .i64 m)) (h1:1<=sep.size) (hn:1<=n) (hn63:n<=9223372036854775807) :
 Calls Tryz.prog 56 #[.string s,.string sep,.int .i64 n] w λe w' =>
  e=.returned (.slice (some ⟨w.heap.size,0,none⟩) (Lib.splitB sep 0 (min n (s.size+1)-1) s).length (min n (s.size+1)))/\w'=w.alloc (.cells (Lib.cellsOf (Lib.splitB sep 0 (min n (s.size+1)-1) s) (min n (s.size+1))) 9):=Any.strings_SplitN Tryz.lays147 (by kernel_rfl) s sep n m w hs hm h1 hn hn63
end Go.Proofs

namespace Go.Proofs
open Go.Shelf
def Tryz.lays169_ren:Go.Shelf.Ren:=⟨fun|169=>54|n=>n,fun|70=>110|9=>9|0=>0|72=>112|37=>40|127=>159|3=>3|5=>5|n=>n,fun|n=>n⟩
theorem Tryz.lays169:Go.Proofs.Lays.n169 Tryz.prog Tryz.lays169_ren:={
 mixed:=by kernel_rfl
 f169:=func54.trans cs0
 t0:=underlying0
 a0:=isAgg0
 z0:=sizeOf0
 v0:=zeroValue0
 t3:=underlying3
 a3:=isAgg3
 z3:=sizeOf3
 v3:=zeroValue3
 t9:=underlying9
 a9:=isAgg9
 z9:=sizeOf9
 v9:=zeroValue9
 t37:=underlying40
 a37:=isAgg40
 z37:=sizeOf40
 v37:=zeroValue40
 t70:=underlying110
 a70:=isAgg110
 z70:=sizeOf110
 v70:=zeroValue110
 t72:=underlying112
 a72:=isAgg112
 z72:=sizeOf112
 v72:=zeroValue112
 t127:=underlying159
 a127:=isAgg159
 z127:=sizeOf159
 v127:=zeroValue159 }
theorem Tryz.Builder_Extra_169:Builder.Extra Tryz.prog Tryz.lays169_ren:={
 sizeBuilder:=by kernel_rfl
 liesBuilder:=by kernel_rfl
 t5:=underlying5
 a5:=isAgg5
 z5:=sizeOf5
 v5:=zeroValue5
 infoByte:=by kernel_rfl
 cellsByte:=by kernel_rfl
 sizeByte:=by kernel_rfl
 neB5:=by decide }
open Go.RowKit in
theorem Tryz.Builder_String_any_k (B b:Nat) (l:List UInt8) (w:World) (h:Lib.IsBuilderF 112 5 B b (Lib.byteCells l) w) (hBw:B<=w.heap.size) :
 Calls Tryz.prog 54 #[.pointer (some ⟨b,0,none⟩)] w λe w'=>e=.returned (.string ⟨l.toArray⟩)/\(Lib.IsBuilderF 112 5 B b (Lib.byteCells l) w'/\Below B w w'/\Lib.OthersKept 5 (some b) w w'):=Any.Builder_String_any_k Tryz.lays169 Tryz.Builder_Extra_169 B b l w h hBw
end Go.Proofs

namespace Go.Proofs
open Go.Shelf
def Tryz.lays27_ren:Go.Shelf.Ren:=⟨fun|27=>261|28=>282|29=>283|n=>n,fun|25=>186|3=>3|27=>238|22=>113|4=>4|53=>325|0=>0|5=>5|54=>326|n=>n,fun|0=>6|1=>7|n=>n⟩
theorem Tryz.lays27:Go.Proofs.Lays7.n27 Tryz.prog Tryz.lays27_ren:={
 mixed:=by kernel_rfl
 f27:=func261.trans cs0
 f28:=func282.trans cs0
 f29:=func283.trans cs0
 t0:=underlying0
 a0:=isAgg0
 z0:=sizeOf0
 v0:=zeroValue0
 i0:=by kernel_rfl
 t3:=underlying3
 a3:=isAgg3
 z3:=sizeOf3
 v3:=zeroValue3
 i3:=by kernel_rfl
 t4:=underlying4
 a4:=isAgg4
 z4:=sizeOf4
 v4:=zeroValue4
 i4:=by kernel_rfl
 t5:=underlying5
 a5:=isAgg5
 z5:=sizeOf5
 v5:=zeroValue5
 i5:=by kernel_rfl
 t22:=underlying113
 a22:=isAgg113
 z22:=sizeOf113
 v22:=zeroValue113
 i22:=by kernel_rfl
 t25:=underlying186
 a25:=isAgg186
 z25:=sizeOf186
 v25:=zeroValue186
 i25:=by kernel_rfl
 t27:=underlying238
 a27:=isAgg238
 z27:=sizeOf238
 v27:=zeroValue238
 i27:=by kernel_rfl
 t53:=underlying325
 a53:=isAgg325
 z53:=sizeOf325
 v53:=zeroValue325
 i53:=by kernel_rfl
 t54:=underlying326
 a54:=isAgg326
 z54:=sizeOf326
 g0:=by kernel_rfl
 g1:=by kernel_rfl }
open Go.RowKit Go.Lib in
theorem Tryz.bits_TrailingZeros (x:Nat) (hx:x<18446744073709551616) (w:World) (hT:x≠0->TabAt 7 Lib.deBruijn64tab w) :
 Calls Tryz.prog 261 #[.int .u64 x] w λe w'=>e=.returned (.int .i64 (Lib.ctz 64 x))/\w'=w:=Any7.bits_TrailingZeros Tryz.lays27 x hx w hT
end Go.Proofs

namespace Go.Proofs
open Go.Shelf
def Tryz.lays104_ren:Go.Shelf.Ren:=⟨fun|104=>51|211=>99|207=>154|n=>n,fun|9=>9|4=>4|24=>98|3=>3|n=>n,fun|n=>n⟩
theorem Tryz.lays104:Go.Proofs.Lays.n104 Tryz.prog Tryz.lays104_ren:={
 mixed:=by kernel_rfl
 f104:=func51.trans cs0
 f207:=func154.trans cs0
 f211:=func99.trans cs0
 t3:=underlying3
 a3:=isAgg3
 z3:=sizeOf3
 v3:=zeroValue3
 t4:=underlying4
 a4:=isAgg4
 z4:=sizeOf4
 v4:=zeroValue4
 t9:=underlying9
 a9:=isAgg9
 z9:=sizeOf9
 v9:=zeroValue9
 t24:=underlying98
 a24:=isAgg98
 z24:=sizeOf98
 v24:=zeroValue98 }
open Go.RowKit Go.Lib in
theorem Tryz.strings_CutSuffix (s p:ByteArray) (w:World) (hs:s.size<=9223372036854775807) :
 Calls Tryz.prog 51 #[.string s,.string p] w λe w'=>e=.returned (.tuple #[.string ⟨(Lib.trimSuffix s.data.toList p.data.toList).toArray⟩,.bool (Lib.hasSuffix s.data.toList p.data.toList)])/\w'=w:=Any.strings_CutSuffix Tryz.lays104 s p w hs
end Go.Proofs

namespace Go.Proofs
open Go.Shelf
def Tryz.lays143_ren:Go.Shelf.Ren:=⟨fun|143=>90|219=>143|217=>102|225=>202|224=>203|267=>204|266=>158|314=>262|n=>n,fun|9=>9|3=>3|4=>4|5=>5|46=>186|146=>239|51=>238|n=>n,fun|1=>0|n=>n⟩
theorem Tryz.lays143:Go.Proofs.Lays.n143 Tryz.prog Tryz.lays143_ren:={
 mixed:=by kernel_rfl
 f143:=func90.trans cs0
 f217:=func102.trans cs0
 f219:=func143.trans cs0
 f224:=func203.trans cs0
 f225:=func202.trans cs0
 f266:=func158.trans cs0
 f267:=func204.trans cs0
 f314:=func262.trans cs0
 t3:=underlying3
 a3:=isAgg3
 z3:=sizeOf3
 v3:=zeroValue3
 t4:=underlying4
 a4:=isAgg4
 z4:=sizeOf4
 v4:=zeroValue4
 t5:=underlying5
 a5:=isAgg5
 z5:=sizeOf5
 v5:=zeroValue5
 t9:=underlying9
 a9:=isAgg9
 z9:=sizeOf9
 v9:=zeroValue9
 t46:=underlying186
 a46:=isAgg186
 z46:=sizeOf186
 v46:=zeroValue186
 t51:=underlying238
 a51:=isAgg238
 z51:=sizeOf238
 v51:=zeroValue238
 t146:=underlying239
 a146:=isAgg239
 z146:=sizeOf239
 v146:=zeroValue239
 g1:=by kernel_rfl }
open Go.RowKit Go.Lib in
theorem Tryz.strings_Index1 (s:ByteArray) (c:UInt8) (w:World) :
 Calls Tryz.prog 90 #[.string s,.string ⟨#[c]⟩] w λe w'=>e=.returned (.int .i64 (Lib.indexByte s.data.toList c))/\w'=w:=Any.strings_Index_one Tryz.lays143 s c w
end Go.Proofs

namespace Go.Proofs
open Go.Shelf
def Tryz.sortFld_ren:Go.Shelf.Ren:=⟨fun|6=>223|15=>269|14=>268|28=>294|29=>258|20=>286|21=>287|22=>288|23=>289|24=>290|25=>291|26=>292|27=>293|46=>299|47=>300|48=>301|49=>302|50=>303|57=>304|n=>n,fun|22=>65|24=>204|25=>250|3=>3|39=>186|0=>0|53=>238|55=>113|4=>4|46=>319|45=>318|50=>160|5=>5|9=>9|66=>327|70=>331|76=>333|77=>334|n=>n,fun|n=>n⟩
theorem Tryz.sortFld:Go.Proofs.SlLaysF0.n6 Tryz.prog Tryz.sortFld_ren:={
 mixed:=by kernel_rfl
 f6:=⟨Tryz.f223.name,by decide,func223.trans cs0⟩
 f14:=⟨Tryz.f268.name,by decide,func268.trans cs0⟩
 f15:=func269.trans cs0
 f20:=⟨Tryz.f286.name,by decide,func286.trans cs0⟩
 f21:=⟨Tryz.f287.name,by decide,func287.trans cs0⟩
 f22:=⟨Tryz.f288.name,by decide,func288.trans cs0⟩
 f23:=⟨Tryz.f289.name,by decide,func289.trans cs0⟩
 f24:=⟨Tryz.f290.name,by decide,func290.trans cs0⟩
 f25:=⟨Tryz.f291.name,by decide,func291.trans cs0⟩
 f26:=⟨Tryz.f292.name,by decide,func292.trans cs0⟩
 f27:=⟨Tryz.f293.name,by decide,func293.trans cs0⟩
 f28:=func294.trans cs0
 f29:=func258.trans cs0
 f46:=⟨Tryz.f299.name,by decide,func299.trans cs0⟩
 f47:=func300.trans cs0
 f48:=func301.trans cs0
 f49:=⟨Tryz.f302.name,by decide,func302.trans cs0⟩
 f50:=⟨Tryz.f303.name,by decide,func303.trans cs0⟩
 f57:=⟨Tryz.f304.name,by decide,func304.trans cs0⟩
 t0:=underlying0
 a0:=isAgg0
 z0:=sizeOf0
 v0:=zeroValue0
 t3:=underlying3
 a3:=isAgg3
 z3:=sizeOf3
 v3:=zeroValue3
 t4:=underlying4
 a4:=isAgg4
 z4:=sizeOf4
 v4:=zeroValue4
 t5:=underlying5
 a5:=isAgg5
 z5:=sizeOf5
 v5:=zeroValue5
 t9:=underlying9
 a9:=isAgg9
 z9:=sizeOf9
 v9:=zeroValue9
 t22:=underlying65
 a22:=isAgg65
 z22:=sizeOf65
 v22:=zeroValue65
 t25:=underlying250
 a25:=isAgg250
 z25:=sizeOf250
 v25:=zeroValue250
 t39:=underlying186
 a39:=isAgg186
 z39:=sizeOf186
 v39:=zeroValue186
 t45:=underlying318
 a45:=isAgg318
 z45:=sizeOf318
 v45:=zeroValue318
 t46:=underlying319
 a46:=isAgg319
 z46:=sizeOf319
 v46:=zeroValue319
 t50:=underlying160
 a50:=isAgg160
 z50:=sizeOf160
 v50:=zeroValue160
 t53:=underlying238
 a53:=isAgg238
 z53:=sizeOf238
 v53:=zeroValue238
 t55:=underlying113
 a55:=isAgg113
 z55:=sizeOf113
 v55:=zeroValue113
 t66:=underlying327
 a66:=isAgg327
 z66:=sizeOf327
 v66:=zeroValue327
 t70:=underlying331
 a70:=isAgg331
 z70:=sizeOf331
 v70:=zeroValue331
 t76:=underlying333
 a76:=isAgg333
 z76:=sizeOf333
 v76:=zeroValue333
 t77:=underlying334
 a77:=isAgg334
 z77:=sizeOf334
 v77:=zeroValue334 }
open Go.RowKit Go.Lib Go.Sort in
theorem Tryz.slices_SortFunc_fld {α:Type} [Inhabited α] (enc:α->List Value) (hk:∀x,(enc x).length=7) (h1:∀x,∀v∈enc x,v.oneCell'=true) (cf:α->α->Int) (hO:SWO (ltOf cf)) (g:Nat) (cb:Array Value) (blk off cap:Nat) (d:Array α) (w:World)
 (eg:∀args w,(callFunc g args).run Tryz.prog w=.ok (.enter g args) w) (hcmp:CmpLays Tryz.prog g cb enc 7 cf blk off d.size w) (hH:HoldsK enc 7 w blk off d) (hblk:blk<w.heap.size) (hsz:d.size<4611686018427387904) :
 Calls Tryz.prog 223 #[.slice (some ⟨blk,off,none⟩) d.size cap,.func (.func g) #[] cb] w λe w' =>
  e=.returned (.tuple #[])/\∃d' n os,PermIn 0 d.size d d'/\SortedIn (ltOf cf) 0 d.size d'/\w'=sortWorldK enc 7 w blk off n d' os:=AnyQ.slices_SortFunc Tryz.sortFld 7 isAgg204 sizeOf204 enc hk h1 cf hO g cb blk off cap d w eg hcmp hH hblk hsz
end Go.Proofs
