/- A part. -/
import Derived.Shelf.Strings.OnBuilder
import Derived.Shelf.Strings.BuilderF
import Derived.Shelf.Small.Strs
import Derived.Shelf.Small.Wraps
import Derived.Shelf.Strconv.Itoa0
import Derived.Shelf.Strconv.Itoa4
import Derived.Shelf.LaysM
import Derived.Shelf.Slices.Equal
import Derived.Shelf.Slices.Clone
import Derived.Shelf.Slices.Empties2
import Derived.Ground.Names2Prog
import Derived.Test.YteladbdfiannjaaGreatDoorProg
import Derived.Shelf.Unicode.ValidAny
import Derived.Ground.NamesProg
import Derived.Shelf.Strings.Cut
import Derived.Shelf.Strings.Repeat
import Derived.Shelf.Strconv.AtoiAll
import Derived.Shelf.Strings.Prefix
import Derived.Shelf.Strings.Split
import Derived.Shelf.Strings.BuilderK
import Derived.Shelf.Spec.TrailingZeros
import Derived.Ground.Names7Prog
import Derived.Shelf.SlIter.Collect
import Derived.Shelf.SlIter.Keys
import Derived.Shelf.SortM.Plain
import Derived.Shelf.SortM.SortNone
import Derived.Shelf.Slices.CompactS
import Derived.Ground.GgzProg
import Derived.Ground.SlgmProg
import Derived.Shelf.Strings.LastIndex
import Derived.Shelf.Slices.In.SortNone
namespace Go.Proofs
set_option linter.unusedVariables false
set_option linter.unusedSimpArgs false
open Go.Shelf
def Tryz.lays156_ren:Go.Shelf.Ren:=⟨fun | 156=>140 | 165=>163 | 166=>81 | 169=>84 | 240=>147 | 241=>216 | 276=>198 | 277=>278 | n=>n,fun | 31=>112 | 9=>9 | 3=>3 | 4=>4 | 0=>0 | 20=>20 | 72=>139 | 76=>145 | 70=>136 | 37=>137 | 75=>144 | 127=>209 | 164=>255 | 5=>5 | 80=>149 | n=>n,fun | n=>n⟩
theorem Tryz.lays156:Go.Proofs.Lays.n156 Tryz.prog Tryz.lays156_ren:={
 mixed:=by kernel_rfl
 f156:=Tryz.func140.trans (congrArg some (by kernel_rfl))
 f165:=Tryz.func163.trans (congrArg some (by kernel_rfl))
 f166:=Tryz.func81.trans (congrArg some (by kernel_rfl))
 f169:=Tryz.func84.trans (congrArg some (by kernel_rfl))
 f240:=Tryz.func147.trans (congrArg some (by kernel_rfl))
 f241:=Tryz.func216.trans (congrArg some (by kernel_rfl))
 f276:=Tryz.func198.trans (congrArg some (by kernel_rfl))
 f277:=Tryz.func278.trans (congrArg some (by kernel_rfl))
 t0:=Tryz.underlying0
 a0:=Tryz.isAgg0
 z0:=Tryz.sizeOf0
 v0:=Tryz.zeroValue0
 t3:=Tryz.underlying3
 a3:=Tryz.isAgg3
 z3:=Tryz.sizeOf3
 v3:=Tryz.zeroValue3
 t4:=Tryz.underlying4
 a4:=Tryz.isAgg4
 z4:=Tryz.sizeOf4
 v4:=Tryz.zeroValue4
 t9:=Tryz.underlying9
 a9:=Tryz.isAgg9
 z9:=Tryz.sizeOf9
 v9:=Tryz.zeroValue9
 t20:=Tryz.underlying20
 a20:=Tryz.isAgg20
 z20:=Tryz.sizeOf20
 v20:=Tryz.zeroValue20
 t31:=Tryz.underlying112
 a31:=Tryz.isAgg112
 z31:=Tryz.sizeOf112
 v31:=Tryz.zeroValue112
 t37:=Tryz.underlying137
 a37:=Tryz.isAgg137
 z37:=Tryz.sizeOf137
 v37:=Tryz.zeroValue137
 t70:=Tryz.underlying136
 a70:=Tryz.isAgg136
 z70:=Tryz.sizeOf136
 v70:=Tryz.zeroValue136
 t72:=Tryz.underlying139
 a72:=Tryz.isAgg139
 z72:=Tryz.sizeOf139
 v72:=Tryz.zeroValue139
 t75:=Tryz.underlying144
 a75:=Tryz.isAgg144
 z75:=Tryz.sizeOf144
 v75:=Tryz.zeroValue144
 t76:=Tryz.underlying145
 a76:=Tryz.isAgg145
 z76:=Tryz.sizeOf145
 v76:=Tryz.zeroValue145
 t127:=Tryz.underlying209
 a127:=Tryz.isAgg209
 z127:=Tryz.sizeOf209
 v127:=Tryz.zeroValue209
 t164:=Tryz.underlying255
 a164:=Tryz.isAgg255
 z164:=Tryz.sizeOf255
 v164:=Tryz.zeroValue255 }
theorem Tryz.Builder_Extra_156:Builder.Extra Tryz.prog Tryz.lays156_ren:={
 sizeBuilder:=by kernel_rfl
 liesBuilder:=by kernel_rfl
 t5:=Tryz.underlying5
 a5:=Tryz.isAgg5
 z5:=Tryz.sizeOf5
 v5:=Tryz.zeroValue5
 infoByte:=by kernel_rfl
 cellsByte:=by kernel_rfl
 sizeByte:=by kernel_rfl
 neB5:=by decide }
open Go.RowKit in
theorem Tryz.strings_Join_none (a:Option Addr) (c:Nat) (sep:ByteArray) (w:World) :
 Calls Tryz.prog 140 #[.slice a 0 c,.string sep] w fun e w'=>e=.returned (.string ⟨#[]⟩)∧w'=w:=Any.strings_Join_none Tryz.lays156 Tryz.Builder_Extra_156 a c sep w
open Go.RowKit in
theorem Tryz.strings_Join (bk o c:Nat) (xs:List ByteArray) (sep:ByteArray) (w:World) (hcells:∀(j:Nat) x,xs[j]?=some x→w.cell? ⟨bk,o+j,none⟩=some (.string x)) (hbk:bk<w.heap.size) (hN:xs.length≤140737488355328) (hcap:xs.length≤c) (hlen:(Lib.join (xs.map (·.data.toList)) sep.data.toList).length≤140737488355328) :
 Calls Tryz.prog 140 #[.slice (some ⟨bk,o,none⟩) xs.length c,.string sep] w fun e w'=>e=.returned (.string ⟨(Lib.join (xs.map (·.data.toList)) sep.data.toList).toArray⟩)∧Below w.heap.size w w':=Any.strings_Join Tryz.lays156 Tryz.Builder_Extra_156 bk o c xs sep w hcells hbk hN hcap hlen
def Tryz.lays106_ren:Go.Shelf.Ren:=⟨fun | 106=>170 | 213=>234 | 265=>280 | n=>n,fun | 9=>9 | 3=>3 | n=>n,fun | n=>n⟩
theorem Tryz.lays106:Go.Proofs.Lays.n106 Tryz.prog Tryz.lays106_ren:={
 mixed:=by kernel_rfl
 f106:=Tryz.func170.trans (congrArg some (by kernel_rfl))
 f213:=Tryz.func234.trans (congrArg some (by kernel_rfl))
 f265:=Tryz.func280.trans (congrArg some (by kernel_rfl))
 t3:=Tryz.underlying3
 a3:=Tryz.isAgg3
 z3:=Tryz.sizeOf3
 v3:=Tryz.zeroValue3
 t9:=Tryz.underlying9
 a9:=Tryz.isAgg9
 z9:=Tryz.sizeOf9
 v9:=Tryz.zeroValue9 }
open Go.RowKit in
theorem Tryz.strings_Compare (a b:ByteArray) (w:World) :
 Calls Tryz.prog 170 #[.string a,.string b] w fun e w'=>e=.returned (.int .i64 (Lib.compareBytes a.data.toList b.data.toList))∧w'=w:=Any.strings_Compare Tryz.lays106 a b w
def Tryz.lays122_ren:Go.Shelf.Ren:=⟨fun | 122=>169 | 215=>233 | n=>n,fun | 3=>3 | 4=>4 | n=>n,fun | n=>n⟩
theorem Tryz.lays122:Go.Proofs.Lays.n122 Tryz.prog Tryz.lays122_ren:={
 mixed:=by kernel_rfl
 f122:=Tryz.func169.trans (congrArg some (by kernel_rfl))
 f215:=Tryz.func233.trans (congrArg some (by kernel_rfl))
 t3:=Tryz.underlying3
 a3:=Tryz.isAgg3
 z3:=Tryz.sizeOf3
 v3:=Tryz.zeroValue3
 t4:=Tryz.underlying4
 a4:=Tryz.isAgg4
 z4:=Tryz.sizeOf4
 v4:=Tryz.zeroValue4 }
open Go.RowKit in
theorem Tryz.cmp_Compare_int (x y:Int) (w:World) :
 Calls Tryz.prog 169 #[.int .i64 x,.int .i64 y] w fun e w'=>e=.returned (.int .i64 (Lib.compareInt x y))∧w'=w:=Any.cmp_Compare_int Tryz.lays122 x y w
def Tryz.laysM171_ren:Go.Shelf.Ren:=⟨fun | 171=>80 | 243=>146 | 246=>197 | 283=>252 | 284=>253 | 285=>254 | 286=>255 | 129=>291 | 317=>299 | 318=>300 | 319=>301 | 320=>302 | 337=>341 | 338=>342 | n=>n,fun | 3=>3 | 9=>9 | 2=>2 | 4=>4 | 171=>302 | 0=>0 | 53=>216 | 37=>137 | 5=>5 | 173=>305 | 212=>342 | 51=>273 | 20=>20 | 213=>343 | 46=>226 | 232=>379 | 233=>380 | n=>n,fun | 17=>5 | 18=>6 | 19=>7 | n=>n⟩
theorem Tryz.laysM171:Go.Proofs.LaysM.n171 Tryz.prog Tryz.laysM171_ren:={
 mixed:=by kernel_rfl
 f129:=Tryz.func291.trans (congrArg some (by kernel_rfl))
 f171:=Tryz.func80.trans (congrArg some (by kernel_rfl))
 f243:=Tryz.func146.trans (congrArg some (by kernel_rfl))
 f246:=Tryz.func197.trans (congrArg some (by kernel_rfl))
 f283:=Tryz.func252.trans (congrArg some (by kernel_rfl))
 f284:=Tryz.func253.trans (congrArg some (by kernel_rfl))
 f285:=Tryz.func254.trans (congrArg some (by kernel_rfl))
 f286:=Tryz.func255.trans (congrArg some (by kernel_rfl))
 f317:=Tryz.func299.trans (congrArg some (by kernel_rfl))
 f318:=Tryz.func300.trans (congrArg some (by kernel_rfl))
 f319:=Tryz.func301.trans (congrArg some (by kernel_rfl))
 f320:=Tryz.func302.trans (congrArg some (by kernel_rfl))
 f337:=Tryz.func341.trans (congrArg some (by kernel_rfl))
 f338:=Tryz.func342.trans (congrArg some (by kernel_rfl))
 t0:=Tryz.underlying0
 a0:=Tryz.isAgg0
 z0:=Tryz.sizeOf0
 v0:=Tryz.zeroValue0
 t2:=Tryz.underlying2
 a2:=Tryz.isAgg2
 z2:=Tryz.sizeOf2
 v2:=Tryz.zeroValue2
 t3:=Tryz.underlying3
 a3:=Tryz.isAgg3
 z3:=Tryz.sizeOf3
 v3:=Tryz.zeroValue3
 t4:=Tryz.underlying4
 a4:=Tryz.isAgg4
 z4:=Tryz.sizeOf4
 v4:=Tryz.zeroValue4
 t5:=Tryz.underlying5
 a5:=Tryz.isAgg5
 z5:=Tryz.sizeOf5
 v5:=Tryz.zeroValue5
 t9:=Tryz.underlying9
 a9:=Tryz.isAgg9
 z9:=Tryz.sizeOf9
 v9:=Tryz.zeroValue9
 t20:=Tryz.underlying20
 a20:=Tryz.isAgg20
 z20:=Tryz.sizeOf20
 v20:=Tryz.zeroValue20
 t37:=Tryz.underlying137
 a37:=Tryz.isAgg137
 z37:=Tryz.sizeOf137
 v37:=Tryz.zeroValue137
 t46:=Tryz.underlying226
 a46:=Tryz.isAgg226
 z46:=Tryz.sizeOf226
 v46:=Tryz.zeroValue226
 t51:=Tryz.underlying273
 a51:=Tryz.isAgg273
 z51:=Tryz.sizeOf273
 v51:=Tryz.zeroValue273
 t53:=Tryz.underlying216
 a53:=Tryz.isAgg216
 z53:=Tryz.sizeOf216
 v53:=Tryz.zeroValue216
 t171:=Tryz.underlying302
 a171:=Tryz.isAgg302
 z171:=Tryz.sizeOf302
 v171:=Tryz.zeroValue302
 t173:=Tryz.underlying305
 a173:=Tryz.isAgg305
 z173:=Tryz.sizeOf305
 v173:=Tryz.zeroValue305
 t212:=Tryz.underlying342
 a212:=Tryz.isAgg342
 z212:=Tryz.sizeOf342
 v212:=Tryz.zeroValue342
 t213:=Tryz.underlying343
 a213:=Tryz.isAgg343
 z213:=Tryz.sizeOf343
 t232:=Tryz.underlying379
 a232:=Tryz.isAgg379
 z232:=Tryz.sizeOf379
 v232:=Tryz.zeroValue379
 t233:=Tryz.underlying380
 a233:=Tryz.isAgg380
 z233:=Tryz.sizeOf380
 v233:=Tryz.zeroValue380
 g17:=by kernel_rfl
 g18:=by kernel_rfl
 g19:=by kernel_rfl
 i0:=by kernel_rfl
 i2:=by kernel_rfl
 i3:=by kernel_rfl
 i4:=by kernel_rfl
 i5:=by kernel_rfl
 i9:=by kernel_rfl
 i20:=by kernel_rfl
 i37:=by kernel_rfl
 i46:=by kernel_rfl
 i51:=by kernel_rfl
 i53:=by kernel_rfl
 i171:=by kernel_rfl
 i173:=by kernel_rfl
 i212:=by kernel_rfl
 i232:=by kernel_rfl
 i233:=by kernel_rfl
 m17:=by kernel_rfl
 m18:=by kernel_rfl
 m19:=by kernel_rfl }
open Go.RowKit Go.Sort Go.Lib in
theorem Tryz.strconv_Itoa (n : Int) (h0 : -9223372036854775808 ≤ n) (h1 : n ≤ 9223372036854775807) (w : World) (htab : Lib.TabIs Tryz.prog w "internal/strconv.uint64pow10" .u64 Lib.pow10Tab) :
 Calls Tryz.prog 80 #[.int .i64 n] w fun e w'=>e=.returned (.string ⟨(Lib.itoa n).toArray⟩)∧∃k os,w'=grow (w.drewN k) os:=Any.strconv_Itoa Tryz.laysM171 n h0 h1 w htab
end Go.Proofs

namespace Go.Proofs
open Go.Shelf
def Tryz.laysValid_ren:Go.Shelf.Ren:=⟨fun | 196=>176 | 259=>236 | n=>n,fun | 9=>9 | 4=>4 | 3=>3 | 5=>5 | 12=>12 | 119=>284 | 0=>0 | 46=>226 | 139=>287 | 138=>286 | 53=>216 | n=>n,fun | 3=>0 | 4=>1 | n=>n⟩
theorem Tryz.laysValid:Go.Proofs.Lays.n196 Tryz.prog Tryz.laysValid_ren:={
 mixed:=by kernel_rfl
 f196:=Tryz.func176.trans (congrArg some (by kernel_rfl))
 f259:=Tryz.func236.trans (congrArg some (by kernel_rfl))
 t0:=Tryz.underlying0
 a0:=Tryz.isAgg0
 z0:=Tryz.sizeOf0
 v0:=Tryz.zeroValue0
 t3:=Tryz.underlying3
 a3:=Tryz.isAgg3
 z3:=Tryz.sizeOf3
 v3:=Tryz.zeroValue3
 t4:=Tryz.underlying4
 a4:=Tryz.isAgg4
 z4:=Tryz.sizeOf4
 v4:=Tryz.zeroValue4
 t5:=Tryz.underlying5
 a5:=Tryz.isAgg5
 z5:=Tryz.sizeOf5
 v5:=Tryz.zeroValue5
 t9:=Tryz.underlying9
 a9:=Tryz.isAgg9
 z9:=Tryz.sizeOf9
 v9:=Tryz.zeroValue9
 t12:=Tryz.underlying12
 a12:=Tryz.isAgg12
 z12:=Tryz.sizeOf12
 v12:=Tryz.zeroValue12
 t46:=Tryz.underlying226
 a46:=Tryz.isAgg226
 z46:=Tryz.sizeOf226
 v46:=Tryz.zeroValue226
 t53:=Tryz.underlying216
 a53:=Tryz.isAgg216
 z53:=Tryz.sizeOf216
 v53:=Tryz.zeroValue216
 t119:=Tryz.underlying284
 a119:=Tryz.isAgg284
 z119:=Tryz.sizeOf284
 t138:=Tryz.underlying286
 a138:=Tryz.isAgg286
 z138:=Tryz.sizeOf286
 v138:=Tryz.zeroValue286
 t139:=Tryz.underlying287
 a139:=Tryz.isAgg287
 z139:=Tryz.sizeOf287
 v139:=Tryz.zeroValue287
 g3:=by kernel_rfl
 g4:=by kernel_rfl }
open Go.RowKit Go.Lib in
theorem Tryz.utf8_ValidString (s:ByteArray) (w:World) (hs:s.size≤9223372036854775807) (hT:Lib.Utf8Tabs (Tryz.laysValid_ren.g 3) (Tryz.laysValid_ren.g 4) w) :
 Calls Tryz.prog 176 #[.string s] w fun e w'=>e=.returned (.bool (Lib.validD s.data.toList))∧Below w.heap.size w w':=Any.utf8_ValidString Tryz.laysValid s w hs hT
end Go.Proofs

namespace Go.Proofs
open Go.Shelf
def Tryz.lays145_ren:Go.Shelf.Ren:=⟨fun | 145=>152 | 220=>205 | 219=>259 | 217=>208 | 225=>304 | 224=>305 | 267=>306 | 266=>267 | 314=>343 | n=>n,fun | 9=>9 | 4=>4 | 59=>214 | 3=>3 | 5=>5 | 46=>226 | 146=>274 | 51=>273 | n=>n,fun | 1=>2 | n=>n⟩
theorem Tryz.lays145:Go.Proofs.Lays.n145 Tryz.prog Tryz.lays145_ren:={
 mixed:=by kernel_rfl
 f145:=Tryz.func152.trans (congrArg some (by kernel_rfl))
 f217:=Tryz.func208.trans (congrArg some (by kernel_rfl))
 f219:=Tryz.func259.trans (congrArg some (by kernel_rfl))
 f220:=Tryz.func205.trans (congrArg some (by kernel_rfl))
 f224:=Tryz.func305.trans (congrArg some (by kernel_rfl))
 f225:=Tryz.func304.trans (congrArg some (by kernel_rfl))
 f266:=Tryz.func267.trans (congrArg some (by kernel_rfl))
 f267:=Tryz.func306.trans (congrArg some (by kernel_rfl))
 f314:=Tryz.func343.trans (congrArg some (by kernel_rfl))
 t3:=Tryz.underlying3
 a3:=Tryz.isAgg3
 z3:=Tryz.sizeOf3
 v3:=Tryz.zeroValue3
 t4:=Tryz.underlying4
 a4:=Tryz.isAgg4
 z4:=Tryz.sizeOf4
 v4:=Tryz.zeroValue4
 t5:=Tryz.underlying5
 a5:=Tryz.isAgg5
 z5:=Tryz.sizeOf5
 v5:=Tryz.zeroValue5
 t9:=Tryz.underlying9
 a9:=Tryz.isAgg9
 z9:=Tryz.sizeOf9
 v9:=Tryz.zeroValue9
 t46:=Tryz.underlying226
 a46:=Tryz.isAgg226
 z46:=Tryz.sizeOf226
 v46:=Tryz.zeroValue226
 t51:=Tryz.underlying273
 a51:=Tryz.isAgg273
 z51:=Tryz.sizeOf273
 v51:=Tryz.zeroValue273
 t59:=Tryz.underlying214
 a59:=Tryz.isAgg214
 z59:=Tryz.sizeOf214
 v59:=Tryz.zeroValue214
 t146:=Tryz.underlying274
 a146:=Tryz.isAgg274
 z146:=Tryz.sizeOf274
 v146:=Tryz.zeroValue274
 g1:=by kernel_rfl }
open Go.RowKit Go.Lib in
theorem Tryz.strings_Cut (s sep:ByteArray) (m:Int) (w:World) (hs:s.size<4294967281) (hm:w.cell? ⟨2,0,none⟩=some (.int .i64 m)) :
 Calls Tryz.prog 152 #[.string s,.string sep] w fun e w'=>e=.returned (.tuple #[.string ⟨(Lib.cut s.data.toList sep.data.toList).1.toArray⟩,.string ⟨(Lib.cut s.data.toList sep.data.toList).2.1.toArray⟩,.bool (Lib.cut s.data.toList sep.data.toList).2.2])∧∃n,w'=w.drewN n:=Any.strings_Cut Tryz.lays145 s sep m w hs hm
def Tryz.lays121_ren:Go.Shelf.Ren:=⟨fun | 121=>247 | 214=>294 | n=>n,fun | 4=>4 | 9=>9 | n=>n,fun | n=>n⟩
theorem Tryz.lays121:Go.Proofs.Lays.n121 Tryz.prog Tryz.lays121_ren:={
 mixed:=by kernel_rfl
 f121:=Tryz.func247.trans (congrArg some (by kernel_rfl))
 f214:=Tryz.func294.trans (congrArg some (by kernel_rfl))
 t4:=Tryz.underlying4
 a4:=Tryz.isAgg4
 z4:=Tryz.sizeOf4
 v4:=Tryz.zeroValue4
 t9:=Tryz.underlying9
 a9:=Tryz.isAgg9
 z9:=Tryz.sizeOf9
 v9:=Tryz.zeroValue9 }
open Go.RowKit Go.Lib in
theorem Tryz.strconv_FormatBool (b:Bool) (w:World) :
 Calls Tryz.prog 247 #[.bool b] w fun e w'=>e=.returned (.string ⟨(Lib.formatBool b).toArray⟩)∧w'=w:=Any.strconv_FormatBool Tryz.lays121 b w
def Tryz.lays105_ren:Go.Shelf.Ren:=⟨fun | 105=>102 | 212=>162 | 99=>149 | 165=>163 | 166=>81 | 170=>164 | 169=>84 | 263=>214 | 264=>215 | 206=>202 | 240=>147 | 241=>216 | 276=>198 | 277=>278 | n=>n,fun | 9=>9 | 3=>3 | 4=>4 | 20=>20 | 0=>0 | 46=>226 | 109=>227 | 5=>5 | 72=>139 | 76=>145 | 51=>273 | 146=>274 | 53=>216 | 148=>276 | 70=>136 | 37=>137 | 75=>144 | 127=>209 | 164=>255 | 80=>149 | n=>n,fun | n=>n⟩
theorem Tryz.lays105:Go.Proofs.Lays.n105 Tryz.prog Tryz.lays105_ren:={
 mixed:=by kernel_rfl
 f99:=Tryz.func149.trans (congrArg some (by kernel_rfl))
 f105:=Tryz.func102.trans (congrArg some (by kernel_rfl))
 f165:=Tryz.func163.trans (congrArg some (by kernel_rfl))
 f166:=Tryz.func81.trans (congrArg some (by kernel_rfl))
 f169:=Tryz.func84.trans (congrArg some (by kernel_rfl))
 f170:=Tryz.func164.trans (congrArg some (by kernel_rfl))
 f206:=Tryz.func202.trans (congrArg some (by kernel_rfl))
 f212:=Tryz.func162.trans (congrArg some (by kernel_rfl))
 f240:=Tryz.func147.trans (congrArg some (by kernel_rfl))
 f241:=Tryz.func216.trans (congrArg some (by kernel_rfl))
 f263:=Tryz.func214.trans (congrArg some (by kernel_rfl))
 f264:=Tryz.func215.trans (congrArg some (by kernel_rfl))
 f276:=Tryz.func198.trans (congrArg some (by kernel_rfl))
 f277:=Tryz.func278.trans (congrArg some (by kernel_rfl))
 t0:=Tryz.underlying0
 a0:=Tryz.isAgg0
 z0:=Tryz.sizeOf0
 v0:=Tryz.zeroValue0
 t3:=Tryz.underlying3
 a3:=Tryz.isAgg3
 z3:=Tryz.sizeOf3
 v3:=Tryz.zeroValue3
 t4:=Tryz.underlying4
 a4:=Tryz.isAgg4
 z4:=Tryz.sizeOf4
 v4:=Tryz.zeroValue4
 t5:=Tryz.underlying5
 a5:=Tryz.isAgg5
 z5:=Tryz.sizeOf5
 v5:=Tryz.zeroValue5
 t9:=Tryz.underlying9
 a9:=Tryz.isAgg9
 z9:=Tryz.sizeOf9
 v9:=Tryz.zeroValue9
 t20:=Tryz.underlying20
 a20:=Tryz.isAgg20
 z20:=Tryz.sizeOf20
 v20:=Tryz.zeroValue20
 t37:=Tryz.underlying137
 a37:=Tryz.isAgg137
 z37:=Tryz.sizeOf137
 v37:=Tryz.zeroValue137
 t46:=Tryz.underlying226
 a46:=Tryz.isAgg226
 z46:=Tryz.sizeOf226
 v46:=Tryz.zeroValue226
 t51:=Tryz.underlying273
 a51:=Tryz.isAgg273
 z51:=Tryz.sizeOf273
 v51:=Tryz.zeroValue273
 t53:=Tryz.underlying216
 a53:=Tryz.isAgg216
 z53:=Tryz.sizeOf216
 v53:=Tryz.zeroValue216
 t70:=Tryz.underlying136
 a70:=Tryz.isAgg136
 z70:=Tryz.sizeOf136
 v70:=Tryz.zeroValue136
 t72:=Tryz.underlying139
 a72:=Tryz.isAgg139
 z72:=Tryz.sizeOf139
 v72:=Tryz.zeroValue139
 t75:=Tryz.underlying144
 a75:=Tryz.isAgg144
 z75:=Tryz.sizeOf144
 v75:=Tryz.zeroValue144
 t76:=Tryz.underlying145
 a76:=Tryz.isAgg145
 z76:=Tryz.sizeOf145
 v76:=Tryz.zeroValue145
 t109:=Tryz.underlying227
 a109:=Tryz.isAgg227
 z109:=Tryz.sizeOf227
 v109:=Tryz.zeroValue227
 t127:=Tryz.underlying209
 a127:=Tryz.isAgg209
 z127:=Tryz.sizeOf209
 v127:=Tryz.zeroValue209
 t146:=Tryz.underlying274
 a146:=Tryz.isAgg274
 z146:=Tryz.sizeOf274
 v146:=Tryz.zeroValue274
 t148:=Tryz.underlying276
 a148:=Tryz.isAgg276
 z148:=Tryz.sizeOf276
 v148:=Tryz.zeroValue276
 t164:=Tryz.underlying255
 a164:=Tryz.isAgg255
 z164:=Tryz.sizeOf255
 v164:=Tryz.zeroValue255 }
theorem Tryz.Builder_Extra_105:Builder.Extra Tryz.prog Tryz.lays105_ren:={
 sizeBuilder:=by kernel_rfl
 liesBuilder:=by kernel_rfl
 t5:=Tryz.underlying5
 a5:=Tryz.isAgg5
 z5:=Tryz.sizeOf5
 v5:=Tryz.zeroValue5
 infoByte:=by kernel_rfl
 cellsByte:=by kernel_rfl
 sizeByte:=by kernel_rfl
 neB5:=by decide }
open Go.RowKit Go.Lib in
theorem Tryz.strings_Repeat (s:ByteArray) (c:Nat) (w:World) (hc:c≤9223372036854775807) (hlen:s.size * c≤140737488355328) :
 Calls Tryz.prog 102 #[.string s,.int .i64 c] w fun e w'=>e=.returned (.string ⟨(Lib.repeatL s.data.toList c).toArray⟩)∧Below w.heap.size w w':=Any.strings_Repeat Tryz.lays105 Tryz.Builder_Extra_105 s c w hc hlen
def Tryz.laysC172_ren:Go.Shelf.Ren:=⟨fun | 172=>135 | 244=>193 | 245=>194 | 247=>242 | 279=>243 | 280=>244 | 281=>245 | 282=>246 | 287=>207 | 316=>292 | 171=>80 | 205=>293 | 321=>265 | 322=>266 | 243=>146 | 246=>197 | 283=>252 | 284=>253 | 285=>254 | 286=>255 | 129=>291 | 317=>299 | 318=>300 | 319=>301 | 320=>302 | 337=>341 | 338=>342 | n=>n,fun | 9=>9 | 3=>3 | 75=>144 | 76=>145 | 4=>4 | 5=>5 | 167=>293 | 37=>137 | 0=>0 | 85=>294 | 2=>2 | 168=>296 | 53=>216 | 175=>217 | 46=>226 | 210=>333 | 127=>209 | 145=>359 | 143=>357 | 21=>21 | 171=>302 | 173=>305 | 212=>342 | 51=>273 | 20=>20 | 213=>343 | 232=>379 | 233=>380 | 80=>149 | n=>n,fun | 15=>3 | 16=>4 | 17=>5 | 18=>6 | 19=>7 | n=>n⟩
theorem Tryz.laysC172:Go.Proofs.LaysC.n172 Tryz.prog Tryz.laysC172_ren:={
 mixed:=by kernel_rfl
 f129:=Tryz.func291.trans (congrArg some (by kernel_rfl))
 f171:=Tryz.func80.trans (congrArg some (by kernel_rfl))
 f172:=Tryz.func135.trans (congrArg some (by kernel_rfl))
 f205:=Tryz.func293.trans (congrArg some (by kernel_rfl))
 f243:=Tryz.func146.trans (congrArg some (by kernel_rfl))
 f244:=Tryz.func193.trans (congrArg some (by kernel_rfl))
 f245:=Tryz.func194.trans (congrArg some (by kernel_rfl))
 f246:=Tryz.func197.trans (congrArg some (by kernel_rfl))
 f247:=Tryz.func242.trans (congrArg some (by kernel_rfl))
 f279:=Tryz.func243.trans (congrArg some (by kernel_rfl))
 f280:=Tryz.func244.trans (congrArg some (by kernel_rfl))
 f281:=Tryz.func245.trans (congrArg some (by kernel_rfl))
 f282:=Tryz.func246.trans (congrArg some (by kernel_rfl))
 f283:=Tryz.func252.trans (congrArg some (by kernel_rfl))
 f284:=Tryz.func253.trans (congrArg some (by kernel_rfl))
 f285:=Tryz.func254.trans (congrArg some (by kernel_rfl))
 f286:=Tryz.func255.trans (congrArg some (by kernel_rfl))
 f287:=Tryz.func207.trans (congrArg some (by kernel_rfl))
 f316:=Tryz.func292.trans (congrArg some (by kernel_rfl))
 f317:=Tryz.func299.trans (congrArg some (by kernel_rfl))
 f318:=Tryz.func300.trans (congrArg some (by kernel_rfl))
 f319:=Tryz.func301.trans (congrArg some (by kernel_rfl))
 f320:=Tryz.func302.trans (congrArg some (by kernel_rfl))
 f321:=Tryz.func265.trans (congrArg some (by kernel_rfl))
 f322:=Tryz.func266.trans (congrArg some (by kernel_rfl))
 f337:=Tryz.func341.trans (congrArg some (by kernel_rfl))
 f338:=Tryz.func342.trans (congrArg some (by kernel_rfl))
 t0:=Tryz.underlying0
 a0:=Tryz.isAgg0
 z0:=Tryz.sizeOf0
 v0:=Tryz.zeroValue0
 t2:=Tryz.underlying2
 a2:=Tryz.isAgg2
 z2:=Tryz.sizeOf2
 v2:=Tryz.zeroValue2
 t3:=Tryz.underlying3
 a3:=Tryz.isAgg3
 z3:=Tryz.sizeOf3
 v3:=Tryz.zeroValue3
 t4:=Tryz.underlying4
 a4:=Tryz.isAgg4
 z4:=Tryz.sizeOf4
 v4:=Tryz.zeroValue4
 t5:=Tryz.underlying5
 a5:=Tryz.isAgg5
 z5:=Tryz.sizeOf5
 v5:=Tryz.zeroValue5
 t9:=Tryz.underlying9
 a9:=Tryz.isAgg9
 z9:=Tryz.sizeOf9
 v9:=Tryz.zeroValue9
 t20:=Tryz.underlying20
 a20:=Tryz.isAgg20
 z20:=Tryz.sizeOf20
 v20:=Tryz.zeroValue20
 t21:=Tryz.underlying21
 a21:=Tryz.isAgg21
 z21:=Tryz.sizeOf21
 v21:=Tryz.zeroValue21
 t37:=Tryz.underlying137
 a37:=Tryz.isAgg137
 z37:=Tryz.sizeOf137
 v37:=Tryz.zeroValue137
 t46:=Tryz.underlying226
 a46:=Tryz.isAgg226
 z46:=Tryz.sizeOf226
 v46:=Tryz.zeroValue226
 t51:=Tryz.underlying273
 a51:=Tryz.isAgg273
 z51:=Tryz.sizeOf273
 v51:=Tryz.zeroValue273
 t53:=Tryz.underlying216
 a53:=Tryz.isAgg216
 z53:=Tryz.sizeOf216
 v53:=Tryz.zeroValue216
 t75:=Tryz.underlying144
 a75:=Tryz.isAgg144
 z75:=Tryz.sizeOf144
 v75:=Tryz.zeroValue144
 t76:=Tryz.underlying145
 a76:=Tryz.isAgg145
 z76:=Tryz.sizeOf145
 v76:=Tryz.zeroValue145
 t85:=Tryz.underlying294
 a85:=Tryz.isAgg294
 z85:=Tryz.sizeOf294
 v85:=Tryz.zeroValue294
 t127:=Tryz.underlying209
 a127:=Tryz.isAgg209
 z127:=Tryz.sizeOf209
 v127:=Tryz.zeroValue209
 t143:=Tryz.underlying357
 a143:=Tryz.isAgg357
 z143:=Tryz.sizeOf357
 v143:=Tryz.zeroValue357
 t145:=Tryz.underlying359
 a145:=Tryz.isAgg359
 z145:=Tryz.sizeOf359
 v145:=Tryz.zeroValue359
 t167:=Tryz.underlying293
 a167:=Tryz.isAgg293
 z167:=Tryz.sizeOf293
 v167:=Tryz.zeroValue293
 t168:=Tryz.underlying296
 a168:=Tryz.isAgg296
 z168:=Tryz.sizeOf296
 v168:=Tryz.zeroValue296
 t171:=Tryz.underlying302
 a171:=Tryz.isAgg302
 z171:=Tryz.sizeOf302
 v171:=Tryz.zeroValue302
 t173:=Tryz.underlying305
 a173:=Tryz.isAgg305
 z173:=Tryz.sizeOf305
 v173:=Tryz.zeroValue305
 t175:=Tryz.underlying217
 a175:=Tryz.isAgg217
 z175:=Tryz.sizeOf217
 v175:=Tryz.zeroValue217
 t210:=Tryz.underlying333
 a210:=Tryz.isAgg333
 z210:=Tryz.sizeOf333
 v210:=Tryz.zeroValue333
 t212:=Tryz.underlying342
 a212:=Tryz.isAgg342
 z212:=Tryz.sizeOf342
 v212:=Tryz.zeroValue342
 t213:=Tryz.underlying343
 a213:=Tryz.isAgg343
 z213:=Tryz.sizeOf343
 t232:=Tryz.underlying379
 a232:=Tryz.isAgg379
 z232:=Tryz.sizeOf379
 v232:=Tryz.zeroValue379
 t233:=Tryz.underlying380
 a233:=Tryz.isAgg380
 z233:=Tryz.sizeOf380
 v233:=Tryz.zeroValue380
 g15:=by kernel_rfl
 g16:=by kernel_rfl
 g17:=by kernel_rfl
 g18:=by kernel_rfl
 g19:=by kernel_rfl
 t80:=Tryz.underlying149
 a80:=Tryz.isAgg149
 z80:=Tryz.sizeOf149
 v80:=Tryz.zeroValue149
 i0:=by kernel_rfl
 i2:=by kernel_rfl
 i3:=by kernel_rfl
 i4:=by kernel_rfl
 i5:=by kernel_rfl
 i9:=by kernel_rfl
 i20:=by kernel_rfl
 i21:=by kernel_rfl
 i37:=by kernel_rfl
 i46:=by kernel_rfl
 i51:=by kernel_rfl
 i53:=by kernel_rfl
 i75:=by kernel_rfl
 i76:=by kernel_rfl
 i80:=by kernel_rfl
 i85:=by kernel_rfl
 i127:=by kernel_rfl
 i143:=by kernel_rfl
 i145:=by kernel_rfl
 i167:=by kernel_rfl
 i168:=by kernel_rfl
 i171:=by kernel_rfl
 i173:=by kernel_rfl
 i175:=by kernel_rfl
 i210:=by kernel_rfl
 i212:=by kernel_rfl
 i232:=by kernel_rfl
 i233:=by kernel_rfl
 m15:=by kernel_rfl
 m16:=by kernel_rfl
 m17:=by kernel_rfl
 m18:=by kernel_rfl
 m19:=by kernel_rfl
 c0:=by kernel_rfl
 c2:=by kernel_rfl
 c3:=by kernel_rfl
 c4:=by kernel_rfl
 c5:=by kernel_rfl
 c9:=by kernel_rfl
 c20:=by kernel_rfl
 c21:=by kernel_rfl
 c37:=by kernel_rfl
 c46:=by kernel_rfl
 c51:=by kernel_rfl
 c53:=by kernel_rfl
 c75:=by kernel_rfl
 c76:=by kernel_rfl
 c80:=by kernel_rfl
 c85:=by kernel_rfl
 c127:=by kernel_rfl
 c143:=by kernel_rfl
 c145:=by kernel_rfl
 c167:=by kernel_rfl
 c168:=by kernel_rfl
 c171:=by kernel_rfl
 c173:=by kernel_rfl
 c175:=by kernel_rfl
 c210:=by kernel_rfl
 c212:=by kernel_rfl
 c213:=by kernel_rfl
 c232:=by kernel_rfl
 c233:=by kernel_rfl }
open Go.RowKit Go.Lib in
theorem Tryz.strconv_Atoi_ok (s:ByteArray) (hmax:s.size≤9223372036854775806) (v:Int) (h:Lib.atoiAll s.data.toList=.ok v) (w:World) :
 Calls Tryz.prog 135 #[.string s] w fun e w'=>e=.returned (.tuple #[.int .i64 v,.nilIface])∧(w'=w∨∃t,w'=Lib.bytesWorld w 5 t):=Any.strconv_Atoi_ok Tryz.laysC172 s hmax v h w
open Go.RowKit Go.Lib in
theorem Tryz.strconv_Atoi_range (s:ByteArray) (hlim:s.size≤281474976710656) (h:Lib.atoiAll s.data.toList=.range) (ev:Value) (w:World) (hv:w.cell? ⟨4,0,none⟩=some ev) (hev:ev=.nilIface∨∃te pe,ev=.iface te pe) :
 Calls Tryz.prog 135 #[.string s] w fun e w'=>∃N,e=.returned (.tuple #[.int .i64 (Lib.atoiSat s.data.toList),.iface 296 (.pointer (some ⟨N,0,none⟩))])∧w.heap.size≤N∧w'.heap[N]?=some (.cells #[.string ⟨#[65,116,111,105]⟩,.string s,ev] 333 (0,0))∧Below w.heap.size w w':=Any.strconv_Atoi_range Tryz.laysC172 s hlim h ev w hv hev
end Go.Proofs

namespace Go.Proofs
open Go.Shelf
def Tryz.lays99_ren:Go.Shelf.Ren:=⟨fun | 99=>149 | 206=>202 | n=>n,fun | 9=>9 | 4=>4 | 3=>3 | n=>n,fun | n=>n⟩
theorem Tryz.lays99:Go.Proofs.Lays.n99 Tryz.prog Tryz.lays99_ren:={
 mixed:=by kernel_rfl
 f99:=Tryz.func149.trans (congrArg some (by kernel_rfl))
 f206:=Tryz.func202.trans (congrArg some (by kernel_rfl))
 t3:=Tryz.underlying3
 a3:=Tryz.isAgg3
 z3:=Tryz.sizeOf3
 v3:=Tryz.zeroValue3
 t4:=Tryz.underlying4
 a4:=Tryz.isAgg4
 z4:=Tryz.sizeOf4
 v4:=Tryz.zeroValue4
 t9:=Tryz.underlying9
 a9:=Tryz.isAgg9
 z9:=Tryz.sizeOf9
 v9:=Tryz.zeroValue9 }
open Go.RowKit Go.Lib in
theorem Tryz.strings_HasPrefix (s p:ByteArray) (w:World) :
 Calls Tryz.prog 149 #[.string s,.string p] w fun e w'=>e=.returned (.bool (Lib.hasPrefix s.data.toList p.data.toList))∧w'=w:=Any.strings_HasPrefix Tryz.lays99 s p w
def Tryz.lays103_ren:Go.Shelf.Ren:=⟨fun | 103=>134 | 210=>192 | 206=>202 | n=>n,fun | 9=>9 | 4=>4 | 24=>197 | 3=>3 | n=>n,fun | n=>n⟩
theorem Tryz.lays103:Go.Proofs.Lays.n103 Tryz.prog Tryz.lays103_ren:={
 mixed:=by kernel_rfl
 f103:=Tryz.func134.trans (congrArg some (by kernel_rfl))
 f206:=Tryz.func202.trans (congrArg some (by kernel_rfl))
 f210:=Tryz.func192.trans (congrArg some (by kernel_rfl))
 t3:=Tryz.underlying3
 a3:=Tryz.isAgg3
 z3:=Tryz.sizeOf3
 v3:=Tryz.zeroValue3
 t4:=Tryz.underlying4
 a4:=Tryz.isAgg4
 z4:=Tryz.sizeOf4
 v4:=Tryz.zeroValue4
 t9:=Tryz.underlying9
 a9:=Tryz.isAgg9
 z9:=Tryz.sizeOf9
 v9:=Tryz.zeroValue9
 t24:=Tryz.underlying197
 a24:=Tryz.isAgg197
 z24:=Tryz.sizeOf197
 v24:=Tryz.zeroValue197 }
open Go.RowKit Go.Lib in
theorem Tryz.strings_CutPrefix (s p:ByteArray) (w:World) :
 Calls Tryz.prog 134 #[.string s,.string p] w fun e w'=>e=.returned (.tuple #[.string ⟨(Lib.trimPrefix s.data.toList p.data.toList).toArray⟩,.bool (Lib.hasPrefix s.data.toList p.data.toList)])∧w'=w:=Any.strings_CutPrefix Tryz.lays103 s p w
def Tryz.lays146_ren:Go.Shelf.Ren:=⟨fun | 146=>85 | 221=>148 | 268=>199 | 138=>200 | 143=>201 | 195=>256 | 197=>257 | 218=>258 | 219=>259 | 260=>303 | 217=>208 | 225=>304 | 224=>305 | 267=>306 | 266=>267 | 314=>343 | n=>n,fun | 9=>9 | 31=>112 | 3=>3 | 4=>4 | 0=>0 | 105=>308 | 21=>21 | 5=>5 | 46=>226 | 119=>284 | 139=>287 | 138=>286 | 146=>274 | 51=>273 | n=>n,fun | 1=>2 | 3=>0 | 4=>1 | n=>n⟩
theorem Tryz.lays146:Go.Proofs.Lays.n146 Tryz.prog Tryz.lays146_ren:={
 mixed:=by kernel_rfl
 f138:=Tryz.func200.trans (congrArg some (by kernel_rfl))
 f143:=Tryz.func201.trans (congrArg some (by kernel_rfl))
 f146:=Tryz.func85.trans (congrArg some (by kernel_rfl))
 f195:=Tryz.func256.trans (congrArg some (by kernel_rfl))
 f197:=Tryz.func257.trans (congrArg some (by kernel_rfl))
 f217:=Tryz.func208.trans (congrArg some (by kernel_rfl))
 f218:=Tryz.func258.trans (congrArg some (by kernel_rfl))
 f219:=Tryz.func259.trans (congrArg some (by kernel_rfl))
 f221:=Tryz.func148.trans (congrArg some (by kernel_rfl))
 f224:=Tryz.func305.trans (congrArg some (by kernel_rfl))
 f225:=Tryz.func304.trans (congrArg some (by kernel_rfl))
 f260:=Tryz.func303.trans (congrArg some (by kernel_rfl))
 f266:=Tryz.func267.trans (congrArg some (by kernel_rfl))
 f267:=Tryz.func306.trans (congrArg some (by kernel_rfl))
 f268:=Tryz.func199.trans (congrArg some (by kernel_rfl))
 f314:=Tryz.func343.trans (congrArg some (by kernel_rfl))
 t0:=Tryz.underlying0
 a0:=Tryz.isAgg0
 z0:=Tryz.sizeOf0
 v0:=Tryz.zeroValue0
 t3:=Tryz.underlying3
 a3:=Tryz.isAgg3
 z3:=Tryz.sizeOf3
 v3:=Tryz.zeroValue3
 t4:=Tryz.underlying4
 a4:=Tryz.isAgg4
 z4:=Tryz.sizeOf4
 v4:=Tryz.zeroValue4
 t5:=Tryz.underlying5
 a5:=Tryz.isAgg5
 z5:=Tryz.sizeOf5
 v5:=Tryz.zeroValue5
 t9:=Tryz.underlying9
 a9:=Tryz.isAgg9
 z9:=Tryz.sizeOf9
 v9:=Tryz.zeroValue9
 t21:=Tryz.underlying21
 a21:=Tryz.isAgg21
 z21:=Tryz.sizeOf21
 v21:=Tryz.zeroValue21
 t31:=Tryz.underlying112
 a31:=Tryz.isAgg112
 z31:=Tryz.sizeOf112
 v31:=Tryz.zeroValue112
 t46:=Tryz.underlying226
 a46:=Tryz.isAgg226
 z46:=Tryz.sizeOf226
 v46:=Tryz.zeroValue226
 t51:=Tryz.underlying273
 a51:=Tryz.isAgg273
 z51:=Tryz.sizeOf273
 v51:=Tryz.zeroValue273
 t105:=Tryz.underlying308
 a105:=Tryz.isAgg308
 z105:=Tryz.sizeOf308
 v105:=Tryz.zeroValue308
 t119:=Tryz.underlying284
 a119:=Tryz.isAgg284
 z119:=Tryz.sizeOf284
 t138:=Tryz.underlying286
 a138:=Tryz.isAgg286
 z138:=Tryz.sizeOf286
 v138:=Tryz.zeroValue286
 t139:=Tryz.underlying287
 a139:=Tryz.isAgg287
 z139:=Tryz.sizeOf287
 v139:=Tryz.zeroValue287
 t146:=Tryz.underlying274
 a146:=Tryz.isAgg274
 z146:=Tryz.sizeOf274
 v146:=Tryz.zeroValue274
 g1:=by kernel_rfl
 g3:=by kernel_rfl
 g4:=by kernel_rfl }
open Go.RowKit Go.Lib in
theorem Tryz.strings_Split (s sep:ByteArray) (m:Int) (w:World) (hs:s.size<4294967281) (hm:w.cell? ⟨2,0,none⟩=some (.int .i64 m)) (h1:1≤sep.size) :
 Calls Tryz.prog 85 #[.string s,.string sep] w fun e w' =>
  e=.returned (.slice (some ⟨w.heap.size,0,none⟩) (Lib.countB s sep+1) (Lib.countB s sep+1))∧w'=w.alloc (.cells ((Lib.splitB sep 0 (Lib.countB s sep) s).map Value.string).toArray 9):=Any.strings_Split Tryz.lays146 (by kernel_rfl) s sep m w hs hm h1
end Go.Proofs

namespace Go.Proofs
open Go.Shelf
def Tryz.lays169_ren:Go.Shelf.Ren:=⟨fun | 169=>84 | n=>n,fun | 70=>136 | 9=>9 | 0=>0 | 72=>139 | 37=>137 | 127=>209 | 3=>3 | 5=>5 | n=>n,fun | n=>n⟩
theorem Tryz.lays169:Go.Proofs.Lays.n169 Tryz.prog Tryz.lays169_ren:={
 mixed:=by kernel_rfl
 f169:=Tryz.func84.trans (congrArg some (by kernel_rfl))
 t0:=Tryz.underlying0
 a0:=Tryz.isAgg0
 z0:=Tryz.sizeOf0
 v0:=Tryz.zeroValue0
 t3:=Tryz.underlying3
 a3:=Tryz.isAgg3
 z3:=Tryz.sizeOf3
 v3:=Tryz.zeroValue3
 t9:=Tryz.underlying9
 a9:=Tryz.isAgg9
 z9:=Tryz.sizeOf9
 v9:=Tryz.zeroValue9
 t37:=Tryz.underlying137
 a37:=Tryz.isAgg137
 z37:=Tryz.sizeOf137
 v37:=Tryz.zeroValue137
 t70:=Tryz.underlying136
 a70:=Tryz.isAgg136
 z70:=Tryz.sizeOf136
 v70:=Tryz.zeroValue136
 t72:=Tryz.underlying139
 a72:=Tryz.isAgg139
 z72:=Tryz.sizeOf139
 v72:=Tryz.zeroValue139
 t127:=Tryz.underlying209
 a127:=Tryz.isAgg209
 z127:=Tryz.sizeOf209
 v127:=Tryz.zeroValue209 }
theorem Tryz.Builder_Extra_169:Builder.Extra Tryz.prog Tryz.lays169_ren:={
 sizeBuilder:=by kernel_rfl
 liesBuilder:=by kernel_rfl
 t5:=Tryz.underlying5
 a5:=Tryz.isAgg5
 z5:=Tryz.sizeOf5
 v5:=Tryz.zeroValue5
 infoByte:=by kernel_rfl
 cellsByte:=by kernel_rfl
 sizeByte:=by kernel_rfl
 neB5:=by decide }
open Go.RowKit in
theorem Tryz.Builder_String_any_k (B b:Nat) (l:List UInt8) (w:World) (h:Lib.IsBuilderF 139 5 B b (Lib.byteCells l) w) (hBw:B≤w.heap.size) :
 Calls Tryz.prog 84 #[.pointer (some ⟨b,0,none⟩)] w fun e w'=>e=.returned (.string ⟨l.toArray⟩)∧(Lib.IsBuilderF 139 5 B b (Lib.byteCells l) w'∧Below B w w'∧Lib.OthersKept 5 (some b) w w'):=Any.Builder_String_any_k Tryz.lays169 Tryz.Builder_Extra_169 B b l w h hBw
end Go.Proofs

namespace Go.Proofs
open Go.Shelf
def Tryz.lays27_ren:Go.Shelf.Ren:=⟨fun | 27=>302 | 28=>341 | 29=>342 | n=>n,fun | 25=>226 | 3=>3 | 27=>273 | 22=>216 | 4=>4 | 53=>379 | 0=>0 | 5=>5 | 54=>380 | n=>n,fun | 0=>6 | 1=>7 | n=>n⟩
theorem Tryz.lays27:Go.Proofs.Lays7.n27 Tryz.prog Tryz.lays27_ren:={
 mixed:=by kernel_rfl
 f27:=Tryz.func302.trans (congrArg some (by kernel_rfl))
 f28:=Tryz.func341.trans (congrArg some (by kernel_rfl))
 f29:=Tryz.func342.trans (congrArg some (by kernel_rfl))
 t0:=Tryz.underlying0
 a0:=Tryz.isAgg0
 z0:=Tryz.sizeOf0
 v0:=Tryz.zeroValue0
 i0:=by kernel_rfl
 t3:=Tryz.underlying3
 a3:=Tryz.isAgg3
 z3:=Tryz.sizeOf3
 v3:=Tryz.zeroValue3
 i3:=by kernel_rfl
 t4:=Tryz.underlying4
 a4:=Tryz.isAgg4
 z4:=Tryz.sizeOf4
 v4:=Tryz.zeroValue4
 i4:=by kernel_rfl
 t5:=Tryz.underlying5
 a5:=Tryz.isAgg5
 z5:=Tryz.sizeOf5
 v5:=Tryz.zeroValue5
 i5:=by kernel_rfl
 t22:=Tryz.underlying216
 a22:=Tryz.isAgg216
 z22:=Tryz.sizeOf216
 v22:=Tryz.zeroValue216
 i22:=by kernel_rfl
 t25:=Tryz.underlying226
 a25:=Tryz.isAgg226
 z25:=Tryz.sizeOf226
 v25:=Tryz.zeroValue226
 i25:=by kernel_rfl
 t27:=Tryz.underlying273
 a27:=Tryz.isAgg273
 z27:=Tryz.sizeOf273
 v27:=Tryz.zeroValue273
 i27:=by kernel_rfl
 t53:=Tryz.underlying379
 a53:=Tryz.isAgg379
 z53:=Tryz.sizeOf379
 v53:=Tryz.zeroValue379
 i53:=by kernel_rfl
 t54:=Tryz.underlying380
 a54:=Tryz.isAgg380
 z54:=Tryz.sizeOf380
 g0:=by kernel_rfl
 g1:=by kernel_rfl }
open Go.RowKit Go.Lib in
theorem Tryz.bits_TrailingZeros (x:Nat) (hx:x<18446744073709551616) (w:World) (hT:x≠0→TabAt 7 Lib.deBruijn64tab w) :
 Calls Tryz.prog 302 #[.int .u64 x] w fun e w'=>e=.returned (.int .i64 (Lib.ctz 64 x))∧w'=w:=Any7.bits_TrailingZeros Tryz.lays27 x hx w hT
end Go.Proofs

namespace Go.Proofs
open Go.Shelf
def Tryz.sortS_ren:Go.Shelf.Ren:=⟨fun | 6=>190 | 8=>241 | 9=>240 | 19=>290 | 20=>291 | 21=>281 | 22=>282 | 23=>283 | 24=>284 | 25=>285 | 26=>286 | 27=>287 | 28=>288 | 29=>289 | 36=>330 | 31=>331 | 32=>332 | 37=>333 | 38=>334 | 39=>335 | 41=>355 | n=>n,fun | 27=>112 | 29=>9 | 3=>3 | 32=>226 | 26=>112 | 0=>0 | 44=>273 | 46=>216 | 4=>4 | 36=>326 | 35=>325 | 41=>118 | 5=>5 | 9=>9 | 53=>351 | 57=>355 | 63=>375 | 64=>376 | n=>n,fun | n=>n⟩
theorem Tryz.sortS:Go.Proofs.SlLaysM.n6 Tryz.prog Tryz.sortS_ren:={
 mixed:=by kernel_rfl
 f6:=⟨Tryz.f190.name,by decide,Tryz.func190.trans (congrArg some (by kernel_rfl))⟩
 f8:=Tryz.func241.trans (congrArg some (by kernel_rfl))
 f9:=⟨Tryz.f240.name,by decide,Tryz.func240.trans (congrArg some (by kernel_rfl))⟩
 f19:=Tryz.func290.trans (congrArg some (by kernel_rfl))
 f20:=Tryz.func291.trans (congrArg some (by kernel_rfl))
 f21:=⟨Tryz.f281.name,by decide,Tryz.func281.trans (congrArg some (by kernel_rfl))⟩
 f22:=⟨Tryz.f282.name,by decide,Tryz.func282.trans (congrArg some (by kernel_rfl))⟩
 f23:=⟨Tryz.f283.name,by decide,Tryz.func283.trans (congrArg some (by kernel_rfl))⟩
 f24:=⟨Tryz.f284.name,by decide,Tryz.func284.trans (congrArg some (by kernel_rfl))⟩
 f25:=⟨Tryz.f285.name,by decide,Tryz.func285.trans (congrArg some (by kernel_rfl))⟩
 f26:=⟨Tryz.f286.name,by decide,Tryz.func286.trans (congrArg some (by kernel_rfl))⟩
 f27:=⟨Tryz.f287.name,by decide,Tryz.func287.trans (congrArg some (by kernel_rfl))⟩
 f28:=⟨Tryz.f288.name,by decide,Tryz.func288.trans (congrArg some (by kernel_rfl))⟩
 f29:=⟨Tryz.f289.name,by decide,Tryz.func289.trans (congrArg some (by kernel_rfl))⟩
 f31:=Tryz.func331.trans (congrArg some (by kernel_rfl))
 f32:=Tryz.func332.trans (congrArg some (by kernel_rfl))
 f36:=⟨Tryz.f330.name,by decide,Tryz.func330.trans (congrArg some (by kernel_rfl))⟩
 f37:=⟨Tryz.f333.name,by decide,Tryz.func333.trans (congrArg some (by kernel_rfl))⟩
 f38:=⟨Tryz.f334.name,by decide,Tryz.func334.trans (congrArg some (by kernel_rfl))⟩
 f39:=⟨Tryz.f335.name,by decide,Tryz.func335.trans (congrArg some (by kernel_rfl))⟩
 f41:=⟨Tryz.f355.name,by decide,Tryz.func355.trans (congrArg some (by kernel_rfl))⟩
 t0:=Tryz.underlying0
 a0:=Tryz.isAgg0
 z0:=Tryz.sizeOf0
 v0:=Tryz.zeroValue0
 t3:=Tryz.underlying3
 a3:=Tryz.isAgg3
 z3:=Tryz.sizeOf3
 v3:=Tryz.zeroValue3
 t4:=Tryz.underlying4
 a4:=Tryz.isAgg4
 z4:=Tryz.sizeOf4
 v4:=Tryz.zeroValue4
 t5:=Tryz.underlying5
 a5:=Tryz.isAgg5
 z5:=Tryz.sizeOf5
 v5:=Tryz.zeroValue5
 t9:=Tryz.underlying9
 a9:=Tryz.isAgg9
 z9:=Tryz.sizeOf9
 v9:=Tryz.zeroValue9
 t26:=Tryz.underlying112
 a26:=Tryz.isAgg112
 z26:=Tryz.sizeOf112
 v26:=Tryz.zeroValue112
 t27:=Tryz.underlying112
 a27:=Tryz.isAgg112
 z27:=Tryz.sizeOf112
 v27:=Tryz.zeroValue112
 t29:=Tryz.underlying9
 a29:=Tryz.isAgg9
 z29:=Tryz.sizeOf9
 v29:=Tryz.zeroValue9
 t32:=Tryz.underlying226
 a32:=Tryz.isAgg226
 z32:=Tryz.sizeOf226
 v32:=Tryz.zeroValue226
 t35:=Tryz.underlying325
 a35:=Tryz.isAgg325
 z35:=Tryz.sizeOf325
 v35:=Tryz.zeroValue325
 t36:=Tryz.underlying326
 a36:=Tryz.isAgg326
 z36:=Tryz.sizeOf326
 v36:=Tryz.zeroValue326
 t41:=Tryz.underlying118
 a41:=Tryz.isAgg118
 z41:=Tryz.sizeOf118
 v41:=Tryz.zeroValue118
 t44:=Tryz.underlying273
 a44:=Tryz.isAgg273
 z44:=Tryz.sizeOf273
 v44:=Tryz.zeroValue273
 t46:=Tryz.underlying216
 a46:=Tryz.isAgg216
 z46:=Tryz.sizeOf216
 v46:=Tryz.zeroValue216
 t53:=Tryz.underlying351
 a53:=Tryz.isAgg351
 z53:=Tryz.sizeOf351
 v53:=Tryz.zeroValue351
 t57:=Tryz.underlying355
 a57:=Tryz.isAgg355
 z57:=Tryz.sizeOf355
 v57:=Tryz.zeroValue355
 t63:=Tryz.underlying375
 a63:=Tryz.isAgg375
 z63:=Tryz.sizeOf375
 v63:=Tryz.zeroValue375
 t64:=Tryz.underlying376
 a64:=Tryz.isAgg376
 z64:=Tryz.sizeOf376
 v64:=Tryz.zeroValue376 }
open Go.RowKit Go.Sort Go.Lib in
theorem Tryz.slices_Sort_string (blk off cap:Nat) (ss:List (List UInt8)) (w:World) (hH:Holds encStr w blk off ss.toArray) (hblk:blk<w.heap.size) (hsz:ss.length<4611686018427387904) :
 Calls Tryz.prog 190 #[.slice (some ⟨blk,off,none⟩) ss.length cap] w fun e w'=>e=.returned (.tuple #[])∧∃n os,w'=grow (putRow encStr (Sort.ahead w n) blk off (ss.mergeSort fun x y=>decide (x≤y)).toArray) os:=AnyM.slices_Sort_string Tryz.sortS blk off cap ss w hH hblk hsz
open Go.RowKit Go.Sort Go.Lib in
theorem Tryz.slices_Sort_string_none (p:Option Addr) (cap:Nat) (w:World) :
 Calls Tryz.prog 190 #[.slice p 0 cap] w fun e w'=>e=.returned (.tuple #[])∧w'=w:=AnyM.slices_Sort_string_none Tryz.sortS p cap w
end Go.Proofs

namespace Go.Proofs
open Go.Shelf
def Tryz.keysF_ren:Go.Shelf.Ren:=⟨fun | 7=>132 | 10=>191 | n=>n,fun | 23=>123 | 26=>9 | 3=>188 | 28=>194 | 0=>0 | 27=>193 | 33=>92 | 4=>4 | n=>n,fun | n=>n⟩
theorem Tryz.keysF:Go.Proofs.SlLaysZ.n7 Tryz.prog Tryz.keysF_ren:={
 mixed:=by kernel_rfl
 f7:=⟨Tryz.f132.name,by decide,Tryz.func132.trans (congrArg some (by kernel_rfl))⟩
 f10:=⟨Tryz.f191.name,by decide,Tryz.func191.trans (congrArg some (by kernel_rfl))⟩
 t0:=Tryz.underlying0
 a0:=Tryz.isAgg0
 z0:=Tryz.sizeOf0
 v0:=Tryz.zeroValue0
 t4:=Tryz.underlying4
 a4:=Tryz.isAgg4
 z4:=Tryz.sizeOf4
 v4:=Tryz.zeroValue4
 t23:=Tryz.underlying123
 a23:=Tryz.isAgg123
 z23:=Tryz.sizeOf123
 v23:=Tryz.zeroValue123
 t26:=Tryz.underlying9
 a26:=Tryz.isAgg9
 z26:=Tryz.sizeOf9
 v26:=Tryz.zeroValue9
 t27:=Tryz.underlying193
 a27:=Tryz.isAgg193
 z27:=Tryz.sizeOf193
 v27:=Tryz.zeroValue193
 t28:=Tryz.underlying194
 a28:=Tryz.isAgg194
 z28:=Tryz.sizeOf194
 v28:=Tryz.zeroValue194
 t33:=Tryz.underlying92
 a33:=Tryz.isAgg92
 z33:=Tryz.sizeOf92
 v33:=Tryz.zeroValue92 }
end Go.Proofs
