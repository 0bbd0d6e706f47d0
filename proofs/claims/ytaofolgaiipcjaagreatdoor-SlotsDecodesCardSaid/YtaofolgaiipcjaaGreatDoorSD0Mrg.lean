/- A part. -/
import Derived.Shelf.Strings.OnBuilder
import Derived.Shelf.Strings.BuilderF
import Derived.Shelf.Small.Strs
import Derived.Shelf.Small.Wraps
import Derived.Shelf.Strconv.Itoa0
import Derived.Shelf.Strconv.Itoa4
import Derived.Shelf.LaysM
import Derived.Shelf.Slices.Equal
import Derived.Shelf.Slices.Clone
import Derived.Shelf.Slices.Empties2
import Derived.Ground.Names2Prog
import Derived.Test.YtaofolgaiipcjaaGreatDoorProg
import Derived.Shelf.Unicode.ValidAny
import Derived.Ground.NamesProg
import Derived.Shelf.Strings.BuilderK
import Derived.Shelf.Strings.Cut
import Derived.Shelf.Strings.Repeat
import Derived.Shelf.Strconv.AtoiAll
import Derived.Shelf.Spec.TrailingZeros
import Derived.Ground.Names7Prog
import Derived.Shelf.Strings.Prefix
import Derived.Shelf.Strings.Split
import Derived.Shelf.Strings.Search3
import Derived.Shelf.SlSortCmp.WholeK
import Derived.Ground.SlsfProg
namespace Go.Proofs
set_option linter.unusedVariables false
set_option linter.unusedSimpArgs false
open Go.Shelf
def Tryz.lays156_ren:Go.Shelf.Ren:=⟨fun | 156=>62 | 165=>164 | 166=>61 | 169=>44 | 240=>163 | 241=>246 | 276=>245 | 277=>291 | n=>n,fun | 31=>111 | 9=>9 | 3=>3 | 4=>4 | 0=>0 | 20=>20 | 72=>76 | 76=>114 | 70=>74 | 37=>66 | 75=>113 | 127=>204 | 164=>292 | 5=>5 | 80=>87 | n=>n,fun | n=>n⟩
theorem Tryz.lays156:Go.Proofs.Lays.n156 Tryz.prog Tryz.lays156_ren:={
 mixed:=by kernel_rfl
 f156:=Tryz.func62.trans (congrArg some (by kernel_rfl))
 f165:=Tryz.func164.trans (congrArg some (by kernel_rfl))
 f166:=Tryz.func61.trans (congrArg some (by kernel_rfl))
 f169:=Tryz.func44.trans (congrArg some (by kernel_rfl))
 f240:=Tryz.func163.trans (congrArg some (by kernel_rfl))
 f241:=Tryz.func246.trans (congrArg some (by kernel_rfl))
 f276:=Tryz.func245.trans (congrArg some (by kernel_rfl))
 f277:=Tryz.func291.trans (congrArg some (by kernel_rfl))
 t0:=Tryz.underlying0
 a0:=Tryz.isAgg0
 z0:=Tryz.sizeOf0
 v0:=Tryz.zeroValue0
 t3:=Tryz.underlying3
 a3:=Tryz.isAgg3
 z3:=Tryz.sizeOf3
 v3:=Tryz.zeroValue3
 t4:=Tryz.underlying4
 a4:=Tryz.isAgg4
 z4:=Tryz.sizeOf4
 v4:=Tryz.zeroValue4
 t9:=Tryz.underlying9
 a9:=Tryz.isAgg9
 z9:=Tryz.sizeOf9
 v9:=Tryz.zeroValue9
 t20:=Tryz.underlying20
 a20:=Tryz.isAgg20
 z20:=Tryz.sizeOf20
 v20:=Tryz.zeroValue20
 t31:=Tryz.underlying111
 a31:=Tryz.isAgg111
 z31:=Tryz.sizeOf111
 v31:=Tryz.zeroValue111
 t37:=Tryz.underlying66
 a37:=Tryz.isAgg66
 z37:=Tryz.sizeOf66
 v37:=Tryz.zeroValue66
 t70:=Tryz.underlying74
 a70:=Tryz.isAgg74
 z70:=Tryz.sizeOf74
 v70:=Tryz.zeroValue74
 t72:=Tryz.underlying76
 a72:=Tryz.isAgg76
 z72:=Tryz.sizeOf76
 v72:=Tryz.zeroValue76
 t75:=Tryz.underlying113
 a75:=Tryz.isAgg113
 z75:=Tryz.sizeOf113
 v75:=Tryz.zeroValue113
 t76:=Tryz.underlying114
 a76:=Tryz.isAgg114
 z76:=Tryz.sizeOf114
 v76:=Tryz.zeroValue114
 t127:=Tryz.underlying204
 a127:=Tryz.isAgg204
 z127:=Tryz.sizeOf204
 v127:=Tryz.zeroValue204
 t164:=Tryz.underlying292
 a164:=Tryz.isAgg292
 z164:=Tryz.sizeOf292
 v164:=Tryz.zeroValue292 }
theorem Tryz.Builder_Extra_156:Builder.Extra Tryz.prog Tryz.lays156_ren:={
 sizeBuilder:=by kernel_rfl
 liesBuilder:=by kernel_rfl
 t5:=Tryz.underlying5
 a5:=Tryz.isAgg5
 z5:=Tryz.sizeOf5
 v5:=Tryz.zeroValue5
 infoByte:=by kernel_rfl
 cellsByte:=by kernel_rfl
 sizeByte:=by kernel_rfl
 neB5:=by decide }
open Go.RowKit in
theorem Tryz.strings_Join_none (a:Option Addr) (c:Nat) (sep:ByteArray) (w:World) :
 Calls Tryz.prog 62 #[.slice a 0 c,.string sep] w fun e w'=>e=.returned (.string ⟨#[]⟩)∧w'=w:=Any.strings_Join_none Tryz.lays156 Tryz.Builder_Extra_156 a c sep w
open Go.RowKit in
theorem Tryz.strings_Join (bk o c:Nat) (xs:List ByteArray) (sep:ByteArray) (w:World) (hcells:∀(j:Nat) x,xs[j]?=some x→w.cell? ⟨bk,o+j,none⟩=some (.string x)) (hbk:bk<w.heap.size) (hN:xs.length≤140737488355328) (hcap:xs.length≤c) (hlen:(Lib.join (xs.map (·.data.toList)) sep.data.toList).length≤140737488355328) :
 Calls Tryz.prog 62 #[.slice (some ⟨bk,o,none⟩) xs.length c,.string sep] w fun e w'=>e=.returned (.string ⟨(Lib.join (xs.map (·.data.toList)) sep.data.toList).toArray⟩)∧Below w.heap.size w w':=Any.strings_Join Tryz.lays156 Tryz.Builder_Extra_156 bk o c xs sep w hcells hbk hN hcap hlen
def Tryz.lays106_ren:Go.Shelf.Ren:=⟨fun | 106=>176 | 213=>255 | 265=>298 | n=>n,fun | 9=>9 | 3=>3 | n=>n,fun | n=>n⟩
theorem Tryz.lays106:Go.Proofs.Lays.n106 Tryz.prog Tryz.lays106_ren:={
 mixed:=by kernel_rfl
 f106:=Tryz.func176.trans (congrArg some (by kernel_rfl))
 f213:=Tryz.func255.trans (congrArg some (by kernel_rfl))
 f265:=Tryz.func298.trans (congrArg some (by kernel_rfl))
 t3:=Tryz.underlying3
 a3:=Tryz.isAgg3
 z3:=Tryz.sizeOf3
 v3:=Tryz.zeroValue3
 t9:=Tryz.underlying9
 a9:=Tryz.isAgg9
 z9:=Tryz.sizeOf9
 v9:=Tryz.zeroValue9 }
open Go.RowKit in
theorem Tryz.strings_Compare (a b:ByteArray) (w:World) :
 Calls Tryz.prog 176 #[.string a,.string b] w fun e w'=>e=.returned (.int .i64 (Lib.compareBytes a.data.toList b.data.toList))∧w'=w:=Any.strings_Compare Tryz.lays106 a b w
def Tryz.lays122_ren:Go.Shelf.Ren:=⟨fun | 122=>175 | 215=>254 | n=>n,fun | 3=>3 | 4=>4 | n=>n,fun | n=>n⟩
theorem Tryz.lays122:Go.Proofs.Lays.n122 Tryz.prog Tryz.lays122_ren:={
 mixed:=by kernel_rfl
 f122:=Tryz.func175.trans (congrArg some (by kernel_rfl))
 f215:=Tryz.func254.trans (congrArg some (by kernel_rfl))
 t3:=Tryz.underlying3
 a3:=Tryz.isAgg3
 z3:=Tryz.sizeOf3
 v3:=Tryz.zeroValue3
 t4:=Tryz.underlying4
 a4:=Tryz.isAgg4
 z4:=Tryz.sizeOf4
 v4:=Tryz.zeroValue4 }
open Go.RowKit in
theorem Tryz.cmp_Compare_int (x y:Int) (w:World) :
 Calls Tryz.prog 175 #[.int .i64 x,.int .i64 y] w fun e w'=>e=.returned (.int .i64 (Lib.compareInt x y))∧w'=w:=Any.cmp_Compare_int Tryz.lays122 x y w
def Tryz.laysM171_ren:Go.Shelf.Ren:=⟨fun | 171=>64 | 243=>165 | 246=>247 | 283=>292 | 284=>293 | 285=>294 | 286=>295 | 129=>334 | 317=>333 | 318=>335 | 319=>336 | 320=>337 | 337=>354 | 338=>355 | n=>n,fun | 3=>3 | 9=>9 | 2=>2 | 4=>4 | 171=>327 | 0=>0 | 53=>253 | 37=>66 | 5=>5 | 173=>330 | 212=>350 | 51=>298 | 20=>20 | 213=>351 | 46=>263 | 232=>379 | 233=>380 | n=>n,fun | 17=>5 | 18=>6 | 19=>7 | n=>n⟩
theorem Tryz.laysM171:Go.Proofs.LaysM.n171 Tryz.prog Tryz.laysM171_ren:={
 mixed:=by kernel_rfl
 f129:=Tryz.func334.trans (congrArg some (by kernel_rfl))
 f171:=Tryz.func64.trans (congrArg some (by kernel_rfl))
 f243:=Tryz.func165.trans (congrArg some (by kernel_rfl))
 f246:=Tryz.func247.trans (congrArg some (by kernel_rfl))
 f283:=Tryz.func292.trans (congrArg some (by kernel_rfl))
 f284:=Tryz.func293.trans (congrArg some (by kernel_rfl))
 f285:=Tryz.func294.trans (congrArg some (by kernel_rfl))
 f286:=Tryz.func295.trans (congrArg some (by kernel_rfl))
 f317:=Tryz.func333.trans (congrArg some (by kernel_rfl))
 f318:=Tryz.func335.trans (congrArg some (by kernel_rfl))
 f319:=Tryz.func336.trans (congrArg some (by kernel_rfl))
 f320:=Tryz.func337.trans (congrArg some (by kernel_rfl))
 f337:=Tryz.func354.trans (congrArg some (by kernel_rfl))
 f338:=Tryz.func355.trans (congrArg some (by kernel_rfl))
 t0:=Tryz.underlying0
 a0:=Tryz.isAgg0
 z0:=Tryz.sizeOf0
 v0:=Tryz.zeroValue0
 t2:=Tryz.underlying2
 a2:=Tryz.isAgg2
 z2:=Tryz.sizeOf2
 v2:=Tryz.zeroValue2
 t3:=Tryz.underlying3
 a3:=Tryz.isAgg3
 z3:=Tryz.sizeOf3
 v3:=Tryz.zeroValue3
 t4:=Tryz.underlying4
 a4:=Tryz.isAgg4
 z4:=Tryz.sizeOf4
 v4:=Tryz.zeroValue4
 t5:=Tryz.underlying5
 a5:=Tryz.isAgg5
 z5:=Tryz.sizeOf5
 v5:=Tryz.zeroValue5
 t9:=Tryz.underlying9
 a9:=Tryz.isAgg9
 z9:=Tryz.sizeOf9
 v9:=Tryz.zeroValue9
 t20:=Tryz.underlying20
 a20:=Tryz.isAgg20
 z20:=Tryz.sizeOf20
 v20:=Tryz.zeroValue20
 t37:=Tryz.underlying66
 a37:=Tryz.isAgg66
 z37:=Tryz.sizeOf66
 v37:=Tryz.zeroValue66
 t46:=Tryz.underlying263
 a46:=Tryz.isAgg263
 z46:=Tryz.sizeOf263
 v46:=Tryz.zeroValue263
 t51:=Tryz.underlying298
 a51:=Tryz.isAgg298
 z51:=Tryz.sizeOf298
 v51:=Tryz.zeroValue298
 t53:=Tryz.underlying253
 a53:=Tryz.isAgg253
 z53:=Tryz.sizeOf253
 v53:=Tryz.zeroValue253
 t171:=Tryz.underlying327
 a171:=Tryz.isAgg327
 z171:=Tryz.sizeOf327
 v171:=Tryz.zeroValue327
 t173:=Tryz.underlying330
 a173:=Tryz.isAgg330
 z173:=Tryz.sizeOf330
 v173:=Tryz.zeroValue330
 t212:=Tryz.underlying350
 a212:=Tryz.isAgg350
 z212:=Tryz.sizeOf350
 v212:=Tryz.zeroValue350
 t213:=Tryz.underlying351
 a213:=Tryz.isAgg351
 z213:=Tryz.sizeOf351
 t232:=Tryz.underlying379
 a232:=Tryz.isAgg379
 z232:=Tryz.sizeOf379
 v232:=Tryz.zeroValue379
 t233:=Tryz.underlying380
 a233:=Tryz.isAgg380
 z233:=Tryz.sizeOf380
 v233:=Tryz.zeroValue380
 g17:=by kernel_rfl
 g18:=by kernel_rfl
 g19:=by kernel_rfl
 i0:=by kernel_rfl
 i2:=by kernel_rfl
 i3:=by kernel_rfl
 i4:=by kernel_rfl
 i5:=by kernel_rfl
 i9:=by kernel_rfl
 i20:=by kernel_rfl
 i37:=by kernel_rfl
 i46:=by kernel_rfl
 i51:=by kernel_rfl
 i53:=by kernel_rfl
 i171:=by kernel_rfl
 i173:=by kernel_rfl
 i212:=by kernel_rfl
 i232:=by kernel_rfl
 i233:=by kernel_rfl
 m17:=by kernel_rfl
 m18:=by kernel_rfl
 m19:=by kernel_rfl }
open Go.RowKit Go.Sort Go.Lib in
theorem Tryz.strconv_Itoa (n : Int) (h0 : -9223372036854775808 ≤ n) (h1 : n ≤ 9223372036854775807) (w : World) (htab : Lib.TabIs Tryz.prog w "internal/strconv.uint64pow10" .u64 Lib.pow10Tab) :
 Calls Tryz.prog 64 #[.int .i64 n] w fun e w'=>e=.returned (.string ⟨(Lib.itoa n).toArray⟩)∧∃k os,w'=grow (w.drewN k) os:=Any.strconv_Itoa Tryz.laysM171 n h0 h1 w htab
def Tryz.lays171_ren:Go.Shelf.Ren:=⟨fun | 171=>64 | 243=>165 | 246=>247 | 283=>292 | 284=>293 | 285=>294 | 286=>295 | 129=>334 | 317=>333 | 318=>335 | 319=>336 | 320=>337 | 337=>354 | 338=>355 | n=>n,fun | 3=>3 | 9=>9 | 2=>2 | 4=>4 | 171=>327 | 0=>0 | 53=>253 | 37=>66 | 5=>5 | 173=>330 | 212=>350 | 51=>298 | 20=>20 | 213=>351 | 46=>263 | 232=>379 | 233=>380 | n=>n,fun | 17=>5 | 18=>6 | 19=>7 | n=>n⟩
theorem Tryz.lays171:Go.Proofs.Lays.n171 Tryz.prog Tryz.lays171_ren:={
 mixed:=by kernel_rfl
 f129:=Tryz.func334.trans (congrArg some (by kernel_rfl))
 f171:=Tryz.func64.trans (congrArg some (by kernel_rfl))
 f243:=Tryz.func165.trans (congrArg some (by kernel_rfl))
 f246:=Tryz.func247.trans (congrArg some (by kernel_rfl))
 f283:=Tryz.func292.trans (congrArg some (by kernel_rfl))
 f284:=Tryz.func293.trans (congrArg some (by kernel_rfl))
 f285:=Tryz.func294.trans (congrArg some (by kernel_rfl))
 f286:=Tryz.func295.trans (congrArg some (by kernel_rfl))
 f317:=Tryz.func333.trans (congrArg some (by kernel_rfl))
 f318:=Tryz.func335.trans (congrArg some (by kernel_rfl))
 f319:=Tryz.func336.trans (congrArg some (by kernel_rfl))
 f320:=Tryz.func337.trans (congrArg some (by kernel_rfl))
 f337:=Tryz.func354.trans (congrArg some (by kernel_rfl))
 f338:=Tryz.func355.trans (congrArg some (by kernel_rfl))
 t0:=Tryz.underlying0
 a0:=Tryz.isAgg0
 z0:=Tryz.sizeOf0
 v0:=Tryz.zeroValue0
 t2:=Tryz.underlying2
 a2:=Tryz.isAgg2
 z2:=Tryz.sizeOf2
 v2:=Tryz.zeroValue2
 t3:=Tryz.underlying3
 a3:=Tryz.isAgg3
 z3:=Tryz.sizeOf3
 v3:=Tryz.zeroValue3
 t4:=Tryz.underlying4
 a4:=Tryz.isAgg4
 z4:=Tryz.sizeOf4
 v4:=Tryz.zeroValue4
 t5:=Tryz.underlying5
 a5:=Tryz.isAgg5
 z5:=Tryz.sizeOf5
 v5:=Tryz.zeroValue5
 t9:=Tryz.underlying9
 a9:=Tryz.isAgg9
 z9:=Tryz.sizeOf9
 v9:=Tryz.zeroValue9
 t20:=Tryz.underlying20
 a20:=Tryz.isAgg20
 z20:=Tryz.sizeOf20
 v20:=Tryz.zeroValue20
 t37:=Tryz.underlying66
 a37:=Tryz.isAgg66
 z37:=Tryz.sizeOf66
 v37:=Tryz.zeroValue66
 t46:=Tryz.underlying263
 a46:=Tryz.isAgg263
 z46:=Tryz.sizeOf263
 v46:=Tryz.zeroValue263
 t51:=Tryz.underlying298
 a51:=Tryz.isAgg298
 z51:=Tryz.sizeOf298
 v51:=Tryz.zeroValue298
 t53:=Tryz.underlying253
 a53:=Tryz.isAgg253
 z53:=Tryz.sizeOf253
 v53:=Tryz.zeroValue253
 t171:=Tryz.underlying327
 a171:=Tryz.isAgg327
 z171:=Tryz.sizeOf327
 v171:=Tryz.zeroValue327
 t173:=Tryz.underlying330
 a173:=Tryz.isAgg330
 z173:=Tryz.sizeOf330
 v173:=Tryz.zeroValue330
 t212:=Tryz.underlying350
 a212:=Tryz.isAgg350
 z212:=Tryz.sizeOf350
 v212:=Tryz.zeroValue350
 t213:=Tryz.underlying351
 a213:=Tryz.isAgg351
 z213:=Tryz.sizeOf351
 t232:=Tryz.underlying379
 a232:=Tryz.isAgg379
 z232:=Tryz.sizeOf379
 v232:=Tryz.zeroValue379
 t233:=Tryz.underlying380
 a233:=Tryz.isAgg380
 z233:=Tryz.sizeOf380
 v233:=Tryz.zeroValue380
 g17:=by kernel_rfl
 g18:=by kernel_rfl
 g19:=by kernel_rfl }
open Go.RowKit Go.Sort Go.Lib in
theorem Tryz.strconv_Itoa_small (i:Nat) (hi:i<100) (w:World) :
 Calls Tryz.prog 64 #[.int .i64 i] w fun e w'=>e=.returned (.string ⟨(Lib.decDigits i).toArray⟩)∧w'=w:=Any.strconv_Itoa_small Tryz.lays171 i hi w
def Tryz.lays111_ren:Go.Shelf.Ren:=⟨fun | 111=>201 | n=>n,fun | 28=>26 | 3=>3 | 4=>4 | 0=>0 | n=>n,fun | n=>n⟩
theorem Tryz.lays111:Go.Proofs.Lays.n111 Tryz.prog Tryz.lays111_ren:={
 mixed:=by kernel_rfl
 f111:=Tryz.func201.trans (congrArg some (by kernel_rfl))
 t0:=Tryz.underlying0
 a0:=Tryz.isAgg0
 z0:=Tryz.sizeOf0
 v0:=Tryz.zeroValue0
 t3:=Tryz.underlying3
 a3:=Tryz.isAgg3
 z3:=Tryz.sizeOf3
 v3:=Tryz.zeroValue3
 t4:=Tryz.underlying4
 a4:=Tryz.isAgg4
 z4:=Tryz.sizeOf4
 v4:=Tryz.zeroValue4
 t28:=Tryz.underlying26
 a28:=Tryz.isAgg26
 z28:=Tryz.sizeOf26
 v28:=Tryz.zeroValue26 }
open Go.RowKit Go.Lib in
theorem Tryz.slices_Equal_int (b1 o1 n c b2 o2 m d:Nat) (xs ys:List Int) (w:World) (hx:n≤xs.length) (hy:m≤ys.length) (hbig:n≤9223372036854775807) (hbig2:m≤9223372036854775807) (hc1:∀j,j<xs.length→w.cell? ⟨b1,o1+j,none⟩=some (.int .i64 (xs.getD j 0))) (hc2:∀j,j<ys.length→w.cell? ⟨b2,o2+j,none⟩=some (.int .i64 (ys.getD j 0))) :
 Calls Tryz.prog 201 #[.slice (some ⟨b1,o1,none⟩) n c,.slice (some ⟨b2,o2,none⟩) m d] w fun e w'=>e=.returned (.bool (xs.take n==ys.take m))∧∃q,w'=w.drewN q:=Any.slices_Equal_int Tryz.lays111 b1 o1 n c b2 o2 m d xs ys w hx hy hbig hbig2 hc1 hc2
open Go.RowKit Go.Lib in
theorem Tryz.slices_Equal_int_empty (a1 a2:Option Addr) (c m d:Nat) (w:World) (hbig2:m≤9223372036854775807) :
 Calls Tryz.prog 201 #[.slice a1 0 c,.slice a2 m d] w fun e w'=>e=.returned (.bool (decide (m=0)))∧w'=w:=Any.slices_Equal_int_empty Tryz.lays111 a1 a2 c m d w hbig2
def Tryz.laysNm215_ren:Go.Shelf.Ren:=⟨fun | 15=>290 | n=>n,fun | 22=>26 | 3=>3 | 4=>4 | n=>n,fun | n=>n⟩
theorem Tryz.laysNm215:Go.Proofs.Lays2.n15 Tryz.prog Tryz.laysNm215_ren:={
 mixed:=by kernel_rfl
 f15:=Tryz.func290.trans (congrArg some (by kernel_rfl))
 t3:=Tryz.underlying3
 a3:=Tryz.isAgg3
 z3:=Tryz.sizeOf3
 v3:=Tryz.zeroValue3
 t4:=Tryz.underlying4
 a4:=Tryz.isAgg4
 z4:=Tryz.sizeOf4
 v4:=Tryz.zeroValue4
 t22:=Tryz.underlying26
 a22:=Tryz.isAgg26
 z22:=Tryz.sizeOf26
 v22:=Tryz.zeroValue26
 i3:=by kernel_rfl }
open Go.RowKit Go.Lib in
theorem Tryz.slices_Clone_int (b off n c:Nat) (zs:List Int) (w:World) (hz:n≤zs.length) (hbig:n * 8≤140737488355328) (hc:∀j,j<zs.length→w.cell? ⟨b,off+j,none⟩=some (.int .i64 (zs.getD j 0))) :
 Calls Tryz.prog 290 #[.slice (some ⟨b,off,none⟩) n c] w fun e w'=>∃v',e=.returned v'∧w'.ownsRow w.heap.size 3 1 v' n ((zs.take n).map (Value.int .i64))∧v'≠.slice none 0 0∧Below w.heap.size w w':=Any.slices_Clone_int Tryz.laysNm215 b off n c zs w hz hbig hc
open Go.RowKit Go.Lib in
theorem Tryz.slices_Clone_int_nil (n c:Nat) (w:World) :
 Calls Tryz.prog 290 #[.slice none n c] w fun e w'=>e=.returned (.slice none 0 0)∧w'=w:=Any.slices_Clone_int_nil Tryz.laysNm215 n c w
open Go.RowKit Go.Lib in
theorem Tryz.slices_Clone_int_zero (a:Addr) (c:Nat) (w:World) :
 Calls Tryz.prog 290 #[.slice (some a) 0 c] w fun e w'=>∃v',e=.returned v'∧w'.ownsRow w.heap.size 3 1 v' 0 []∧v'≠.slice none 0 0∧Below w.heap.size w w':=Any.slices_Clone_int_zero Tryz.laysNm215 a c w
open Go.RowKit Go.Lib in
theorem Tryz.slices_Equal_int_lens (a1 a2:Option Addr) (n c m d:Nat) (w:World) (hnm:n≠m) :
 Calls Tryz.prog 201 #[.slice a1 n c,.slice a2 m d] w fun e w'=>e=.returned (.bool false)∧w'=w:=Any.slices_Equal_int_lens Tryz.lays111 a1 a2 n c m d w hnm
end Go.Proofs

namespace Go.Proofs
open Go.Shelf
def Tryz.laysValid_ren:Go.Shelf.Ren:=⟨fun | 196=>230 | 259=>287 | n=>n,fun | 9=>9 | 4=>4 | 3=>3 | 5=>5 | 12=>12 | 119=>319 | 0=>0 | 46=>263 | 139=>322 | 138=>321 | 53=>253 | n=>n,fun | 3=>0 | 4=>1 | n=>n⟩
theorem Tryz.laysValid:Go.Proofs.Lays.n196 Tryz.prog Tryz.laysValid_ren:={
 mixed:=by kernel_rfl
 f196:=Tryz.func230.trans (congrArg some (by kernel_rfl))
 f259:=Tryz.func287.trans (congrArg some (by kernel_rfl))
 t0:=Tryz.underlying0
 a0:=Tryz.isAgg0
 z0:=Tryz.sizeOf0
 v0:=Tryz.zeroValue0
 t3:=Tryz.underlying3
 a3:=Tryz.isAgg3
 z3:=Tryz.sizeOf3
 v3:=Tryz.zeroValue3
 t4:=Tryz.underlying4
 a4:=Tryz.isAgg4
 z4:=Tryz.sizeOf4
 v4:=Tryz.zeroValue4
 t5:=Tryz.underlying5
 a5:=Tryz.isAgg5
 z5:=Tryz.sizeOf5
 v5:=Tryz.zeroValue5
 t9:=Tryz.underlying9
 a9:=Tryz.isAgg9
 z9:=Tryz.sizeOf9
 v9:=Tryz.zeroValue9
 t12:=Tryz.underlying12
 a12:=Tryz.isAgg12
 z12:=Tryz.sizeOf12
 v12:=Tryz.zeroValue12
 t46:=Tryz.underlying263
 a46:=Tryz.isAgg263
 z46:=Tryz.sizeOf263
 v46:=Tryz.zeroValue263
 t53:=Tryz.underlying253
 a53:=Tryz.isAgg253
 z53:=Tryz.sizeOf253
 v53:=Tryz.zeroValue253
 t119:=Tryz.underlying319
 a119:=Tryz.isAgg319
 z119:=Tryz.sizeOf319
 t138:=Tryz.underlying321
 a138:=Tryz.isAgg321
 z138:=Tryz.sizeOf321
 v138:=Tryz.zeroValue321
 t139:=Tryz.underlying322
 a139:=Tryz.isAgg322
 z139:=Tryz.sizeOf322
 v139:=Tryz.zeroValue322
 g3:=by kernel_rfl
 g4:=by kernel_rfl }
open Go.RowKit Go.Lib in
theorem Tryz.utf8_ValidString (s:ByteArray) (w:World) (hs:s.size≤9223372036854775807) (hT:Lib.Utf8Tabs (Tryz.laysValid_ren.g 3) (Tryz.laysValid_ren.g 4) w) :
 Calls Tryz.prog 230 #[.string s] w fun e w'=>e=.returned (.bool (Lib.validD s.data.toList))∧Below w.heap.size w w':=Any.utf8_ValidString Tryz.laysValid s w hs hT
end Go.Proofs

namespace Go.Proofs
open Go.Shelf
def Tryz.lays169_ren:Go.Shelf.Ren:=⟨fun | 169=>44 | n=>n,fun | 70=>74 | 9=>9 | 0=>0 | 72=>76 | 37=>66 | 127=>204 | 3=>3 | 5=>5 | n=>n,fun | n=>n⟩
theorem Tryz.lays169:Go.Proofs.Lays.n169 Tryz.prog Tryz.lays169_ren:={
 mixed:=by kernel_rfl
 f169:=Tryz.func44.trans (congrArg some (by kernel_rfl))
 t0:=Tryz.underlying0
 a0:=Tryz.isAgg0
 z0:=Tryz.sizeOf0
 v0:=Tryz.zeroValue0
 t3:=Tryz.underlying3
 a3:=Tryz.isAgg3
 z3:=Tryz.sizeOf3
 v3:=Tryz.zeroValue3
 t9:=Tryz.underlying9
 a9:=Tryz.isAgg9
 z9:=Tryz.sizeOf9
 v9:=Tryz.zeroValue9
 t37:=Tryz.underlying66
 a37:=Tryz.isAgg66
 z37:=Tryz.sizeOf66
 v37:=Tryz.zeroValue66
 t70:=Tryz.underlying74
 a70:=Tryz.isAgg74
 z70:=Tryz.sizeOf74
 v70:=Tryz.zeroValue74
 t72:=Tryz.underlying76
 a72:=Tryz.isAgg76
 z72:=Tryz.sizeOf76
 v72:=Tryz.zeroValue76
 t127:=Tryz.underlying204
 a127:=Tryz.isAgg204
 z127:=Tryz.sizeOf204
 v127:=Tryz.zeroValue204 }
theorem Tryz.Builder_Extra_169:Builder.Extra Tryz.prog Tryz.lays169_ren:={
 sizeBuilder:=by kernel_rfl
 liesBuilder:=by kernel_rfl
 t5:=Tryz.underlying5
 a5:=Tryz.isAgg5
 z5:=Tryz.sizeOf5
 v5:=Tryz.zeroValue5
 infoByte:=by kernel_rfl
 cellsByte:=by kernel_rfl
 sizeByte:=by kernel_rfl
 neB5:=by decide }
open Go.RowKit in
theorem Tryz.Builder_String_any_k (B b:Nat) (l:List UInt8) (w:World) (h:Lib.IsBuilderF 76 5 B b (Lib.byteCells l) w) (hBw:B≤w.heap.size) :
 Calls Tryz.prog 44 #[.pointer (some ⟨b,0,none⟩)] w fun e w'=>e=.returned (.string ⟨l.toArray⟩)∧(Lib.IsBuilderF 76 5 B b (Lib.byteCells l) w'∧Below B w w'∧Lib.OthersKept 5 (some b) w w'):=Any.Builder_String_any_k Tryz.lays169 Tryz.Builder_Extra_169 B b l w h hBw
end Go.Proofs

namespace Go.Proofs
open Go.Shelf
def Tryz.lays145_ren:Go.Shelf.Ren:=⟨fun | 145=>170 | 220=>252 | 219=>296 | 217=>263 | 225=>338 | 224=>339 | 267=>340 | 266=>304 | 314=>356 | n=>n,fun | 9=>9 | 4=>4 | 59=>227 | 3=>3 | 5=>5 | 46=>263 | 146=>299 | 51=>298 | n=>n,fun | 1=>2 | n=>n⟩
theorem Tryz.lays145:Go.Proofs.Lays.n145 Tryz.prog Tryz.lays145_ren:={
 mixed:=by kernel_rfl
 f145:=Tryz.func170.trans (congrArg some (by kernel_rfl))
 f217:=Tryz.func263.trans (congrArg some (by kernel_rfl))
 f219:=Tryz.func296.trans (congrArg some (by kernel_rfl))
 f220:=Tryz.func252.trans (congrArg some (by kernel_rfl))
 f224:=Tryz.func339.trans (congrArg some (by kernel_rfl))
 f225:=Tryz.func338.trans (congrArg some (by kernel_rfl))
 f266:=Tryz.func304.trans (congrArg some (by kernel_rfl))
 f267:=Tryz.func340.trans (congrArg some (by kernel_rfl))
 f314:=Tryz.func356.trans (congrArg some (by kernel_rfl))
 t3:=Tryz.underlying3
 a3:=Tryz.isAgg3
 z3:=Tryz.sizeOf3
 v3:=Tryz.zeroValue3
 t4:=Tryz.underlying4
 a4:=Tryz.isAgg4
 z4:=Tryz.sizeOf4
 v4:=Tryz.zeroValue4
 t5:=Tryz.underlying5
 a5:=Tryz.isAgg5
 z5:=Tryz.sizeOf5
 v5:=Tryz.zeroValue5
 t9:=Tryz.underlying9
 a9:=Tryz.isAgg9
 z9:=Tryz.sizeOf9
 v9:=Tryz.zeroValue9
 t46:=Tryz.underlying263
 a46:=Tryz.isAgg263
 z46:=Tryz.sizeOf263
 v46:=Tryz.zeroValue263
 t51:=Tryz.underlying298
 a51:=Tryz.isAgg298
 z51:=Tryz.sizeOf298
 v51:=Tryz.zeroValue298
 t59:=Tryz.underlying227
 a59:=Tryz.isAgg227
 z59:=Tryz.sizeOf227
 v59:=Tryz.zeroValue227
 t146:=Tryz.underlying299
 a146:=Tryz.isAgg299
 z146:=Tryz.sizeOf299
 v146:=Tryz.zeroValue299
 g1:=by kernel_rfl }
open Go.RowKit Go.Lib in
theorem Tryz.strings_Cut (s sep:ByteArray) (m:Int) (w:World) (hs:s.size<4294967281) (hm:w.cell? ⟨2,0,none⟩=some (.int .i64 m)) :
 Calls Tryz.prog 170 #[.string s,.string sep] w fun e w'=>e=.returned (.tuple #[.string ⟨(Lib.cut s.data.toList sep.data.toList).1.toArray⟩,.string ⟨(Lib.cut s.data.toList sep.data.toList).2.1.toArray⟩,.bool (Lib.cut s.data.toList sep.data.toList).2.2])∧∃n,w'=w.drewN n:=Any.strings_Cut Tryz.lays145 s sep m w hs hm
def Tryz.lays121_ren:Go.Shelf.Ren:=⟨fun | 121=>215 | 214=>281 | n=>n,fun | 4=>4 | 9=>9 | n=>n,fun | n=>n⟩
theorem Tryz.lays121:Go.Proofs.Lays.n121 Tryz.prog Tryz.lays121_ren:={
 mixed:=by kernel_rfl
 f121:=Tryz.func215.trans (congrArg some (by kernel_rfl))
 f214:=Tryz.func281.trans (congrArg some (by kernel_rfl))
 t4:=Tryz.underlying4
 a4:=Tryz.isAgg4
 z4:=Tryz.sizeOf4
 v4:=Tryz.zeroValue4
 t9:=Tryz.underlying9
 a9:=Tryz.isAgg9
 z9:=Tryz.sizeOf9
 v9:=Tryz.zeroValue9 }
open Go.RowKit Go.Lib in
theorem Tryz.strconv_FormatBool (b:Bool) (w:World) :
 Calls Tryz.prog 215 #[.bool b] w fun e w'=>e=.returned (.string ⟨(Lib.formatBool b).toArray⟩)∧w'=w:=Any.strconv_FormatBool Tryz.lays121 b w
def Tryz.lays105_ren:Go.Shelf.Ren:=⟨fun | 105=>131 | 212=>204 | 99=>190 | 165=>164 | 166=>61 | 170=>205 | 169=>44 | 263=>266 | 264=>267 | 206=>260 | 240=>163 | 241=>246 | 276=>245 | 277=>291 | n=>n,fun | 9=>9 | 3=>3 | 4=>4 | 20=>20 | 0=>0 | 46=>263 | 109=>264 | 5=>5 | 72=>76 | 76=>114 | 51=>298 | 146=>299 | 53=>253 | 148=>301 | 70=>74 | 37=>66 | 75=>113 | 127=>204 | 164=>292 | 80=>87 | n=>n,fun | n=>n⟩
theorem Tryz.lays105:Go.Proofs.Lays.n105 Tryz.prog Tryz.lays105_ren:={
 mixed:=by kernel_rfl
 f99:=Tryz.func190.trans (congrArg some (by kernel_rfl))
 f105:=Tryz.func131.trans (congrArg some (by kernel_rfl))
 f165:=Tryz.func164.trans (congrArg some (by kernel_rfl))
 f166:=Tryz.func61.trans (congrArg some (by kernel_rfl))
 f169:=Tryz.func44.trans (congrArg some (by kernel_rfl))
 f170:=Tryz.func205.trans (congrArg some (by kernel_rfl))
 f206:=Tryz.func260.trans (congrArg some (by kernel_rfl))
 f212:=Tryz.func204.trans (congrArg some (by kernel_rfl))
 f240:=Tryz.func163.trans (congrArg some (by kernel_rfl))
 f241:=Tryz.func246.trans (congrArg some (by kernel_rfl))
 f263:=Tryz.func266.trans (congrArg some (by kernel_rfl))
 f264:=Tryz.func267.trans (congrArg some (by kernel_rfl))
 f276:=Tryz.func245.trans (congrArg some (by kernel_rfl))
 f277:=Tryz.func291.trans (congrArg some (by kernel_rfl))
 t0:=Tryz.underlying0
 a0:=Tryz.isAgg0
 z0:=Tryz.sizeOf0
 v0:=Tryz.zeroValue0
 t3:=Tryz.underlying3
 a3:=Tryz.isAgg3
 z3:=Tryz.sizeOf3
 v3:=Tryz.zeroValue3
 t4:=Tryz.underlying4
 a4:=Tryz.isAgg4
 z4:=Tryz.sizeOf4
 v4:=Tryz.zeroValue4
 t5:=Tryz.underlying5
 a5:=Tryz.isAgg5
 z5:=Tryz.sizeOf5
 v5:=Tryz.zeroValue5
 t9:=Tryz.underlying9
 a9:=Tryz.isAgg9
 z9:=Tryz.sizeOf9
 v9:=Tryz.zeroValue9
 t20:=Tryz.underlying20
 a20:=Tryz.isAgg20
 z20:=Tryz.sizeOf20
 v20:=Tryz.zeroValue20
 t37:=Tryz.underlying66
 a37:=Tryz.isAgg66
 z37:=Tryz.sizeOf66
 v37:=Tryz.zeroValue66
 t46:=Tryz.underlying263
 a46:=Tryz.isAgg263
 z46:=Tryz.sizeOf263
 v46:=Tryz.zeroValue263
 t51:=Tryz.underlying298
 a51:=Tryz.isAgg298
 z51:=Tryz.sizeOf298
 v51:=Tryz.zeroValue298
 t53:=Tryz.underlying253
 a53:=Tryz.isAgg253
 z53:=Tryz.sizeOf253
 v53:=Tryz.zeroValue253
 t70:=Tryz.underlying74
 a70:=Tryz.isAgg74
 z70:=Tryz.sizeOf74
 v70:=Tryz.zeroValue74
 t72:=Tryz.underlying76
 a72:=Tryz.isAgg76
 z72:=Tryz.sizeOf76
 v72:=Tryz.zeroValue76
 t75:=Tryz.underlying113
 a75:=Tryz.isAgg113
 z75:=Tryz.sizeOf113
 v75:=Tryz.zeroValue113
 t76:=Tryz.underlying114
 a76:=Tryz.isAgg114
 z76:=Tryz.sizeOf114
 v76:=Tryz.zeroValue114
 t109:=Tryz.underlying264
 a109:=Tryz.isAgg264
 z109:=Tryz.sizeOf264
 v109:=Tryz.zeroValue264
 t127:=Tryz.underlying204
 a127:=Tryz.isAgg204
 z127:=Tryz.sizeOf204
 v127:=Tryz.zeroValue204
 t146:=Tryz.underlying299
 a146:=Tryz.isAgg299
 z146:=Tryz.sizeOf299
 v146:=Tryz.zeroValue299
 t148:=Tryz.underlying301
 a148:=Tryz.isAgg301
 z148:=Tryz.sizeOf301
 v148:=Tryz.zeroValue301
 t164:=Tryz.underlying292
 a164:=Tryz.isAgg292
 z164:=Tryz.sizeOf292
 v164:=Tryz.zeroValue292 }
theorem Tryz.Builder_Extra_105:Builder.Extra Tryz.prog Tryz.lays105_ren:={
 sizeBuilder:=by kernel_rfl
 liesBuilder:=by kernel_rfl
 t5:=Tryz.underlying5
 a5:=Tryz.isAgg5
 z5:=Tryz.sizeOf5
 v5:=Tryz.zeroValue5
 infoByte:=by kernel_rfl
 cellsByte:=by kernel_rfl
 sizeByte:=by kernel_rfl
 neB5:=by decide }
open Go.RowKit Go.Lib in
theorem Tryz.strings_Repeat (s:ByteArray) (c:Nat) (w:World) (hc:c≤9223372036854775807) (hlen:s.size * c≤140737488355328) :
 Calls Tryz.prog 131 #[.string s,.int .i64 c] w fun e w'=>e=.returned (.string ⟨(Lib.repeatL s.data.toList c).toArray⟩)∧Below w.heap.size w w':=Any.strings_Repeat Tryz.lays105 Tryz.Builder_Extra_105 s c w hc hlen
def Tryz.laysC172_ren:Go.Shelf.Ren:=⟨fun | 172=>133 | 244=>207 | 245=>208 | 247=>268 | 279=>269 | 280=>270 | 281=>271 | 282=>272 | 287=>262 | 316=>305 | 171=>64 | 205=>306 | 321=>302 | 322=>303 | 243=>165 | 246=>247 | 283=>292 | 284=>293 | 285=>294 | 286=>295 | 129=>334 | 317=>333 | 318=>335 | 319=>336 | 320=>337 | 337=>354 | 338=>355 | n=>n,fun | 9=>9 | 3=>3 | 75=>113 | 76=>114 | 4=>4 | 5=>5 | 167=>303 | 37=>66 | 0=>0 | 85=>304 | 2=>2 | 168=>306 | 53=>253 | 175=>254 | 46=>263 | 210=>337 | 127=>204 | 145=>355 | 143=>353 | 21=>21 | 171=>327 | 173=>330 | 212=>350 | 51=>298 | 20=>20 | 213=>351 | 232=>379 | 233=>380 | 80=>87 | n=>n,fun | 15=>3 | 16=>4 | 17=>5 | 18=>6 | 19=>7 | n=>n⟩
theorem Tryz.laysC172:Go.Proofs.LaysC.n172 Tryz.prog Tryz.laysC172_ren:={
 mixed:=by kernel_rfl
 f129:=Tryz.func334.trans (congrArg some (by kernel_rfl))
 f171:=Tryz.func64.trans (congrArg some (by kernel_rfl))
 f172:=Tryz.func133.trans (congrArg some (by kernel_rfl))
 f205:=Tryz.func306.trans (congrArg some (by kernel_rfl))
 f243:=Tryz.func165.trans (congrArg some (by kernel_rfl))
 f244:=Tryz.func207.trans (congrArg some (by kernel_rfl))
 f245:=Tryz.func208.trans (congrArg some (by kernel_rfl))
 f246:=Tryz.func247.trans (congrArg some (by kernel_rfl))
 f247:=Tryz.func268.trans (congrArg some (by kernel_rfl))
 f279:=Tryz.func269.trans (congrArg some (by kernel_rfl))
 f280:=Tryz.func270.trans (congrArg some (by kernel_rfl))
 f281:=Tryz.func271.trans (congrArg some (by kernel_rfl))
 f282:=Tryz.func272.trans (congrArg some (by kernel_rfl))
 f283:=Tryz.func292.trans (congrArg some (by kernel_rfl))
 f284:=Tryz.func293.trans (congrArg some (by kernel_rfl))
 f285:=Tryz.func294.trans (congrArg some (by kernel_rfl))
 f286:=Tryz.func295.trans (congrArg some (by kernel_rfl))
 f287:=Tryz.func262.trans (congrArg some (by kernel_rfl))
 f316:=Tryz.func305.trans (congrArg some (by kernel_rfl))
 f317:=Tryz.func333.trans (congrArg some (by kernel_rfl))
 f318:=Tryz.func335.trans (congrArg some (by kernel_rfl))
 f319:=Tryz.func336.trans (congrArg some (by kernel_rfl))
 f320:=Tryz.func337.trans (congrArg some (by kernel_rfl))
 f321:=Tryz.func302.trans (congrArg some (by kernel_rfl))
 f322:=Tryz.func303.trans (congrArg some (by kernel_rfl))
 f337:=Tryz.func354.trans (congrArg some (by kernel_rfl))
 f338:=Tryz.func355.trans (congrArg some (by kernel_rfl))
 t0:=Tryz.underlying0
 a0:=Tryz.isAgg0
 z0:=Tryz.sizeOf0
 v0:=Tryz.zeroValue0
 t2:=Tryz.underlying2
 a2:=Tryz.isAgg2
 z2:=Tryz.sizeOf2
 v2:=Tryz.zeroValue2
 t3:=Tryz.underlying3
 a3:=Tryz.isAgg3
 z3:=Tryz.sizeOf3
 v3:=Tryz.zeroValue3
 t4:=Tryz.underlying4
 a4:=Tryz.isAgg4
 z4:=Tryz.sizeOf4
 v4:=Tryz.zeroValue4
 t5:=Tryz.underlying5
 a5:=Tryz.isAgg5
 z5:=Tryz.sizeOf5
 v5:=Tryz.zeroValue5
 t9:=Tryz.underlying9
 a9:=Tryz.isAgg9
 z9:=Tryz.sizeOf9
 v9:=Tryz.zeroValue9
 t20:=Tryz.underlying20
 a20:=Tryz.isAgg20
 z20:=Tryz.sizeOf20
 v20:=Tryz.zeroValue20
 t21:=Tryz.underlying21
 a21:=Tryz.isAgg21
 z21:=Tryz.sizeOf21
 v21:=Tryz.zeroValue21
 t37:=Tryz.underlying66
 a37:=Tryz.isAgg66
 z37:=Tryz.sizeOf66
 v37:=Tryz.zeroValue66
 t46:=Tryz.underlying263
 a46:=Tryz.isAgg263
 z46:=Tryz.sizeOf263
 v46:=Tryz.zeroValue263
 t51:=Tryz.underlying298
 a51:=Tryz.isAgg298
 z51:=Tryz.sizeOf298
 v51:=Tryz.zeroValue298
 t53:=Tryz.underlying253
 a53:=Tryz.isAgg253
 z53:=Tryz.sizeOf253
 v53:=Tryz.zeroValue253
 t75:=Tryz.underlying113
 a75:=Tryz.isAgg113
 z75:=Tryz.sizeOf113
 v75:=Tryz.zeroValue113
 t76:=Tryz.underlying114
 a76:=Tryz.isAgg114
 z76:=Tryz.sizeOf114
 v76:=Tryz.zeroValue114
 t85:=Tryz.underlying304
 a85:=Tryz.isAgg304
 z85:=Tryz.sizeOf304
 v85:=Tryz.zeroValue304
 t127:=Tryz.underlying204
 a127:=Tryz.isAgg204
 z127:=Tryz.sizeOf204
 v127:=Tryz.zeroValue204
 t143:=Tryz.underlying353
 a143:=Tryz.isAgg353
 z143:=Tryz.sizeOf353
 v143:=Tryz.zeroValue353
 t145:=Tryz.underlying355
 a145:=Tryz.isAgg355
 z145:=Tryz.sizeOf355
 v145:=Tryz.zeroValue355
 t167:=Tryz.underlying303
 a167:=Tryz.isAgg303
 z167:=Tryz.sizeOf303
 v167:=Tryz.zeroValue303
 t168:=Tryz.underlying306
 a168:=Tryz.isAgg306
 z168:=Tryz.sizeOf306
 v168:=Tryz.zeroValue306
 t171:=Tryz.underlying327
 a171:=Tryz.isAgg327
 z171:=Tryz.sizeOf327
 v171:=Tryz.zeroValue327
 t173:=Tryz.underlying330
 a173:=Tryz.isAgg330
 z173:=Tryz.sizeOf330
 v173:=Tryz.zeroValue330
 t175:=Tryz.underlying254
 a175:=Tryz.isAgg254
 z175:=Tryz.sizeOf254
 v175:=Tryz.zeroValue254
 t210:=Tryz.underlying337
 a210:=Tryz.isAgg337
 z210:=Tryz.sizeOf337
 v210:=Tryz.zeroValue337
 t212:=Tryz.underlying350
 a212:=Tryz.isAgg350
 z212:=Tryz.sizeOf350
 v212:=Tryz.zeroValue350
 t213:=Tryz.underlying351
 a213:=Tryz.isAgg351
 z213:=Tryz.sizeOf351
 t232:=Tryz.underlying379
 a232:=Tryz.isAgg379
 z232:=Tryz.sizeOf379
 v232:=Tryz.zeroValue379
 t233:=Tryz.underlying380
 a233:=Tryz.isAgg380
 z233:=Tryz.sizeOf380
 v233:=Tryz.zeroValue380
 g15:=by kernel_rfl
 g16:=by kernel_rfl
 g17:=by kernel_rfl
 g18:=by kernel_rfl
 g19:=by kernel_rfl
 t80:=Tryz.underlying87
 a80:=Tryz.isAgg87
 z80:=Tryz.sizeOf87
 v80:=Tryz.zeroValue87
 i0:=by kernel_rfl
 i2:=by kernel_rfl
 i3:=by kernel_rfl
 i4:=by kernel_rfl
 i5:=by kernel_rfl
 i9:=by kernel_rfl
 i20:=by kernel_rfl
 i21:=by kernel_rfl
 i37:=by kernel_rfl
 i46:=by kernel_rfl
 i51:=by kernel_rfl
 i53:=by kernel_rfl
 i75:=by kernel_rfl
 i76:=by kernel_rfl
 i80:=by kernel_rfl
 i85:=by kernel_rfl
 i127:=by kernel_rfl
 i143:=by kernel_rfl
 i145:=by kernel_rfl
 i167:=by kernel_rfl
 i168:=by kernel_rfl
 i171:=by kernel_rfl
 i173:=by kernel_rfl
 i175:=by kernel_rfl
 i210:=by kernel_rfl
 i212:=by kernel_rfl
 i232:=by kernel_rfl
 i233:=by kernel_rfl
 m15:=by kernel_rfl
 m16:=by kernel_rfl
 m17:=by kernel_rfl
 m18:=by kernel_rfl
 m19:=by kernel_rfl
 c0:=by kernel_rfl
 c2:=by kernel_rfl
 c3:=by kernel_rfl
 c4:=by kernel_rfl
 c5:=by kernel_rfl
 c9:=by kernel_rfl
 c20:=by kernel_rfl
 c21:=by kernel_rfl
 c37:=by kernel_rfl
 c46:=by kernel_rfl
 c51:=by kernel_rfl
 c53:=by kernel_rfl
 c75:=by kernel_rfl
 c76:=by kernel_rfl
 c80:=by kernel_rfl
 c85:=by kernel_rfl
 c127:=by kernel_rfl
 c143:=by kernel_rfl
 c145:=by kernel_rfl
 c167:=by kernel_rfl
 c168:=by kernel_rfl
 c171:=by kernel_rfl
 c173:=by kernel_rfl
 c175:=by kernel_rfl
 c210:=by kernel_rfl
 c212:=by kernel_rfl
 c213:=by kernel_rfl
 c232:=by kernel_rfl
 c233:=by kernel_rfl }
open Go.RowKit Go.Lib in
theorem Tryz.strconv_Atoi_ok (s:ByteArray) (hmax:s.size≤9223372036854775806) (v:Int) (h:Lib.atoiAll s.data.toList=.ok v) (w:World) :
 Calls Tryz.prog 133 #[.string s] w fun e w'=>e=.returned (.tuple #[.int .i64 v,.nilIface])∧(w'=w∨∃t,w'=Lib.bytesWorld w 5 t):=Any.strconv_Atoi_ok Tryz.laysC172 s hmax v h w
open Go.RowKit Go.Lib in
theorem Tryz.strconv_Atoi_range (s:ByteArray) (hlim:s.size≤281474976710656) (h:Lib.atoiAll s.data.toList=.range) (ev:Value) (w:World) (hv:w.cell? ⟨4,0,none⟩=some ev) (hev:ev=.nilIface∨∃te pe,ev=.iface te pe) :
 Calls Tryz.prog 133 #[.string s] w fun e w'=>∃N,e=.returned (.tuple #[.int .i64 (Lib.atoiSat s.data.toList),.iface 306 (.pointer (some ⟨N,0,none⟩))])∧w.heap.size≤N∧w'.heap[N]?=some (.cells #[.string ⟨#[65,116,111,105]⟩,.string s,ev] 337 (0,0))∧Below w.heap.size w w':=Any.strconv_Atoi_range Tryz.laysC172 s hlim h ev w hv hev
end Go.Proofs

namespace Go.Proofs
open Go.Shelf
def Tryz.lays27_ren:Go.Shelf.Ren:=⟨fun | 27=>337 | 28=>354 | 29=>355 | n=>n,fun | 25=>263 | 3=>3 | 27=>298 | 22=>253 | 4=>4 | 53=>379 | 0=>0 | 5=>5 | 54=>380 | n=>n,fun | 0=>6 | 1=>7 | n=>n⟩
theorem Tryz.lays27:Go.Proofs.Lays7.n27 Tryz.prog Tryz.lays27_ren:={
 mixed:=by kernel_rfl
 f27:=Tryz.func337.trans (congrArg some (by kernel_rfl))
 f28:=Tryz.func354.trans (congrArg some (by kernel_rfl))
 f29:=Tryz.func355.trans (congrArg some (by kernel_rfl))
 t0:=Tryz.underlying0
 a0:=Tryz.isAgg0
 z0:=Tryz.sizeOf0
 v0:=Tryz.zeroValue0
 i0:=by kernel_rfl
 t3:=Tryz.underlying3
 a3:=Tryz.isAgg3
 z3:=Tryz.sizeOf3
 v3:=Tryz.zeroValue3
 i3:=by kernel_rfl
 t4:=Tryz.underlying4
 a4:=Tryz.isAgg4
 z4:=Tryz.sizeOf4
 v4:=Tryz.zeroValue4
 i4:=by kernel_rfl
 t5:=Tryz.underlying5
 a5:=Tryz.isAgg5
 z5:=Tryz.sizeOf5
 v5:=Tryz.zeroValue5
 i5:=by kernel_rfl
 t22:=Tryz.underlying253
 a22:=Tryz.isAgg253
 z22:=Tryz.sizeOf253
 v22:=Tryz.zeroValue253
 i22:=by kernel_rfl
 t25:=Tryz.underlying263
 a25:=Tryz.isAgg263
 z25:=Tryz.sizeOf263
 v25:=Tryz.zeroValue263
 i25:=by kernel_rfl
 t27:=Tryz.underlying298
 a27:=Tryz.isAgg298
 z27:=Tryz.sizeOf298
 v27:=Tryz.zeroValue298
 i27:=by kernel_rfl
 t53:=Tryz.underlying379
 a53:=Tryz.isAgg379
 z53:=Tryz.sizeOf379
 v53:=Tryz.zeroValue379
 i53:=by kernel_rfl
 t54:=Tryz.underlying380
 a54:=Tryz.isAgg380
 z54:=Tryz.sizeOf380
 g0:=by kernel_rfl
 g1:=by kernel_rfl }
open Go.RowKit Go.Lib in
theorem Tryz.bits_TrailingZeros (x:Nat) (hx:x<18446744073709551616) (w:World) (hT:x≠0→TabAt 7 Lib.deBruijn64tab w) :
 Calls Tryz.prog 337 #[.int .u64 x] w fun e w'=>e=.returned (.int .i64 (Lib.ctz 64 x))∧w'=w:=Any7.bits_TrailingZeros Tryz.lays27 x hx w hT
end Go.Proofs

namespace Go.Proofs
open Go.Shelf
def Tryz.lays137_ren:Go.Shelf.Ren:=⟨fun | 137=>194 | 217=>263 | 266=>304 | n=>n,fun | 9=>9 | 5=>5 | 3=>3 | n=>n,fun | n=>n⟩
theorem Tryz.lays137:Go.Proofs.Lays.n137 Tryz.prog Tryz.lays137_ren:={
 mixed:=by kernel_rfl
 f137:=Tryz.func194.trans (congrArg some (by kernel_rfl))
 f217:=Tryz.func263.trans (congrArg some (by kernel_rfl))
 f266:=Tryz.func304.trans (congrArg some (by kernel_rfl))
 t3:=Tryz.underlying3
 a3:=Tryz.isAgg3
 z3:=Tryz.sizeOf3
 v3:=Tryz.zeroValue3
 t5:=Tryz.underlying5
 a5:=Tryz.isAgg5
 z5:=Tryz.sizeOf5
 v5:=Tryz.zeroValue5
 t9:=Tryz.underlying9
 a9:=Tryz.isAgg9
 z9:=Tryz.sizeOf9
 v9:=Tryz.zeroValue9 }
open Go.RowKit Go.Lib in
theorem Tryz.strings_IndexByte (s:ByteArray) (c:Int) (w:World) :
 Calls Tryz.prog 194 #[.string s,.int .u8 c] w fun e w'=>e=.returned (.int .i64 (Lib.indexByte s.data.toList c.toNat.toUInt8))∧w'=w:=Any.strings_IndexByte Tryz.lays137 s c w
def Tryz.lays99_ren:Go.Shelf.Ren:=⟨fun | 99=>190 | 206=>260 | n=>n,fun | 9=>9 | 4=>4 | 3=>3 | n=>n,fun | n=>n⟩
theorem Tryz.lays99:Go.Proofs.Lays.n99 Tryz.prog Tryz.lays99_ren:={
 mixed:=by kernel_rfl
 f99:=Tryz.func190.trans (congrArg some (by kernel_rfl))
 f206:=Tryz.func260.trans (congrArg some (by kernel_rfl))
 t3:=Tryz.underlying3
 a3:=Tryz.isAgg3
 z3:=Tryz.sizeOf3
 v3:=Tryz.zeroValue3
 t4:=Tryz.underlying4
 a4:=Tryz.isAgg4
 z4:=Tryz.sizeOf4
 v4:=Tryz.zeroValue4
 t9:=Tryz.underlying9
 a9:=Tryz.isAgg9
 z9:=Tryz.sizeOf9
 v9:=Tryz.zeroValue9 }
open Go.RowKit Go.Lib in
theorem Tryz.strings_HasPrefix (s p:ByteArray) (w:World) :
 Calls Tryz.prog 190 #[.string s,.string p] w fun e w'=>e=.returned (.bool (Lib.hasPrefix s.data.toList p.data.toList))∧w'=w:=Any.strings_HasPrefix Tryz.lays99 s p w
def Tryz.lays101_ren:Go.Shelf.Ren:=⟨fun | 101=>357 | 208=>369 | 206=>260 | n=>n,fun | 9=>9 | 4=>4 | 3=>3 | n=>n,fun | n=>n⟩
theorem Tryz.lays101:Go.Proofs.Lays.n101 Tryz.prog Tryz.lays101_ren:={
 mixed:=by kernel_rfl
 f101:=Tryz.func357.trans (congrArg some (by kernel_rfl))
 f206:=Tryz.func260.trans (congrArg some (by kernel_rfl))
 f208:=Tryz.func369.trans (congrArg some (by kernel_rfl))
 t3:=Tryz.underlying3
 a3:=Tryz.isAgg3
 z3:=Tryz.sizeOf3
 v3:=Tryz.zeroValue3
 t4:=Tryz.underlying4
 a4:=Tryz.isAgg4
 z4:=Tryz.sizeOf4
 v4:=Tryz.zeroValue4
 t9:=Tryz.underlying9
 a9:=Tryz.isAgg9
 z9:=Tryz.sizeOf9
 v9:=Tryz.zeroValue9 }
open Go.RowKit Go.Lib in
theorem Tryz.strings_TrimPrefix (s p:ByteArray) (w:World) :
 Calls Tryz.prog 357 #[.string s,.string p] w fun e w'=>e=.returned (.string ⟨(Lib.trimPrefix s.data.toList p.data.toList).toArray⟩)∧w'=w:=Any.strings_TrimPrefix Tryz.lays101 s p w
def Tryz.lays102_ren:Go.Shelf.Ren:=⟨fun | 102=>171 | 209=>253 | 207=>297 | n=>n,fun | 9=>9 | 4=>4 | 3=>3 | n=>n,fun | n=>n⟩
theorem Tryz.lays102:Go.Proofs.Lays.n102 Tryz.prog Tryz.lays102_ren:={
 mixed:=by kernel_rfl
 f102:=Tryz.func171.trans (congrArg some (by kernel_rfl))
 f207:=Tryz.func297.trans (congrArg some (by kernel_rfl))
 f209:=Tryz.func253.trans (congrArg some (by kernel_rfl))
 t3:=Tryz.underlying3
 a3:=Tryz.isAgg3
 z3:=Tryz.sizeOf3
 v3:=Tryz.zeroValue3
 t4:=Tryz.underlying4
 a4:=Tryz.isAgg4
 z4:=Tryz.sizeOf4
 v4:=Tryz.zeroValue4
 t9:=Tryz.underlying9
 a9:=Tryz.isAgg9
 z9:=Tryz.sizeOf9
 v9:=Tryz.zeroValue9 }
open Go.RowKit Go.Lib in
theorem Tryz.strings_TrimSuffix (s p:ByteArray) (w:World) (hs:s.size≤9223372036854775807) :
 Calls Tryz.prog 171 #[.string s,.string p] w fun e w'=>e=.returned (.string ⟨(Lib.trimSuffix s.data.toList p.data.toList).toArray⟩)∧w'=w:=Any.strings_TrimSuffix Tryz.lays102 s p w hs
def Tryz.lays103_ren:Go.Shelf.Ren:=⟨fun | 103=>132 | 210=>206 | 206=>260 | n=>n,fun | 9=>9 | 4=>4 | 24=>88 | 3=>3 | n=>n,fun | n=>n⟩
theorem Tryz.lays103:Go.Proofs.Lays.n103 Tryz.prog Tryz.lays103_ren:={
 mixed:=by kernel_rfl
 f103:=Tryz.func132.trans (congrArg some (by kernel_rfl))
 f206:=Tryz.func260.trans (congrArg some (by kernel_rfl))
 f210:=Tryz.func206.trans (congrArg some (by kernel_rfl))
 t3:=Tryz.underlying3
 a3:=Tryz.isAgg3
 z3:=Tryz.sizeOf3
 v3:=Tryz.zeroValue3
 t4:=Tryz.underlying4
 a4:=Tryz.isAgg4
 z4:=Tryz.sizeOf4
 v4:=Tryz.zeroValue4
 t9:=Tryz.underlying9
 a9:=Tryz.isAgg9
 z9:=Tryz.sizeOf9
 v9:=Tryz.zeroValue9
 t24:=Tryz.underlying88
 a24:=Tryz.isAgg88
 z24:=Tryz.sizeOf88
 v24:=Tryz.zeroValue88 }
open Go.RowKit Go.Lib in
theorem Tryz.strings_CutPrefix (s p:ByteArray) (w:World) :
 Calls Tryz.prog 132 #[.string s,.string p] w fun e w'=>e=.returned (.tuple #[.string ⟨(Lib.trimPrefix s.data.toList p.data.toList).toArray⟩,.bool (Lib.hasPrefix s.data.toList p.data.toList)])∧w'=w:=Any.strings_CutPrefix Tryz.lays103 s p w
def Tryz.lays146_ren:Go.Shelf.Ren:=⟨fun | 146=>102 | 221=>189 | 268=>257 | 138=>258 | 143=>259 | 195=>299 | 197=>300 | 218=>301 | 219=>296 | 260=>341 | 217=>263 | 225=>338 | 224=>339 | 267=>340 | 266=>304 | 314=>356 | n=>n,fun | 9=>9 | 31=>111 | 3=>3 | 4=>4 | 0=>0 | 105=>333 | 21=>21 | 5=>5 | 46=>263 | 119=>319 | 139=>322 | 138=>321 | 146=>299 | 51=>298 | n=>n,fun | 1=>2 | 3=>0 | 4=>1 | n=>n⟩
theorem Tryz.lays146:Go.Proofs.Lays.n146 Tryz.prog Tryz.lays146_ren:={
 mixed:=by kernel_rfl
 f138:=Tryz.func258.trans (congrArg some (by kernel_rfl))
 f143:=Tryz.func259.trans (congrArg some (by kernel_rfl))
 f146:=Tryz.func102.trans (congrArg some (by kernel_rfl))
 f195:=Tryz.func299.trans (congrArg some (by kernel_rfl))
 f197:=Tryz.func300.trans (congrArg some (by kernel_rfl))
 f217:=Tryz.func263.trans (congrArg some (by kernel_rfl))
 f218:=Tryz.func301.trans (congrArg some (by kernel_rfl))
 f219:=Tryz.func296.trans (congrArg some (by kernel_rfl))
 f221:=Tryz.func189.trans (congrArg some (by kernel_rfl))
 f224:=Tryz.func339.trans (congrArg some (by kernel_rfl))
 f225:=Tryz.func338.trans (congrArg some (by kernel_rfl))
 f260:=Tryz.func341.trans (congrArg some (by kernel_rfl))
 f266:=Tryz.func304.trans (congrArg some (by kernel_rfl))
 f267:=Tryz.func340.trans (congrArg some (by kernel_rfl))
 f268:=Tryz.func257.trans (congrArg some (by kernel_rfl))
 f314:=Tryz.func356.trans (congrArg some (by kernel_rfl))
 t0:=Tryz.underlying0
 a0:=Tryz.isAgg0
 z0:=Tryz.sizeOf0
 v0:=Tryz.zeroValue0
 t3:=Tryz.underlying3
 a3:=Tryz.isAgg3
 z3:=Tryz.sizeOf3
 v3:=Tryz.zeroValue3
 t4:=Tryz.underlying4
 a4:=Tryz.isAgg4
 z4:=Tryz.sizeOf4
 v4:=Tryz.zeroValue4
 t5:=Tryz.underlying5
 a5:=Tryz.isAgg5
 z5:=Tryz.sizeOf5
 v5:=Tryz.zeroValue5
 t9:=Tryz.underlying9
 a9:=Tryz.isAgg9
 z9:=Tryz.sizeOf9
 v9:=Tryz.zeroValue9
 t21:=Tryz.underlying21
 a21:=Tryz.isAgg21
 z21:=Tryz.sizeOf21
 v21:=Tryz.zeroValue21
 t31:=Tryz.underlying111
 a31:=Tryz.isAgg111
 z31:=Tryz.sizeOf111
 v31:=Tryz.zeroValue111
 t46:=Tryz.underlying263
 a46:=Tryz.isAgg263
 z46:=Tryz.sizeOf263
 v46:=Tryz.zeroValue263
 t51:=Tryz.underlying298
 a51:=Tryz.isAgg298
 z51:=Tryz.sizeOf298
 v51:=Tryz.zeroValue298
 t105:=Tryz.underlying333
 a105:=Tryz.isAgg333
 z105:=Tryz.sizeOf333
 v105:=Tryz.zeroValue333
 t119:=Tryz.underlying319
 a119:=Tryz.isAgg319
 z119:=Tryz.sizeOf319
 t138:=Tryz.underlying321
 a138:=Tryz.isAgg321
 z138:=Tryz.sizeOf321
 v138:=Tryz.zeroValue321
 t139:=Tryz.underlying322
 a139:=Tryz.isAgg322
 z139:=Tryz.sizeOf322
 v139:=Tryz.zeroValue322
 t146:=Tryz.underlying299
 a146:=Tryz.isAgg299
 z146:=Tryz.sizeOf299
 v146:=Tryz.zeroValue299
 g1:=by kernel_rfl
 g3:=by kernel_rfl
 g4:=by kernel_rfl }
open Go.RowKit Go.Lib in
theorem Tryz.strings_Split (s sep:ByteArray) (m:Int) (w:World) (hs:s.size<4294967281) (hm:w.cell? ⟨2,0,none⟩=some (.int .i64 m)) (h1:1≤sep.size) :
 Calls Tryz.prog 102 #[.string s,.string sep] w fun e w' =>
  e=.returned (.slice (some ⟨w.heap.size,0,none⟩) (Lib.countB s sep+1) (Lib.countB s sep+1))∧w'=w.alloc (.cells ((Lib.splitB sep 0 (Lib.countB s sep) s).map Value.string).toArray 9):=Any.strings_Split Tryz.lays146 (by kernel_rfl) s sep m w hs hm h1
def Tryz.lays147_ren:Go.Shelf.Ren:=⟨fun | 147=>195 | 221=>189 | 268=>257 | 138=>258 | 143=>259 | 195=>299 | 197=>300 | 218=>301 | 219=>296 | 260=>341 | 217=>263 | 225=>338 | 224=>339 | 267=>340 | 266=>304 | 314=>356 | n=>n,fun | 9=>9 | 3=>3 | 31=>111 | 4=>4 | 0=>0 | 105=>333 | 21=>21 | 5=>5 | 46=>263 | 119=>319 | 139=>322 | 138=>321 | 146=>299 | 51=>298 | n=>n,fun | 1=>2 | 3=>0 | 4=>1 | n=>n⟩
theorem Tryz.lays147:Go.Proofs.Lays.n147 Tryz.prog Tryz.lays147_ren:={
 mixed:=by kernel_rfl
 f138:=Tryz.func258.trans (congrArg some (by kernel_rfl))
 f143:=Tryz.func259.trans (congrArg some (by kernel_rfl))
 f147:=Tryz.func195.trans (congrArg some (by kernel_rfl))
 f195:=Tryz.func299.trans (congrArg some (by kernel_rfl))
 f197:=Tryz.func300.trans (congrArg some (by kernel_rfl))
 f217:=Tryz.func263.trans (congrArg some (by kernel_rfl))
 f218:=Tryz.func301.trans (congrArg some (by kernel_rfl))
 f219:=Tryz.func296.trans (congrArg some (by kernel_rfl))
 f221:=Tryz.func189.trans (congrArg some (by kernel_rfl))
 f224:=Tryz.func339.trans (congrArg some (by kernel_rfl))
 f225:=Tryz.func338.trans (congrArg some (by kernel_rfl))
 f260:=Tryz.func341.trans (congrArg some (by kernel_rfl))
 f266:=Tryz.func304.trans (congrArg some (by kernel_rfl))
 f267:=Tryz.func340.trans (congrArg some (by kernel_rfl))
 f268:=Tryz.func257.trans (congrArg some (by kernel_rfl))
 f314:=Tryz.func356.trans (congrArg some (by kernel_rfl))
 t0:=Tryz.underlying0
 a0:=Tryz.isAgg0
 z0:=Tryz.sizeOf0
 v0:=Tryz.zeroValue0
 t3:=Tryz.underlying3
 a3:=Tryz.isAgg3
 z3:=Tryz.sizeOf3
 v3:=Tryz.zeroValue3
 t4:=Tryz.underlying4
 a4:=Tryz.isAgg4
 z4:=Tryz.sizeOf4
 v4:=Tryz.zeroValue4
 t5:=Tryz.underlying5
 a5:=Tryz.isAgg5
 z5:=Tryz.sizeOf5
 v5:=Tryz.zeroValue5
 t9:=Tryz.underlying9
 a9:=Tryz.isAgg9
 z9:=Tryz.sizeOf9
 v9:=Tryz.zeroValue9
 t21:=Tryz.underlying21
 a21:=Tryz.isAgg21
 z21:=Tryz.sizeOf21
 v21:=Tryz.zeroValue21
 t31:=Tryz.underlying111
 a31:=Tryz.isAgg111
 z31:=Tryz.sizeOf111
 v31:=Tryz.zeroValue111
 t46:=Tryz.underlying263
 a46:=Tryz.isAgg263
 z46:=Tryz.sizeOf263
 v46:=Tryz.zeroValue263
 t51:=Tryz.underlying298
 a51:=Tryz.isAgg298
 z51:=Tryz.sizeOf298
 v51:=Tryz.zeroValue298
 t105:=Tryz.underlying333
 a105:=Tryz.isAgg333
 z105:=Tryz.sizeOf333
 v105:=Tryz.zeroValue333
 t119:=Tryz.underlying319
 a119:=Tryz.isAgg319
 z119:=Tryz.sizeOf319
 t138:=Tryz.underlying321
 a138:=Tryz.isAgg321
 z138:=Tryz.sizeOf321
 v138:=Tryz.zeroValue321
 t139:=Tryz.underlying322
 a139:=Tryz.isAgg322
 z139:=Tryz.sizeOf322
 v139:=Tryz.zeroValue322
 t146:=Tryz.underlying299
 a146:=Tryz.isAgg299
 z146:=Tryz.sizeOf299
 v146:=Tryz.zeroValue299
 g1:=by kernel_rfl
 g3:=by kernel_rfl
 g4:=by kernel_rfl }
open Go.RowKit Go.Lib in
theorem Tryz.strings_SplitN (s sep:ByteArray) (n:Nat) (m:Int) (w:World) (hs:s.size<4294967281) (hm:w.cell? ⟨2,0,none⟩=some (.int .i64 m)) (h1:1≤sep.size) (hn:1≤n) (hn63:n≤9223372036854775807) :
 Calls Tryz.prog 195 #[.string s,.string sep,.int .i64 n] w fun e w' =>
  e=.returned (.slice (some ⟨w.heap.size,0,none⟩) (Lib.splitB sep 0 (min n (s.size+1)-1) s).length (min n (s.size+1)))∧w'=w.alloc (.cells (Lib.cellsOf (Lib.splitB sep 0 (min n (s.size+1)-1) s) (min n (s.size+1))) 9):=Any.strings_SplitN Tryz.lays147 (by kernel_rfl) s sep n m w hs hm h1 hn hn63
end Go.Proofs

namespace Go.Proofs
open Go.Shelf
def Tryz.lays143_ren:Go.Shelf.Ren:=⟨fun | 143=>259 | 219=>296 | 217=>263 | 225=>338 | 224=>339 | 267=>340 | 266=>304 | 314=>356 | n=>n,fun | 9=>9 | 3=>3 | 4=>4 | 5=>5 | 46=>263 | 146=>299 | 51=>298 | n=>n,fun | 1=>2 | n=>n⟩
theorem Tryz.lays143:Go.Proofs.Lays.n143 Tryz.prog Tryz.lays143_ren:={
 mixed:=by kernel_rfl
 f143:=Tryz.func259.trans (congrArg some (by kernel_rfl))
 f217:=Tryz.func263.trans (congrArg some (by kernel_rfl))
 f219:=Tryz.func296.trans (congrArg some (by kernel_rfl))
 f224:=Tryz.func339.trans (congrArg some (by kernel_rfl))
 f225:=Tryz.func338.trans (congrArg some (by kernel_rfl))
 f266:=Tryz.func304.trans (congrArg some (by kernel_rfl))
 f267:=Tryz.func340.trans (congrArg some (by kernel_rfl))
 f314:=Tryz.func356.trans (congrArg some (by kernel_rfl))
 t3:=Tryz.underlying3
 a3:=Tryz.isAgg3
 z3:=Tryz.sizeOf3
 v3:=Tryz.zeroValue3
 t4:=Tryz.underlying4
 a4:=Tryz.isAgg4
 z4:=Tryz.sizeOf4
 v4:=Tryz.zeroValue4
 t5:=Tryz.underlying5
 a5:=Tryz.isAgg5
 z5:=Tryz.sizeOf5
 v5:=Tryz.zeroValue5
 t9:=Tryz.underlying9
 a9:=Tryz.isAgg9
 z9:=Tryz.sizeOf9
 v9:=Tryz.zeroValue9
 t46:=Tryz.underlying263
 a46:=Tryz.isAgg263
 z46:=Tryz.sizeOf263
 v46:=Tryz.zeroValue263
 t51:=Tryz.underlying298
 a51:=Tryz.isAgg298
 z51:=Tryz.sizeOf298
 v51:=Tryz.zeroValue298
 t146:=Tryz.underlying299
 a146:=Tryz.isAgg299
 z146:=Tryz.sizeOf299
 v146:=Tryz.zeroValue299
 g1:=by kernel_rfl }
open Go.RowKit Go.Lib in
theorem Tryz.strings_Index1 (s:ByteArray) (c:UInt8) (w:World) :
 Calls Tryz.prog 259 #[.string s,.string ⟨#[c]⟩] w fun e w'=>e=.returned (.int .i64 (Lib.indexByte s.data.toList c))∧w'=w:=Any.strings_Index_one Tryz.lays143 s c w
end Go.Proofs

namespace Go.Proofs
open Go.Shelf
def Tryz.sortFld_ren:Go.Shelf.Ren:=⟨fun | 6=>319 | 15=>348 | 14=>347 | 28=>367 | 29=>334 | 20=>359 | 21=>360 | 22=>361 | 23=>362 | 24=>363 | 25=>364 | 26=>365 | 27=>366 | 46=>371 | 47=>372 | 48=>373 | 49=>374 | 50=>375 | 57=>376 | n=>n,fun | 22=>23 | 24=>240 | 25=>241 | 3=>3 | 39=>263 | 0=>0 | 53=>298 | 55=>253 | 4=>4 | 46=>374 | 45=>373 | 50=>69 | 5=>5 | 9=>9 | 66=>381 | 70=>196 | 76=>386 | 77=>387 | n=>n,fun | n=>n⟩
theorem Tryz.sortFld:Go.Proofs.SlLaysF0.n6 Tryz.prog Tryz.sortFld_ren:={
 mixed:=by kernel_rfl
 f6:=⟨Tryz.f319.name,by decide,Tryz.func319.trans (congrArg some (by kernel_rfl))⟩
 f14:=⟨Tryz.f347.name,by decide,Tryz.func347.trans (congrArg some (by kernel_rfl))⟩
 f15:=Tryz.func348.trans (congrArg some (by kernel_rfl))
 f20:=⟨Tryz.f359.name,by decide,Tryz.func359.trans (congrArg some (by kernel_rfl))⟩
 f21:=⟨Tryz.f360.name,by decide,Tryz.func360.trans (congrArg some (by kernel_rfl))⟩
 f22:=⟨Tryz.f361.name,by decide,Tryz.func361.trans (congrArg some (by kernel_rfl))⟩
 f23:=⟨Tryz.f362.name,by decide,Tryz.func362.trans (congrArg some (by kernel_rfl))⟩
 f24:=⟨Tryz.f363.name,by decide,Tryz.func363.trans (congrArg some (by kernel_rfl))⟩
 f25:=⟨Tryz.f364.name,by decide,Tryz.func364.trans (congrArg some (by kernel_rfl))⟩
 f26:=⟨Tryz.f365.name,by decide,Tryz.func365.trans (congrArg some (by kernel_rfl))⟩
 f27:=⟨Tryz.f366.name,by decide,Tryz.func366.trans (congrArg some (by kernel_rfl))⟩
 f28:=Tryz.func367.trans (congrArg some (by kernel_rfl))
 f29:=Tryz.func334.trans (congrArg some (by kernel_rfl))
 f46:=⟨Tryz.f371.name,by decide,Tryz.func371.trans (congrArg some (by kernel_rfl))⟩
 f47:=Tryz.func372.trans (congrArg some (by kernel_rfl))
 f48:=Tryz.func373.trans (congrArg some (by kernel_rfl))
 f49:=⟨Tryz.f374.name,by decide,Tryz.func374.trans (congrArg some (by kernel_rfl))⟩
 f50:=⟨Tryz.f375.name,by decide,Tryz.func375.trans (congrArg some (by kernel_rfl))⟩
 f57:=⟨Tryz.f376.name,by decide,Tryz.func376.trans (congrArg some (by kernel_rfl))⟩
 t0:=Tryz.underlying0
 a0:=Tryz.isAgg0
 z0:=Tryz.sizeOf0
 v0:=Tryz.zeroValue0
 t3:=Tryz.underlying3
 a3:=Tryz.isAgg3
 z3:=Tryz.sizeOf3
 v3:=Tryz.zeroValue3
 t4:=Tryz.underlying4
 a4:=Tryz.isAgg4
 z4:=Tryz.sizeOf4
 v4:=Tryz.zeroValue4
 t5:=Tryz.underlying5
 a5:=Tryz.isAgg5
 z5:=Tryz.sizeOf5
 v5:=Tryz.zeroValue5
 t9:=Tryz.underlying9
 a9:=Tryz.isAgg9
 z9:=Tryz.sizeOf9
 v9:=Tryz.zeroValue9
 t22:=Tryz.underlying23
 a22:=Tryz.isAgg23
 z22:=Tryz.sizeOf23
 v22:=Tryz.zeroValue23
 t25:=Tryz.underlying241
 a25:=Tryz.isAgg241
 z25:=Tryz.sizeOf241
 v25:=Tryz.zeroValue241
 t39:=Tryz.underlying263
 a39:=Tryz.isAgg263
 z39:=Tryz.sizeOf263
 v39:=Tryz.zeroValue263
 t45:=Tryz.underlying373
 a45:=Tryz.isAgg373
 z45:=Tryz.sizeOf373
 v45:=Tryz.zeroValue373
 t46:=Tryz.underlying374
 a46:=Tryz.isAgg374
 z46:=Tryz.sizeOf374
 v46:=Tryz.zeroValue374
 t50:=Tryz.underlying69
 a50:=Tryz.isAgg69
 z50:=Tryz.sizeOf69
 v50:=Tryz.zeroValue69
 t53:=Tryz.underlying298
 a53:=Tryz.isAgg298
 z53:=Tryz.sizeOf298
 v53:=Tryz.zeroValue298
 t55:=Tryz.underlying253
 a55:=Tryz.isAgg253
 z55:=Tryz.sizeOf253
 v55:=Tryz.zeroValue253
 t66:=Tryz.underlying381
 a66:=Tryz.isAgg381
 z66:=Tryz.sizeOf381
 v66:=Tryz.zeroValue381
 t70:=Tryz.underlying196
 a70:=Tryz.isAgg196
 z70:=Tryz.sizeOf196
 v70:=Tryz.zeroValue196
 t76:=Tryz.underlying386
 a76:=Tryz.isAgg386
 z76:=Tryz.sizeOf386
 v76:=Tryz.zeroValue386
 t77:=Tryz.underlying387
 a77:=Tryz.isAgg387
 z77:=Tryz.sizeOf387
 v77:=Tryz.zeroValue387 }
open Go.RowKit Go.Lib Go.Sort in
theorem Tryz.slices_SortFunc_fld {α:Type} [Inhabited α] (enc:α→List Value) (hk:∀x,(enc x).length=7) (h1:∀x,∀v∈enc x,v.oneCell'=true) (cf:α→α→Int) (hO:SWO (ltOf cf)) (g:Nat) (cb:Array Value) (blk off cap:Nat) (d:Array α) (w:World)
 (eg:∀args w,(callFunc g args).run Tryz.prog w=.ok (.enter g args) w) (hcmp:CmpLays Tryz.prog g cb enc 7 cf blk off d.size w) (hH:HoldsK enc 7 w blk off d) (hblk:blk<w.heap.size) (hsz:d.size<4611686018427387904) :
 Calls Tryz.prog 319 #[.slice (some ⟨blk,off,none⟩) d.size cap,.func (.func g) #[] cb] w fun e w' =>
  e=.returned (.tuple #[])∧∃d' n os,PermIn 0 d.size d d'∧SortedIn (ltOf cf) 0 d.size d'∧w'=sortWorldK enc 7 w blk off n d' os:=AnyQ.slices_SortFunc Tryz.sortFld 7 Tryz.isAgg240 Tryz.sizeOf240 enc hk h1 cf hO g cb blk off cap d w eg hcmp hH hblk hsz
end Go.Proofs
