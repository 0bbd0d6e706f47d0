/- A part. -/
import Derived.Shelf.Strings.OnBuilder
import Derived.Shelf.Strings.BuilderF
import Derived.Shelf.Small.Strs
import Derived.Shelf.Small.Wraps
import Derived.Shelf.Strconv.Itoa0
import Derived.Shelf.Strconv.Itoa4
import Derived.Shelf.LaysM
import Derived.Shelf.Slices.Equal
import Derived.Shelf.Slices.Clone
import Derived.Shelf.Slices.Empties2
import Derived.Ground.Names2Prog
import Derived.Test.YtmgpghoamapfgaaGreatDoorProg
import Derived.Shelf.Unicode.ValidAny
import Derived.Ground.NamesProg
import Derived.Shelf.Strings.BuilderK
import Derived.Shelf.Strings.Cut
import Derived.Shelf.Strings.Repeat
import Derived.Shelf.Strconv.AtoiAll
import Derived.Shelf.Spec.TrailingZeros
import Derived.Ground.Names7Prog
import Derived.Shelf.Strings.Prefix
import Derived.Shelf.Strings.Split
import Derived.Shelf.Strings.Search3
import Derived.Shelf.SlSortCmp.WholeK
import Derived.Ground.SlsfProg
namespace Go.Proofs
set_option linter.unusedVariables false
set_option linter.unusedSimpArgs false
open Go.Shelf
def Tryz.lays156_ren:Go.Shelf.Ren:=⟨fun | 156=>33 | 165=>71 | 166=>32 | 169=>38 | 240=>70 | 241=>130 | 276=>129 | 277=>211 | n=>n,fun | 31=>75 | 9=>9 | 3=>3 | 4=>4 | 0=>0 | 20=>20 | 72=>74 | 76=>78 | 70=>71 | 37=>72 | 75=>77 | 127=>129 | 164=>207 | 5=>5 | 80=>88 | n=>n,fun | n=>n⟩
theorem Tryz.lays156:Go.Proofs.Lays.n156 Tryz.prog Tryz.lays156_ren:={
 mixed:=by kernel_rfl
 f156:=Tryz.func33.trans (congrArg some (by kernel_rfl))
 f165:=Tryz.func71.trans (congrArg some (by kernel_rfl))
 f166:=Tryz.func32.trans (congrArg some (by kernel_rfl))
 f169:=Tryz.func38.trans (congrArg some (by kernel_rfl))
 f240:=Tryz.func70.trans (congrArg some (by kernel_rfl))
 f241:=Tryz.func130.trans (congrArg some (by kernel_rfl))
 f276:=Tryz.func129.trans (congrArg some (by kernel_rfl))
 f277:=Tryz.func211.trans (congrArg some (by kernel_rfl))
 t0:=Tryz.underlying0
 a0:=Tryz.isAgg0
 z0:=Tryz.sizeOf0
 v0:=Tryz.zeroValue0
 t3:=Tryz.underlying3
 a3:=Tryz.isAgg3
 z3:=Tryz.sizeOf3
 v3:=Tryz.zeroValue3
 t4:=Tryz.underlying4
 a4:=Tryz.isAgg4
 z4:=Tryz.sizeOf4
 v4:=Tryz.zeroValue4
 t9:=Tryz.underlying9
 a9:=Tryz.isAgg9
 z9:=Tryz.sizeOf9
 v9:=Tryz.zeroValue9
 t20:=Tryz.underlying20
 a20:=Tryz.isAgg20
 z20:=Tryz.sizeOf20
 v20:=Tryz.zeroValue20
 t31:=Tryz.underlying75
 a31:=Tryz.isAgg75
 z31:=Tryz.sizeOf75
 v31:=Tryz.zeroValue75
 t37:=Tryz.underlying72
 a37:=Tryz.isAgg72
 z37:=Tryz.sizeOf72
 v37:=Tryz.zeroValue72
 t70:=Tryz.underlying71
 a70:=Tryz.isAgg71
 z70:=Tryz.sizeOf71
 v70:=Tryz.zeroValue71
 t72:=Tryz.underlying74
 a72:=Tryz.isAgg74
 z72:=Tryz.sizeOf74
 v72:=Tryz.zeroValue74
 t75:=Tryz.underlying77
 a75:=Tryz.isAgg77
 z75:=Tryz.sizeOf77
 v75:=Tryz.zeroValue77
 t76:=Tryz.underlying78
 a76:=Tryz.isAgg78
 z76:=Tryz.sizeOf78
 v76:=Tryz.zeroValue78
 t127:=Tryz.underlying129
 a127:=Tryz.isAgg129
 z127:=Tryz.sizeOf129
 v127:=Tryz.zeroValue129
 t164:=Tryz.underlying207
 a164:=Tryz.isAgg207
 z164:=Tryz.sizeOf207
 v164:=Tryz.zeroValue207 }
theorem Tryz.Builder_Extra_156:Builder.Extra Tryz.prog Tryz.lays156_ren:={
 sizeBuilder:=by kernel_rfl
 liesBuilder:=by kernel_rfl
 t5:=Tryz.underlying5
 a5:=Tryz.isAgg5
 z5:=Tryz.sizeOf5
 v5:=Tryz.zeroValue5
 infoByte:=by kernel_rfl
 cellsByte:=by kernel_rfl
 sizeByte:=by kernel_rfl
 neB5:=by decide }
open Go.RowKit in
theorem Tryz.strings_Join_none (a:Option Addr) (c:Nat) (sep:ByteArray) (w:World) :
 Calls Tryz.prog 33 #[.slice a 0 c,.string sep] w fun e w'=>e=.returned (.string ⟨#[]⟩)/\w'=w:=Any.strings_Join_none Tryz.lays156 Tryz.Builder_Extra_156 a c sep w
open Go.RowKit in
theorem Tryz.strings_Join (bk o c:Nat) (xs:List ByteArray) (sep:ByteArray) (w:World) (hcells:∀(j:Nat) x,xs[j]?=some x->w.cell? ⟨bk,o+j,none⟩=some (.string x)) (hbk:bk<w.heap.size) (hN:xs.length<=140737488355328) (hcap:xs.length<=c) (hlen:(Lib.join (xs.map (·.data.toList)) sep.data.toList).length<=140737488355328) :
 Calls Tryz.prog 33 #[.slice (some ⟨bk,o,none⟩) xs.length c,.string sep] w fun e w'=>e=.returned (.string ⟨(Lib.join (xs.map (·.data.toList)) sep.data.toList).toArray⟩)/\Below w.heap.size w w':=Any.strings_Join Tryz.lays156 Tryz.Builder_Extra_156 bk o c xs sep w hcells hbk hN hcap hlen
def Tryz.lays106_ren:Go.Shelf.Ren:=⟨fun | 106=>123 | 213=>209 | 265=>264 | n=>n,fun | 9=>9 | 3=>3 | n=>n,fun | n=>n⟩
theorem Tryz.lays106:Go.Proofs.Lays.n106 Tryz.prog Tryz.lays106_ren:={
 mixed:=by kernel_rfl
 f106:=Tryz.func123.trans (congrArg some (by kernel_rfl))
 f213:=Tryz.func209.trans (congrArg some (by kernel_rfl))
 f265:=Tryz.func264.trans (congrArg some (by kernel_rfl))
 t3:=Tryz.underlying3
 a3:=Tryz.isAgg3
 z3:=Tryz.sizeOf3
 v3:=Tryz.zeroValue3
 t9:=Tryz.underlying9
 a9:=Tryz.isAgg9
 z9:=Tryz.sizeOf9
 v9:=Tryz.zeroValue9 }
open Go.RowKit in
theorem Tryz.strings_Compare (a b:ByteArray) (w:World) :
 Calls Tryz.prog 123 #[.string a,.string b] w fun e w'=>e=.returned (.int .i64 (Lib.compareBytes a.data.toList b.data.toList))/\w'=w:=Any.strings_Compare Tryz.lays106 a b w
def Tryz.lays122_ren:Go.Shelf.Ren:=⟨fun | 122=>122 | 215=>208 | n=>n,fun | 3=>3 | 4=>4 | n=>n,fun | n=>n⟩
theorem Tryz.lays122:Go.Proofs.Lays.n122 Tryz.prog Tryz.lays122_ren:={
 mixed:=by kernel_rfl
 f122:=Tryz.func122.trans (congrArg some (by kernel_rfl))
 f215:=Tryz.func208.trans (congrArg some (by kernel_rfl))
 t3:=Tryz.underlying3
 a3:=Tryz.isAgg3
 z3:=Tryz.sizeOf3
 v3:=Tryz.zeroValue3
 t4:=Tryz.underlying4
 a4:=Tryz.isAgg4
 z4:=Tryz.sizeOf4
 v4:=Tryz.zeroValue4 }
open Go.RowKit in
theorem Tryz.cmp_Compare_int (x y:Int) (w:World) :
 Calls Tryz.prog 122 #[.int .i64 x,.int .i64 y] w fun e w'=>e=.returned (.int .i64 (Lib.compareInt x y))/\w'=w:=Any.cmp_Compare_int Tryz.lays122 x y w
def Tryz.laysM171_ren:Go.Shelf.Ren:=⟨fun | 171=>35 | 243=>72 | 246=>131 | 283=>212 | 284=>213 | 285=>214 | 286=>215 | 129=>261 | 317=>265 | 318=>266 | 319=>267 | 320=>268 | 337=>319 | 338=>320 | n=>n,fun | 3=>3 | 9=>9 | 2=>2 | 4=>4 | 171=>257 | 0=>0 | 53=>239 | 37=>72 | 5=>5 | 173=>260 | 212=>303 | 51=>235 | 20=>20 | 213=>304 | 46=>238 | 232=>366 | 233=>367 | n=>n,fun | 17=>3 | 18=>6 | 19=>7 | n=>n⟩
theorem Tryz.laysM171:Go.Proofs.LaysM.n171 Tryz.prog Tryz.laysM171_ren:={
 mixed:=by kernel_rfl
 f129:=Tryz.func261.trans (congrArg some (by kernel_rfl))
 f171:=Tryz.func35.trans (congrArg some (by kernel_rfl))
 f243:=Tryz.func72.trans (congrArg some (by kernel_rfl))
 f246:=Tryz.func131.trans (congrArg some (by kernel_rfl))
 f283:=Tryz.func212.trans (congrArg some (by kernel_rfl))
 f284:=Tryz.func213.trans (congrArg some (by kernel_rfl))
 f285:=Tryz.func214.trans (congrArg some (by kernel_rfl))
 f286:=Tryz.func215.trans (congrArg some (by kernel_rfl))
 f317:=Tryz.func265.trans (congrArg some (by kernel_rfl))
 f318:=Tryz.func266.trans (congrArg some (by kernel_rfl))
 f319:=Tryz.func267.trans (congrArg some (by kernel_rfl))
 f320:=Tryz.func268.trans (congrArg some (by kernel_rfl))
 f337:=Tryz.func319.trans (congrArg some (by kernel_rfl))
 f338:=Tryz.func320.trans (congrArg some (by kernel_rfl))
 t0:=Tryz.underlying0
 a0:=Tryz.isAgg0
 z0:=Tryz.sizeOf0
 v0:=Tryz.zeroValue0
 t2:=Tryz.underlying2
 a2:=Tryz.isAgg2
 z2:=Tryz.sizeOf2
 v2:=Tryz.zeroValue2
 t3:=Tryz.underlying3
 a3:=Tryz.isAgg3
 z3:=Tryz.sizeOf3
 v3:=Tryz.zeroValue3
 t4:=Tryz.underlying4
 a4:=Tryz.isAgg4
 z4:=Tryz.sizeOf4
 v4:=Tryz.zeroValue4
 t5:=Tryz.underlying5
 a5:=Tryz.isAgg5
 z5:=Tryz.sizeOf5
 v5:=Tryz.zeroValue5
 t9:=Tryz.underlying9
 a9:=Tryz.isAgg9
 z9:=Tryz.sizeOf9
 v9:=Tryz.zeroValue9
 t20:=Tryz.underlying20
 a20:=Tryz.isAgg20
 z20:=Tryz.sizeOf20
 v20:=Tryz.zeroValue20
 t37:=Tryz.underlying72
 a37:=Tryz.isAgg72
 z37:=Tryz.sizeOf72
 v37:=Tryz.zeroValue72
 t46:=Tryz.underlying238
 a46:=Tryz.isAgg238
 z46:=Tryz.sizeOf238
 v46:=Tryz.zeroValue238
 t51:=Tryz.underlying235
 a51:=Tryz.isAgg235
 z51:=Tryz.sizeOf235
 v51:=Tryz.zeroValue235
 t53:=Tryz.underlying239
 a53:=Tryz.isAgg239
 z53:=Tryz.sizeOf239
 v53:=Tryz.zeroValue239
 t171:=Tryz.underlying257
 a171:=Tryz.isAgg257
 z171:=Tryz.sizeOf257
 v171:=Tryz.zeroValue257
 t173:=Tryz.underlying260
 a173:=Tryz.isAgg260
 z173:=Tryz.sizeOf260
 v173:=Tryz.zeroValue260
 t212:=Tryz.underlying303
 a212:=Tryz.isAgg303
 z212:=Tryz.sizeOf303
 v212:=Tryz.zeroValue303
 t213:=Tryz.underlying304
 a213:=Tryz.isAgg304
 z213:=Tryz.sizeOf304
 t232:=Tryz.underlying366
 a232:=Tryz.isAgg366
 z232:=Tryz.sizeOf366
 v232:=Tryz.zeroValue366
 t233:=Tryz.underlying367
 a233:=Tryz.isAgg367
 z233:=Tryz.sizeOf367
 v233:=Tryz.zeroValue367
 g17:=by kernel_rfl
 g18:=by kernel_rfl
 g19:=by kernel_rfl
 i0:=by kernel_rfl
 i2:=by kernel_rfl
 i3:=by kernel_rfl
 i4:=by kernel_rfl
 i5:=by kernel_rfl
 i9:=by kernel_rfl
 i20:=by kernel_rfl
 i37:=by kernel_rfl
 i46:=by kernel_rfl
 i51:=by kernel_rfl
 i53:=by kernel_rfl
 i171:=by kernel_rfl
 i173:=by kernel_rfl
 i212:=by kernel_rfl
 i232:=by kernel_rfl
 i233:=by kernel_rfl
 m17:=by kernel_rfl
 m18:=by kernel_rfl
 m19:=by kernel_rfl }
open Go.RowKit Go.Sort Go.Lib in
theorem Tryz.strconv_Itoa (n : Int) (h0 : -9223372036854775808 <= n) (h1 : n <= 9223372036854775807) (w : World) (htab : Lib.TabIs Tryz.prog w "internal/strconv.uint64pow10" .u64 Lib.pow10Tab) :
 Calls Tryz.prog 35 #[.int .i64 n] w fun e w'=>e=.returned (.string ⟨(Lib.itoa n).toArray⟩)/\∃k os,w'=grow (w.drewN k) os:=Any.strconv_Itoa Tryz.laysM171 n h0 h1 w htab
def Tryz.lays171_ren:Go.Shelf.Ren:=⟨fun | 171=>35 | 243=>72 | 246=>131 | 283=>212 | 284=>213 | 285=>214 | 286=>215 | 129=>261 | 317=>265 | 318=>266 | 319=>267 | 320=>268 | 337=>319 | 338=>320 | n=>n,fun | 3=>3 | 9=>9 | 2=>2 | 4=>4 | 171=>257 | 0=>0 | 53=>239 | 37=>72 | 5=>5 | 173=>260 | 212=>303 | 51=>235 | 20=>20 | 213=>304 | 46=>238 | 232=>366 | 233=>367 | n=>n,fun | 17=>3 | 18=>6 | 19=>7 | n=>n⟩
theorem Tryz.lays171:Go.Proofs.Lays.n171 Tryz.prog Tryz.lays171_ren:={
 mixed:=by kernel_rfl
 f129:=Tryz.func261.trans (congrArg some (by kernel_rfl))
 f171:=Tryz.func35.trans (congrArg some (by kernel_rfl))
 f243:=Tryz.func72.trans (congrArg some (by kernel_rfl))
 f246:=Tryz.func131.trans (congrArg some (by kernel_rfl))
 f283:=Tryz.func212.trans (congrArg some (by kernel_rfl))
 f284:=Tryz.func213.trans (congrArg some (by kernel_rfl))
 f285:=Tryz.func214.trans (congrArg some (by kernel_rfl))
 f286:=Tryz.func215.trans (congrArg some (by kernel_rfl))
 f317:=Tryz.func265.trans (congrArg some (by kernel_rfl))
 f318:=Tryz.func266.trans (congrArg some (by kernel_rfl))
 f319:=Tryz.func267.trans (congrArg some (by kernel_rfl))
 f320:=Tryz.func268.trans (congrArg some (by kernel_rfl))
 f337:=Tryz.func319.trans (congrArg some (by kernel_rfl))
 f338:=Tryz.func320.trans (congrArg some (by kernel_rfl))
 t0:=Tryz.underlying0
 a0:=Tryz.isAgg0
 z0:=Tryz.sizeOf0
 v0:=Tryz.zeroValue0
 t2:=Tryz.underlying2
 a2:=Tryz.isAgg2
 z2:=Tryz.sizeOf2
 v2:=Tryz.zeroValue2
 t3:=Tryz.underlying3
 a3:=Tryz.isAgg3
 z3:=Tryz.sizeOf3
 v3:=Tryz.zeroValue3
 t4:=Tryz.underlying4
 a4:=Tryz.isAgg4
 z4:=Tryz.sizeOf4
 v4:=Tryz.zeroValue4
 t5:=Tryz.underlying5
 a5:=Tryz.isAgg5
 z5:=Tryz.sizeOf5
 v5:=Tryz.zeroValue5
 t9:=Tryz.underlying9
 a9:=Tryz.isAgg9
 z9:=Tryz.sizeOf9
 v9:=Tryz.zeroValue9
 t20:=Tryz.underlying20
 a20:=Tryz.isAgg20
 z20:=Tryz.sizeOf20
 v20:=Tryz.zeroValue20
 t37:=Tryz.underlying72
 a37:=Tryz.isAgg72
 z37:=Tryz.sizeOf72
 v37:=Tryz.zeroValue72
 t46:=Tryz.underlying238
 a46:=Tryz.isAgg238
 z46:=Tryz.sizeOf238
 v46:=Tryz.zeroValue238
 t51:=Tryz.underlying235
 a51:=Tryz.isAgg235
 z51:=Tryz.sizeOf235
 v51:=Tryz.zeroValue235
 t53:=Tryz.underlying239
 a53:=Tryz.isAgg239
 z53:=Tryz.sizeOf239
 v53:=Tryz.zeroValue239
 t171:=Tryz.underlying257
 a171:=Tryz.isAgg257
 z171:=Tryz.sizeOf257
 v171:=Tryz.zeroValue257
 t173:=Tryz.underlying260
 a173:=Tryz.isAgg260
 z173:=Tryz.sizeOf260
 v173:=Tryz.zeroValue260
 t212:=Tryz.underlying303
 a212:=Tryz.isAgg303
 z212:=Tryz.sizeOf303
 v212:=Tryz.zeroValue303
 t213:=Tryz.underlying304
 a213:=Tryz.isAgg304
 z213:=Tryz.sizeOf304
 t232:=Tryz.underlying366
 a232:=Tryz.isAgg366
 z232:=Tryz.sizeOf366
 v232:=Tryz.zeroValue366
 t233:=Tryz.underlying367
 a233:=Tryz.isAgg367
 z233:=Tryz.sizeOf367
 v233:=Tryz.zeroValue367
 g17:=by kernel_rfl
 g18:=by kernel_rfl
 g19:=by kernel_rfl }
open Go.RowKit Go.Sort Go.Lib in
theorem Tryz.strconv_Itoa_small (i:Nat) (hi:i<100) (w:World) :
 Calls Tryz.prog 35 #[.int .i64 i] w fun e w'=>e=.returned (.string ⟨(Lib.decDigits i).toArray⟩)/\w'=w:=Any.strconv_Itoa_small Tryz.lays171 i hi w
def Tryz.lays111_ren:Go.Shelf.Ren:=⟨fun | 111=>242 | n=>n,fun | 28=>37 | 3=>3 | 4=>4 | 0=>0 | n=>n,fun | n=>n⟩
theorem Tryz.lays111:Go.Proofs.Lays.n111 Tryz.prog Tryz.lays111_ren:={
 mixed:=by kernel_rfl
 f111:=Tryz.func242.trans (congrArg some (by kernel_rfl))
 t0:=Tryz.underlying0
 a0:=Tryz.isAgg0
 z0:=Tryz.sizeOf0
 v0:=Tryz.zeroValue0
 t3:=Tryz.underlying3
 a3:=Tryz.isAgg3
 z3:=Tryz.sizeOf3
 v3:=Tryz.zeroValue3
 t4:=Tryz.underlying4
 a4:=Tryz.isAgg4
 z4:=Tryz.sizeOf4
 v4:=Tryz.zeroValue4
 t28:=Tryz.underlying37
 a28:=Tryz.isAgg37
 z28:=Tryz.sizeOf37
 v28:=Tryz.zeroValue37 }
open Go.RowKit Go.Lib in
theorem Tryz.slices_Equal_int (b1 o1 n c b2 o2 m d:Nat) (xs ys:List Int) (w:World) (hx:n<=xs.length) (hy:m<=ys.length) (hbig:n<=9223372036854775807) (hbig2:m<=9223372036854775807) (hc1:∀j,j<xs.length->w.cell? ⟨b1,o1+j,none⟩=some (.int .i64 (xs.getD j 0))) (hc2:∀j,j<ys.length->w.cell? ⟨b2,o2+j,none⟩=some (.int .i64 (ys.getD j 0))) :
 Calls Tryz.prog 242 #[.slice (some ⟨b1,o1,none⟩) n c,.slice (some ⟨b2,o2,none⟩) m d] w fun e w'=>e=.returned (.bool (xs.take n==ys.take m))/\∃q,w'=w.drewN q:=Any.slices_Equal_int Tryz.lays111 b1 o1 n c b2 o2 m d xs ys w hx hy hbig hbig2 hc1 hc2
open Go.RowKit Go.Lib in
theorem Tryz.slices_Equal_int_empty (a1 a2:Option Addr) (c m d:Nat) (w:World) (hbig2:m<=9223372036854775807) :
 Calls Tryz.prog 242 #[.slice a1 0 c,.slice a2 m d] w fun e w'=>e=.returned (.bool (decide (m=0)))/\w'=w:=Any.slices_Equal_int_empty Tryz.lays111 a1 a2 c m d w hbig2
def Tryz.laysNm215_ren:Go.Shelf.Ren:=⟨fun | 15=>190 | n=>n,fun | 22=>37 | 3=>3 | 4=>4 | n=>n,fun | n=>n⟩
theorem Tryz.laysNm215:Go.Proofs.Lays2.n15 Tryz.prog Tryz.laysNm215_ren:={
 mixed:=by kernel_rfl
 f15:=Tryz.func190.trans (congrArg some (by kernel_rfl))
 t3:=Tryz.underlying3
 a3:=Tryz.isAgg3
 z3:=Tryz.sizeOf3
 v3:=Tryz.zeroValue3
 t4:=Tryz.underlying4
 a4:=Tryz.isAgg4
 z4:=Tryz.sizeOf4
 v4:=Tryz.zeroValue4
 t22:=Tryz.underlying37
 a22:=Tryz.isAgg37
 z22:=Tryz.sizeOf37
 v22:=Tryz.zeroValue37
 i3:=by kernel_rfl }
open Go.RowKit Go.Lib in
theorem Tryz.slices_Clone_int (b off n c:Nat) (zs:List Int) (w:World) (hz:n<=zs.length) (hbig:n * 8<=140737488355328) (hc:∀j,j<zs.length->w.cell? ⟨b,off+j,none⟩=some (.int .i64 (zs.getD j 0))) :
 Calls Tryz.prog 190 #[.slice (some ⟨b,off,none⟩) n c] w fun e w'=>∃v',e=.returned v'/\w'.ownsRow w.heap.size 3 1 v' n ((zs.take n).map (Value.int .i64))/\v'≠.slice none 0 0/\Below w.heap.size w w':=Any.slices_Clone_int Tryz.laysNm215 b off n c zs w hz hbig hc
open Go.RowKit Go.Lib in
theorem Tryz.slices_Clone_int_nil (n c:Nat) (w:World) :
 Calls Tryz.prog 190 #[.slice none n c] w fun e w'=>e=.returned (.slice none 0 0)/\w'=w:=Any.slices_Clone_int_nil Tryz.laysNm215 n c w
open Go.RowKit Go.Lib in
theorem Tryz.slices_Clone_int_zero (a:Addr) (c:Nat) (w:World) :
 Calls Tryz.prog 190 #[.slice (some a) 0 c] w fun e w'=>∃v',e=.returned v'/\w'.ownsRow w.heap.size 3 1 v' 0 []/\v'≠.slice none 0 0/\Below w.heap.size w w':=Any.slices_Clone_int_zero Tryz.laysNm215 a c w
open Go.RowKit Go.Lib in
theorem Tryz.slices_Equal_int_lens (a1 a2:Option Addr) (n c m d:Nat) (w:World) (hnm:n≠m) :
 Calls Tryz.prog 242 #[.slice a1 n c,.slice a2 m d] w fun e w'=>e=.returned (.bool false)/\w'=w:=Any.slices_Equal_int_lens Tryz.lays111 a1 a2 n c m d w hnm
end Go.Proofs

namespace Go.Proofs
open Go.Shelf
def Tryz.laysValid_ren:Go.Shelf.Ren:=⟨fun | 196=>198 | 259=>262 | n=>n,fun | 9=>9 | 4=>4 | 3=>3 | 5=>5 | 12=>12 | 119=>296 | 0=>0 | 46=>238 | 139=>299 | 138=>298 | 53=>239 | n=>n,fun | 3=>0 | 4=>1 | n=>n⟩
theorem Tryz.laysValid:Go.Proofs.Lays.n196 Tryz.prog Tryz.laysValid_ren:={
 mixed:=by kernel_rfl
 f196:=Tryz.func198.trans (congrArg some (by kernel_rfl))
 f259:=Tryz.func262.trans (congrArg some (by kernel_rfl))
 t0:=Tryz.underlying0
 a0:=Tryz.isAgg0
 z0:=Tryz.sizeOf0
 v0:=Tryz.zeroValue0
 t3:=Tryz.underlying3
 a3:=Tryz.isAgg3
 z3:=Tryz.sizeOf3
 v3:=Tryz.zeroValue3
 t4:=Tryz.underlying4
 a4:=Tryz.isAgg4
 z4:=Tryz.sizeOf4
 v4:=Tryz.zeroValue4
 t5:=Tryz.underlying5
 a5:=Tryz.isAgg5
 z5:=Tryz.sizeOf5
 v5:=Tryz.zeroValue5
 t9:=Tryz.underlying9
 a9:=Tryz.isAgg9
 z9:=Tryz.sizeOf9
 v9:=Tryz.zeroValue9
 t12:=Tryz.underlying12
 a12:=Tryz.isAgg12
 z12:=Tryz.sizeOf12
 v12:=Tryz.zeroValue12
 t46:=Tryz.underlying238
 a46:=Tryz.isAgg238
 z46:=Tryz.sizeOf238
 v46:=Tryz.zeroValue238
 t53:=Tryz.underlying239
 a53:=Tryz.isAgg239
 z53:=Tryz.sizeOf239
 v53:=Tryz.zeroValue239
 t119:=Tryz.underlying296
 a119:=Tryz.isAgg296
 z119:=Tryz.sizeOf296
 t138:=Tryz.underlying298
 a138:=Tryz.isAgg298
 z138:=Tryz.sizeOf298
 v138:=Tryz.zeroValue298
 t139:=Tryz.underlying299
 a139:=Tryz.isAgg299
 z139:=Tryz.sizeOf299
 v139:=Tryz.zeroValue299
 g3:=by kernel_rfl
 g4:=by kernel_rfl }
open Go.RowKit Go.Lib in
theorem Tryz.utf8_ValidString (s:ByteArray) (w:World) (hs:s.size<=9223372036854775807) (hT:Lib.Utf8Tabs (Tryz.laysValid_ren.g 3) (Tryz.laysValid_ren.g 4) w) :
 Calls Tryz.prog 198 #[.string s] w fun e w'=>e=.returned (.bool (Lib.validD s.data.toList))/\Below w.heap.size w w':=Any.utf8_ValidString Tryz.laysValid s w hs hT
end Go.Proofs

namespace Go.Proofs
open Go.Shelf
def Tryz.lays169_ren:Go.Shelf.Ren:=⟨fun | 169=>38 | n=>n,fun | 70=>71 | 9=>9 | 0=>0 | 72=>74 | 37=>72 | 127=>129 | 3=>3 | 5=>5 | n=>n,fun | n=>n⟩
theorem Tryz.lays169:Go.Proofs.Lays.n169 Tryz.prog Tryz.lays169_ren:={
 mixed:=by kernel_rfl
 f169:=Tryz.func38.trans (congrArg some (by kernel_rfl))
 t0:=Tryz.underlying0
 a0:=Tryz.isAgg0
 z0:=Tryz.sizeOf0
 v0:=Tryz.zeroValue0
 t3:=Tryz.underlying3
 a3:=Tryz.isAgg3
 z3:=Tryz.sizeOf3
 v3:=Tryz.zeroValue3
 t9:=Tryz.underlying9
 a9:=Tryz.isAgg9
 z9:=Tryz.sizeOf9
 v9:=Tryz.zeroValue9
 t37:=Tryz.underlying72
 a37:=Tryz.isAgg72
 z37:=Tryz.sizeOf72
 v37:=Tryz.zeroValue72
 t70:=Tryz.underlying71
 a70:=Tryz.isAgg71
 z70:=Tryz.sizeOf71
 v70:=Tryz.zeroValue71
 t72:=Tryz.underlying74
 a72:=Tryz.isAgg74
 z72:=Tryz.sizeOf74
 v72:=Tryz.zeroValue74
 t127:=Tryz.underlying129
 a127:=Tryz.isAgg129
 z127:=Tryz.sizeOf129
 v127:=Tryz.zeroValue129 }
theorem Tryz.Builder_Extra_169:Builder.Extra Tryz.prog Tryz.lays169_ren:={
 sizeBuilder:=by kernel_rfl
 liesBuilder:=by kernel_rfl
 t5:=Tryz.underlying5
 a5:=Tryz.isAgg5
 z5:=Tryz.sizeOf5
 v5:=Tryz.zeroValue5
 infoByte:=by kernel_rfl
 cellsByte:=by kernel_rfl
 sizeByte:=by kernel_rfl
 neB5:=by decide }
open Go.RowKit in
theorem Tryz.Builder_String_any_k (B b:Nat) (l:List UInt8) (w:World) (h:Lib.IsBuilderF 74 5 B b (Lib.byteCells l) w) (hBw:B<=w.heap.size) :
 Calls Tryz.prog 38 #[.pointer (some ⟨b,0,none⟩)] w fun e w'=>e=.returned (.string ⟨l.toArray⟩)/\(Lib.IsBuilderF 74 5 B b (Lib.byteCells l) w'/\Below B w w'/\Lib.OthersKept 5 (some b) w w'):=Any.Builder_String_any_k Tryz.lays169 Tryz.Builder_Extra_169 B b l w h hBw
end Go.Proofs

namespace Go.Proofs
open Go.Shelf
def Tryz.lays145_ren:Go.Shelf.Ren:=⟨fun | 145=>81 | 220=>146 | 219=>228 | 217=>227 | 225=>276 | 224=>277 | 267=>278 | 266=>275 | 314=>322 | n=>n,fun | 9=>9 | 4=>4 | 59=>137 | 3=>3 | 5=>5 | 46=>238 | 146=>332 | 51=>235 | n=>n,fun | 1=>2 | n=>n⟩
theorem Tryz.lays145:Go.Proofs.Lays.n145 Tryz.prog Tryz.lays145_ren:={
 mixed:=by kernel_rfl
 f145:=Tryz.func81.trans (congrArg some (by kernel_rfl))
 f217:=Tryz.func227.trans (congrArg some (by kernel_rfl))
 f219:=Tryz.func228.trans (congrArg some (by kernel_rfl))
 f220:=Tryz.func146.trans (congrArg some (by kernel_rfl))
 f224:=Tryz.func277.trans (congrArg some (by kernel_rfl))
 f225:=Tryz.func276.trans (congrArg some (by kernel_rfl))
 f266:=Tryz.func275.trans (congrArg some (by kernel_rfl))
 f267:=Tryz.func278.trans (congrArg some (by kernel_rfl))
 f314:=Tryz.func322.trans (congrArg some (by kernel_rfl))
 t3:=Tryz.underlying3
 a3:=Tryz.isAgg3
 z3:=Tryz.sizeOf3
 v3:=Tryz.zeroValue3
 t4:=Tryz.underlying4
 a4:=Tryz.isAgg4
 z4:=Tryz.sizeOf4
 v4:=Tryz.zeroValue4
 t5:=Tryz.underlying5
 a5:=Tryz.isAgg5
 z5:=Tryz.sizeOf5
 v5:=Tryz.zeroValue5
 t9:=Tryz.underlying9
 a9:=Tryz.isAgg9
 z9:=Tryz.sizeOf9
 v9:=Tryz.zeroValue9
 t46:=Tryz.underlying238
 a46:=Tryz.isAgg238
 z46:=Tryz.sizeOf238
 v46:=Tryz.zeroValue238
 t51:=Tryz.underlying235
 a51:=Tryz.isAgg235
 z51:=Tryz.sizeOf235
 v51:=Tryz.zeroValue235
 t59:=Tryz.underlying137
 a59:=Tryz.isAgg137
 z59:=Tryz.sizeOf137
 v59:=Tryz.zeroValue137
 t146:=Tryz.underlying332
 a146:=Tryz.isAgg332
 z146:=Tryz.sizeOf332
 v146:=Tryz.zeroValue332
 g1:=by kernel_rfl }
open Go.RowKit Go.Lib in
theorem Tryz.strings_Cut (s sep:ByteArray) (m:Int) (w:World) (hs:s.size<4294967281) (hm:w.cell? ⟨2,0,none⟩=some (.int .i64 m)) :
 Calls Tryz.prog 81 #[.string s,.string sep] w fun e w'=>e=.returned (.tuple #[.string ⟨(Lib.cut s.data.toList sep.data.toList).1.toArray⟩,.string ⟨(Lib.cut s.data.toList sep.data.toList).2.1.toArray⟩,.bool (Lib.cut s.data.toList sep.data.toList).2.2])/\∃n,w'=w.drewN n:=Any.strings_Cut Tryz.lays145 s sep m w hs hm
def Tryz.lays121_ren:Go.Shelf.Ren:=⟨fun | 121=>132 | 214=>216 | n=>n,fun | 4=>4 | 9=>9 | n=>n,fun | n=>n⟩
theorem Tryz.lays121:Go.Proofs.Lays.n121 Tryz.prog Tryz.lays121_ren:={
 mixed:=by kernel_rfl
 f121:=Tryz.func132.trans (congrArg some (by kernel_rfl))
 f214:=Tryz.func216.trans (congrArg some (by kernel_rfl))
 t4:=Tryz.underlying4
 a4:=Tryz.isAgg4
 z4:=Tryz.sizeOf4
 v4:=Tryz.zeroValue4
 t9:=Tryz.underlying9
 a9:=Tryz.isAgg9
 z9:=Tryz.sizeOf9
 v9:=Tryz.zeroValue9 }
open Go.RowKit Go.Lib in
theorem Tryz.strconv_FormatBool (b:Bool) (w:World) :
 Calls Tryz.prog 132 #[.bool b] w fun e w'=>e=.returned (.string ⟨(Lib.formatBool b).toArray⟩)/\w'=w:=Any.strconv_FormatBool Tryz.lays121 b w
def Tryz.lays105_ren:Go.Shelf.Ren:=⟨fun | 105=>245 | 212=>309 | 99=>287 | 165=>71 | 166=>32 | 170=>310 | 169=>38 | 263=>343 | 264=>344 | 206=>328 | 240=>70 | 241=>130 | 276=>129 | 277=>211 | n=>n,fun | 9=>9 | 3=>3 | 4=>4 | 20=>20 | 0=>0 | 46=>238 | 109=>322 | 5=>5 | 72=>74 | 76=>78 | 51=>235 | 146=>332 | 53=>239 | 148=>356 | 70=>71 | 37=>72 | 75=>77 | 127=>129 | 164=>207 | 80=>88 | n=>n,fun | n=>n⟩
theorem Tryz.lays105:Go.Proofs.Lays.n105 Tryz.prog Tryz.lays105_ren:={
 mixed:=by kernel_rfl
 f99:=Tryz.func287.trans (congrArg some (by kernel_rfl))
 f105:=Tryz.func245.trans (congrArg some (by kernel_rfl))
 f165:=Tryz.func71.trans (congrArg some (by kernel_rfl))
 f166:=Tryz.func32.trans (congrArg some (by kernel_rfl))
 f169:=Tryz.func38.trans (congrArg some (by kernel_rfl))
 f170:=Tryz.func310.trans (congrArg some (by kernel_rfl))
 f206:=Tryz.func328.trans (congrArg some (by kernel_rfl))
 f212:=Tryz.func309.trans (congrArg some (by kernel_rfl))
 f240:=Tryz.func70.trans (congrArg some (by kernel_rfl))
 f241:=Tryz.func130.trans (congrArg some (by kernel_rfl))
 f263:=Tryz.func343.trans (congrArg some (by kernel_rfl))
 f264:=Tryz.func344.trans (congrArg some (by kernel_rfl))
 f276:=Tryz.func129.trans (congrArg some (by kernel_rfl))
 f277:=Tryz.func211.trans (congrArg some (by kernel_rfl))
 t0:=Tryz.underlying0
 a0:=Tryz.isAgg0
 z0:=Tryz.sizeOf0
 v0:=Tryz.zeroValue0
 t3:=Tryz.underlying3
 a3:=Tryz.isAgg3
 z3:=Tryz.sizeOf3
 v3:=Tryz.zeroValue3
 t4:=Tryz.underlying4
 a4:=Tryz.isAgg4
 z4:=Tryz.sizeOf4
 v4:=Tryz.zeroValue4
 t5:=Tryz.underlying5
 a5:=Tryz.isAgg5
 z5:=Tryz.sizeOf5
 v5:=Tryz.zeroValue5
 t9:=Tryz.underlying9
 a9:=Tryz.isAgg9
 z9:=Tryz.sizeOf9
 v9:=Tryz.zeroValue9
 t20:=Tryz.underlying20
 a20:=Tryz.isAgg20
 z20:=Tryz.sizeOf20
 v20:=Tryz.zeroValue20
 t37:=Tryz.underlying72
 a37:=Tryz.isAgg72
 z37:=Tryz.sizeOf72
 v37:=Tryz.zeroValue72
 t46:=Tryz.underlying238
 a46:=Tryz.isAgg238
 z46:=Tryz.sizeOf238
 v46:=Tryz.zeroValue238
 t51:=Tryz.underlying235
 a51:=Tryz.isAgg235
 z51:=Tryz.sizeOf235
 v51:=Tryz.zeroValue235
 t53:=Tryz.underlying239
 a53:=Tryz.isAgg239
 z53:=Tryz.sizeOf239
 v53:=Tryz.zeroValue239
 t70:=Tryz.underlying71
 a70:=Tryz.isAgg71
 z70:=Tryz.sizeOf71
 v70:=Tryz.zeroValue71
 t72:=Tryz.underlying74
 a72:=Tryz.isAgg74
 z72:=Tryz.sizeOf74
 v72:=Tryz.zeroValue74
 t75:=Tryz.underlying77
 a75:=Tryz.isAgg77
 z75:=Tryz.sizeOf77
 v75:=Tryz.zeroValue77
 t76:=Tryz.underlying78
 a76:=Tryz.isAgg78
 z76:=Tryz.sizeOf78
 v76:=Tryz.zeroValue78
 t109:=Tryz.underlying322
 a109:=Tryz.isAgg322
 z109:=Tryz.sizeOf322
 v109:=Tryz.zeroValue322
 t127:=Tryz.underlying129
 a127:=Tryz.isAgg129
 z127:=Tryz.sizeOf129
 v127:=Tryz.zeroValue129
 t146:=Tryz.underlying332
 a146:=Tryz.isAgg332
 z146:=Tryz.sizeOf332
 v146:=Tryz.zeroValue332
 t148:=Tryz.underlying356
 a148:=Tryz.isAgg356
 z148:=Tryz.sizeOf356
 v148:=Tryz.zeroValue356
 t164:=Tryz.underlying207
 a164:=Tryz.isAgg207
 z164:=Tryz.sizeOf207
 v164:=Tryz.zeroValue207 }
theorem Tryz.Builder_Extra_105:Builder.Extra Tryz.prog Tryz.lays105_ren:={
 sizeBuilder:=by kernel_rfl
 liesBuilder:=by kernel_rfl
 t5:=Tryz.underlying5
 a5:=Tryz.isAgg5
 z5:=Tryz.sizeOf5
 v5:=Tryz.zeroValue5
 infoByte:=by kernel_rfl
 cellsByte:=by kernel_rfl
 sizeByte:=by kernel_rfl
 neB5:=by decide }
open Go.RowKit Go.Lib in
theorem Tryz.strings_Repeat (s:ByteArray) (c:Nat) (w:World) (hc:c<=9223372036854775807) (hlen:s.size * c<=140737488355328) :
 Calls Tryz.prog 245 #[.string s,.int .i64 c] w fun e w'=>e=.returned (.string ⟨(Lib.repeatL s.data.toList c).toArray⟩)/\Below w.heap.size w w':=Any.strings_Repeat Tryz.lays105 Tryz.Builder_Extra_105 s c w hc hlen
def Tryz.laysC172_ren:Go.Shelf.Ren:=⟨fun | 172=>148 | 244=>230 | 245=>231 | 247=>279 | 279=>280 | 280=>281 | 281=>282 | 282=>283 | 287=>323 | 316=>324 | 171=>35 | 205=>325 | 321=>355 | 322=>356 | 243=>72 | 246=>131 | 283=>212 | 284=>213 | 285=>214 | 286=>215 | 129=>261 | 317=>265 | 318=>266 | 319=>267 | 320=>268 | 337=>319 | 338=>320 | n=>n,fun | 9=>9 | 3=>3 | 75=>77 | 76=>78 | 4=>4 | 5=>5 | 167=>308 | 37=>72 | 0=>0 | 85=>309 | 2=>2 | 168=>311 | 53=>239 | 175=>334 | 46=>238 | 210=>337 | 127=>129 | 145=>371 | 143=>369 | 21=>21 | 171=>257 | 173=>260 | 212=>303 | 51=>235 | 20=>20 | 213=>304 | 232=>366 | 233=>367 | 80=>88 | n=>n,fun | 15=>4 | 16=>5 | 17=>3 | 18=>6 | 19=>7 | n=>n⟩
theorem Tryz.laysC172:Go.Proofs.LaysC.n172 Tryz.prog Tryz.laysC172_ren:={
 mixed:=by kernel_rfl
 f129:=Tryz.func261.trans (congrArg some (by kernel_rfl))
 f171:=Tryz.func35.trans (congrArg some (by kernel_rfl))
 f172:=Tryz.func148.trans (congrArg some (by kernel_rfl))
 f205:=Tryz.func325.trans (congrArg some (by kernel_rfl))
 f243:=Tryz.func72.trans (congrArg some (by kernel_rfl))
 f244:=Tryz.func230.trans (congrArg some (by kernel_rfl))
 f245:=Tryz.func231.trans (congrArg some (by kernel_rfl))
 f246:=Tryz.func131.trans (congrArg some (by kernel_rfl))
 f247:=Tryz.func279.trans (congrArg some (by kernel_rfl))
 f279:=Tryz.func280.trans (congrArg some (by kernel_rfl))
 f280:=Tryz.func281.trans (congrArg some (by kernel_rfl))
 f281:=Tryz.func282.trans (congrArg some (by kernel_rfl))
 f282:=Tryz.func283.trans (congrArg some (by kernel_rfl))
 f283:=Tryz.func212.trans (congrArg some (by kernel_rfl))
 f284:=Tryz.func213.trans (congrArg some (by kernel_rfl))
 f285:=Tryz.func214.trans (congrArg some (by kernel_rfl))
 f286:=Tryz.func215.trans (congrArg some (by kernel_rfl))
 f287:=Tryz.func323.trans (congrArg some (by kernel_rfl))
 f316:=Tryz.func324.trans (congrArg some (by kernel_rfl))
 f317:=Tryz.func265.trans (congrArg some (by kernel_rfl))
 f318:=Tryz.func266.trans (congrArg some (by kernel_rfl))
 f319:=Tryz.func267.trans (congrArg some (by kernel_rfl))
 f320:=Tryz.func268.trans (congrArg some (by kernel_rfl))
 f321:=Tryz.func355.trans (congrArg some (by kernel_rfl))
 f322:=Tryz.func356.trans (congrArg some (by kernel_rfl))
 f337:=Tryz.func319.trans (congrArg some (by kernel_rfl))
 f338:=Tryz.func320.trans (congrArg some (by kernel_rfl))
 t0:=Tryz.underlying0
 a0:=Tryz.isAgg0
 z0:=Tryz.sizeOf0
 v0:=Tryz.zeroValue0
 t2:=Tryz.underlying2
 a2:=Tryz.isAgg2
 z2:=Tryz.sizeOf2
 v2:=Tryz.zeroValue2
 t3:=Tryz.underlying3
 a3:=Tryz.isAgg3
 z3:=Tryz.sizeOf3
 v3:=Tryz.zeroValue3
 t4:=Tryz.underlying4
 a4:=Tryz.isAgg4
 z4:=Tryz.sizeOf4
 v4:=Tryz.zeroValue4
 t5:=Tryz.underlying5
 a5:=Tryz.isAgg5
 z5:=Tryz.sizeOf5
 v5:=Tryz.zeroValue5
 t9:=Tryz.underlying9
 a9:=Tryz.isAgg9
 z9:=Tryz.sizeOf9
 v9:=Tryz.zeroValue9
 t20:=Tryz.underlying20
 a20:=Tryz.isAgg20
 z20:=Tryz.sizeOf20
 v20:=Tryz.zeroValue20
 t21:=Tryz.underlying21
 a21:=Tryz.isAgg21
 z21:=Tryz.sizeOf21
 v21:=Tryz.zeroValue21
 t37:=Tryz.underlying72
 a37:=Tryz.isAgg72
 z37:=Tryz.sizeOf72
 v37:=Tryz.zeroValue72
 t46:=Tryz.underlying238
 a46:=Tryz.isAgg238
 z46:=Tryz.sizeOf238
 v46:=Tryz.zeroValue238
 t51:=Tryz.underlying235
 a51:=Tryz.isAgg235
 z51:=Tryz.sizeOf235
 v51:=Tryz.zeroValue235
 t53:=Tryz.underlying239
 a53:=Tryz.isAgg239
 z53:=Tryz.sizeOf239
 v53:=Tryz.zeroValue239
 t75:=Tryz.underlying77
 a75:=Tryz.isAgg77
 z75:=Tryz.sizeOf77
 v75:=Tryz.zeroValue77
 t76:=Tryz.underlying78
 a76:=Tryz.isAgg78
 z76:=Tryz.sizeOf78
 v76:=Tryz.zeroValue78
 t85:=Tryz.underlying309
 a85:=Tryz.isAgg309
 z85:=Tryz.sizeOf309
 v85:=Tryz.zeroValue309
 t127:=Tryz.underlying129
 a127:=Tryz.isAgg129
 z127:=Tryz.sizeOf129
 v127:=Tryz.zeroValue129
 t143:=Tryz.underlying369
 a143:=Tryz.isAgg369
 z143:=Tryz.sizeOf369
 v143:=Tryz.zeroValue369
 t145:=Tryz.underlying371
 a145:=Tryz.isAgg371
 z145:=Tryz.sizeOf371
 v145:=Tryz.zeroValue371
 t167:=Tryz.underlying308
 a167:=Tryz.isAgg308
 z167:=Tryz.sizeOf308
 v167:=Tryz.zeroValue308
 t168:=Tryz.underlying311
 a168:=Tryz.isAgg311
 z168:=Tryz.sizeOf311
 v168:=Tryz.zeroValue311
 t171:=Tryz.underlying257
 a171:=Tryz.isAgg257
 z171:=Tryz.sizeOf257
 v171:=Tryz.zeroValue257
 t173:=Tryz.underlying260
 a173:=Tryz.isAgg260
 z173:=Tryz.sizeOf260
 v173:=Tryz.zeroValue260
 t175:=Tryz.underlying334
 a175:=Tryz.isAgg334
 z175:=Tryz.sizeOf334
 v175:=Tryz.zeroValue334
 t210:=Tryz.underlying337
 a210:=Tryz.isAgg337
 z210:=Tryz.sizeOf337
 v210:=Tryz.zeroValue337
 t212:=Tryz.underlying303
 a212:=Tryz.isAgg303
 z212:=Tryz.sizeOf303
 v212:=Tryz.zeroValue303
 t213:=Tryz.underlying304
 a213:=Tryz.isAgg304
 z213:=Tryz.sizeOf304
 t232:=Tryz.underlying366
 a232:=Tryz.isAgg366
 z232:=Tryz.sizeOf366
 v232:=Tryz.zeroValue366
 t233:=Tryz.underlying367
 a233:=Tryz.isAgg367
 z233:=Tryz.sizeOf367
 v233:=Tryz.zeroValue367
 g15:=by kernel_rfl
 g16:=by kernel_rfl
 g17:=by kernel_rfl
 g18:=by kernel_rfl
 g19:=by kernel_rfl
 t80:=Tryz.underlying88
 a80:=Tryz.isAgg88
 z80:=Tryz.sizeOf88
 v80:=Tryz.zeroValue88
 i0:=by kernel_rfl
 i2:=by kernel_rfl
 i3:=by kernel_rfl
 i4:=by kernel_rfl
 i5:=by kernel_rfl
 i9:=by kernel_rfl
 i20:=by kernel_rfl
 i21:=by kernel_rfl
 i37:=by kernel_rfl
 i46:=by kernel_rfl
 i51:=by kernel_rfl
 i53:=by kernel_rfl
 i75:=by kernel_rfl
 i76:=by kernel_rfl
 i80:=by kernel_rfl
 i85:=by kernel_rfl
 i127:=by kernel_rfl
 i143:=by kernel_rfl
 i145:=by kernel_rfl
 i167:=by kernel_rfl
 i168:=by kernel_rfl
 i171:=by kernel_rfl
 i173:=by kernel_rfl
 i175:=by kernel_rfl
 i210:=by kernel_rfl
 i212:=by kernel_rfl
 i232:=by kernel_rfl
 i233:=by kernel_rfl
 m15:=by kernel_rfl
 m16:=by kernel_rfl
 m17:=by kernel_rfl
 m18:=by kernel_rfl
 m19:=by kernel_rfl
 c0:=by kernel_rfl
 c2:=by kernel_rfl
 c3:=by kernel_rfl
 c4:=by kernel_rfl
 c5:=by kernel_rfl
 c9:=by kernel_rfl
 c20:=by kernel_rfl
 c21:=by kernel_rfl
 c37:=by kernel_rfl
 c46:=by kernel_rfl
 c51:=by kernel_rfl
 c53:=by kernel_rfl
 c75:=by kernel_rfl
 c76:=by kernel_rfl
 c80:=by kernel_rfl
 c85:=by kernel_rfl
 c127:=by kernel_rfl
 c143:=by kernel_rfl
 c145:=by kernel_rfl
 c167:=by kernel_rfl
 c168:=by kernel_rfl
 c171:=by kernel_rfl
 c173:=by kernel_rfl
 c175:=by kernel_rfl
 c210:=by kernel_rfl
 c212:=by kernel_rfl
 c213:=by kernel_rfl
 c232:=by kernel_rfl
 c233:=by kernel_rfl }
open Go.RowKit Go.Lib in
theorem Tryz.strconv_Atoi_ok (s:ByteArray) (hmax:s.size<=9223372036854775806) (v:Int) (h:Lib.atoiAll s.data.toList=.ok v) (w:World) :
 Calls Tryz.prog 148 #[.string s] w fun e w'=>e=.returned (.tuple #[.int .i64 v,.nilIface])/\(w'=w\/∃t,w'=Lib.bytesWorld w 5 t):=Any.strconv_Atoi_ok Tryz.laysC172 s hmax v h w
open Go.RowKit Go.Lib in
theorem Tryz.strconv_Atoi_range (s:ByteArray) (hlim:s.size<=281474976710656) (h:Lib.atoiAll s.data.toList=.range) (ev:Value) (w:World) (hv:w.cell? ⟨5,0,none⟩=some ev) (hev:ev=.nilIface\/∃te pe,ev=.iface te pe) :
 Calls Tryz.prog 148 #[.string s] w fun e w'=>∃N,e=.returned (.tuple #[.int .i64 (Lib.atoiSat s.data.toList),.iface 311 (.pointer (some ⟨N,0,none⟩))])/\w.heap.size<=N/\w'.heap[N]?=some (.cells #[.string ⟨#[65,116,111,105]⟩,.string s,ev] 337 (0,0))/\Below w.heap.size w w':=Any.strconv_Atoi_range Tryz.laysC172 s hlim h ev w hv hev
end Go.Proofs

namespace Go.Proofs
open Go.Shelf
def Tryz.lays27_ren:Go.Shelf.Ren:=⟨fun | 27=>268 | 28=>319 | 29=>320 | n=>n,fun | 25=>238 | 3=>3 | 27=>235 | 22=>239 | 4=>4 | 53=>366 | 0=>0 | 5=>5 | 54=>367 | n=>n,fun | 0=>6 | 1=>7 | n=>n⟩
theorem Tryz.lays27:Go.Proofs.Lays7.n27 Tryz.prog Tryz.lays27_ren:={
 mixed:=by kernel_rfl
 f27:=Tryz.func268.trans (congrArg some (by kernel_rfl))
 f28:=Tryz.func319.trans (congrArg some (by kernel_rfl))
 f29:=Tryz.func320.trans (congrArg some (by kernel_rfl))
 t0:=Tryz.underlying0
 a0:=Tryz.isAgg0
 z0:=Tryz.sizeOf0
 v0:=Tryz.zeroValue0
 i0:=by kernel_rfl
 t3:=Tryz.underlying3
 a3:=Tryz.isAgg3
 z3:=Tryz.sizeOf3
 v3:=Tryz.zeroValue3
 i3:=by kernel_rfl
 t4:=Tryz.underlying4
 a4:=Tryz.isAgg4
 z4:=Tryz.sizeOf4
 v4:=Tryz.zeroValue4
 i4:=by kernel_rfl
 t5:=Tryz.underlying5
 a5:=Tryz.isAgg5
 z5:=Tryz.sizeOf5
 v5:=Tryz.zeroValue5
 i5:=by kernel_rfl
 t22:=Tryz.underlying239
 a22:=Tryz.isAgg239
 z22:=Tryz.sizeOf239
 v22:=Tryz.zeroValue239
 i22:=by kernel_rfl
 t25:=Tryz.underlying238
 a25:=Tryz.isAgg238
 z25:=Tryz.sizeOf238
 v25:=Tryz.zeroValue238
 i25:=by kernel_rfl
 t27:=Tryz.underlying235
 a27:=Tryz.isAgg235
 z27:=Tryz.sizeOf235
 v27:=Tryz.zeroValue235
 i27:=by kernel_rfl
 t53:=Tryz.underlying366
 a53:=Tryz.isAgg366
 z53:=Tryz.sizeOf366
 v53:=Tryz.zeroValue366
 i53:=by kernel_rfl
 t54:=Tryz.underlying367
 a54:=Tryz.isAgg367
 z54:=Tryz.sizeOf367
 g0:=by kernel_rfl
 g1:=by kernel_rfl }
open Go.RowKit Go.Lib in
theorem Tryz.bits_TrailingZeros (x:Nat) (hx:x<18446744073709551616) (w:World) (hT:x≠0->TabAt 7 Lib.deBruijn64tab w) :
 Calls Tryz.prog 268 #[.int .u64 x] w fun e w'=>e=.returned (.int .i64 (Lib.ctz 64 x))/\w'=w:=Any7.bits_TrailingZeros Tryz.lays27 x hx w hT
end Go.Proofs

namespace Go.Proofs
open Go.Shelf
def Tryz.lays137_ren:Go.Shelf.Ren:=⟨fun | 137=>145 | 217=>227 | 266=>275 | n=>n,fun | 9=>9 | 5=>5 | 3=>3 | n=>n,fun | n=>n⟩
theorem Tryz.lays137:Go.Proofs.Lays.n137 Tryz.prog Tryz.lays137_ren:={
 mixed:=by kernel_rfl
 f137:=Tryz.func145.trans (congrArg some (by kernel_rfl))
 f217:=Tryz.func227.trans (congrArg some (by kernel_rfl))
 f266:=Tryz.func275.trans (congrArg some (by kernel_rfl))
 t3:=Tryz.underlying3
 a3:=Tryz.isAgg3
 z3:=Tryz.sizeOf3
 v3:=Tryz.zeroValue3
 t5:=Tryz.underlying5
 a5:=Tryz.isAgg5
 z5:=Tryz.sizeOf5
 v5:=Tryz.zeroValue5
 t9:=Tryz.underlying9
 a9:=Tryz.isAgg9
 z9:=Tryz.sizeOf9
 v9:=Tryz.zeroValue9 }
open Go.RowKit Go.Lib in
theorem Tryz.strings_IndexByte (s:ByteArray) (c:Int) (w:World) :
 Calls Tryz.prog 145 #[.string s,.int .u8 c] w fun e w'=>e=.returned (.int .i64 (Lib.indexByte s.data.toList c.toNat.toUInt8))/\w'=w:=Any.strings_IndexByte Tryz.lays137 s c w
def Tryz.lays99_ren:Go.Shelf.Ren:=⟨fun | 99=>287 | 206=>328 | n=>n,fun | 9=>9 | 4=>4 | 3=>3 | n=>n,fun | n=>n⟩
theorem Tryz.lays99:Go.Proofs.Lays.n99 Tryz.prog Tryz.lays99_ren:={
 mixed:=by kernel_rfl
 f99:=Tryz.func287.trans (congrArg some (by kernel_rfl))
 f206:=Tryz.func328.trans (congrArg some (by kernel_rfl))
 t3:=Tryz.underlying3
 a3:=Tryz.isAgg3
 z3:=Tryz.sizeOf3
 v3:=Tryz.zeroValue3
 t4:=Tryz.underlying4
 a4:=Tryz.isAgg4
 z4:=Tryz.sizeOf4
 v4:=Tryz.zeroValue4
 t9:=Tryz.underlying9
 a9:=Tryz.isAgg9
 z9:=Tryz.sizeOf9
 v9:=Tryz.zeroValue9 }
open Go.RowKit Go.Lib in
theorem Tryz.strings_HasPrefix (s p:ByteArray) (w:World) :
 Calls Tryz.prog 287 #[.string s,.string p] w fun e w'=>e=.returned (.bool (Lib.hasPrefix s.data.toList p.data.toList))/\w'=w:=Any.strings_HasPrefix Tryz.lays99 s p w
def Tryz.lays101_ren:Go.Shelf.Ren:=⟨fun | 101=>357 | 208=>374 | 206=>328 | n=>n,fun | 9=>9 | 4=>4 | 3=>3 | n=>n,fun | n=>n⟩
theorem Tryz.lays101:Go.Proofs.Lays.n101 Tryz.prog Tryz.lays101_ren:={
 mixed:=by kernel_rfl
 f101:=Tryz.func357.trans (congrArg some (by kernel_rfl))
 f206:=Tryz.func328.trans (congrArg some (by kernel_rfl))
 f208:=Tryz.func374.trans (congrArg some (by kernel_rfl))
 t3:=Tryz.underlying3
 a3:=Tryz.isAgg3
 z3:=Tryz.sizeOf3
 v3:=Tryz.zeroValue3
 t4:=Tryz.underlying4
 a4:=Tryz.isAgg4
 z4:=Tryz.sizeOf4
 v4:=Tryz.zeroValue4
 t9:=Tryz.underlying9
 a9:=Tryz.isAgg9
 z9:=Tryz.sizeOf9
 v9:=Tryz.zeroValue9 }
open Go.RowKit Go.Lib in
theorem Tryz.strings_TrimPrefix (s p:ByteArray) (w:World) :
 Calls Tryz.prog 357 #[.string s,.string p] w fun e w'=>e=.returned (.string ⟨(Lib.trimPrefix s.data.toList p.data.toList).toArray⟩)/\w'=w:=Any.strings_TrimPrefix Tryz.lays101 s p w
def Tryz.lays102_ren:Go.Shelf.Ren:=⟨fun | 102=>82 | 209=>147 | 207=>229 | n=>n,fun | 9=>9 | 4=>4 | 3=>3 | n=>n,fun | n=>n⟩
theorem Tryz.lays102:Go.Proofs.Lays.n102 Tryz.prog Tryz.lays102_ren:={
 mixed:=by kernel_rfl
 f102:=Tryz.func82.trans (congrArg some (by kernel_rfl))
 f207:=Tryz.func229.trans (congrArg some (by kernel_rfl))
 f209:=Tryz.func147.trans (congrArg some (by kernel_rfl))
 t3:=Tryz.underlying3
 a3:=Tryz.isAgg3
 z3:=Tryz.sizeOf3
 v3:=Tryz.zeroValue3
 t4:=Tryz.underlying4
 a4:=Tryz.isAgg4
 z4:=Tryz.sizeOf4
 v4:=Tryz.zeroValue4
 t9:=Tryz.underlying9
 a9:=Tryz.isAgg9
 z9:=Tryz.sizeOf9
 v9:=Tryz.zeroValue9 }
open Go.RowKit Go.Lib in
theorem Tryz.strings_TrimSuffix (s p:ByteArray) (w:World) (hs:s.size<=9223372036854775807) :
 Calls Tryz.prog 82 #[.string s,.string p] w fun e w'=>e=.returned (.string ⟨(Lib.trimSuffix s.data.toList p.data.toList).toArray⟩)/\w'=w:=Any.strings_TrimSuffix Tryz.lays102 s p w hs
def Tryz.lays103_ren:Go.Shelf.Ren:=⟨fun | 103=>336 | 210=>368 | 206=>328 | n=>n,fun | 9=>9 | 4=>4 | 24=>348 | 3=>3 | n=>n,fun | n=>n⟩
theorem Tryz.lays103:Go.Proofs.Lays.n103 Tryz.prog Tryz.lays103_ren:={
 mixed:=by kernel_rfl
 f103:=Tryz.func336.trans (congrArg some (by kernel_rfl))
 f206:=Tryz.func328.trans (congrArg some (by kernel_rfl))
 f210:=Tryz.func368.trans (congrArg some (by kernel_rfl))
 t3:=Tryz.underlying3
 a3:=Tryz.isAgg3
 z3:=Tryz.sizeOf3
 v3:=Tryz.zeroValue3
 t4:=Tryz.underlying4
 a4:=Tryz.isAgg4
 z4:=Tryz.sizeOf4
 v4:=Tryz.zeroValue4
 t9:=Tryz.underlying9
 a9:=Tryz.isAgg9
 z9:=Tryz.sizeOf9
 v9:=Tryz.zeroValue9
 t24:=Tryz.underlying348
 a24:=Tryz.isAgg348
 z24:=Tryz.sizeOf348
 v24:=Tryz.zeroValue348 }
open Go.RowKit Go.Lib in
theorem Tryz.strings_CutPrefix (s p:ByteArray) (w:World) :
 Calls Tryz.prog 336 #[.string s,.string p] w fun e w'=>e=.returned (.tuple #[.string ⟨(Lib.trimPrefix s.data.toList p.data.toList).toArray⟩,.bool (Lib.hasPrefix s.data.toList p.data.toList)])/\w'=w:=Any.strings_CutPrefix Tryz.lays103 s p w
def Tryz.lays146_ren:Go.Shelf.Ren:=⟨fun | 146=>154 | 221=>239 | 268=>305 | 138=>306 | 143=>307 | 195=>339 | 197=>340 | 218=>341 | 219=>228 | 260=>369 | 217=>227 | 225=>276 | 224=>277 | 267=>278 | 266=>275 | 314=>322 | n=>n,fun | 9=>9 | 31=>75 | 3=>3 | 4=>4 | 0=>0 | 105=>353 | 21=>21 | 5=>5 | 46=>238 | 119=>296 | 139=>299 | 138=>298 | 146=>332 | 51=>235 | n=>n,fun | 1=>2 | 3=>0 | 4=>1 | n=>n⟩
theorem Tryz.lays146:Go.Proofs.Lays.n146 Tryz.prog Tryz.lays146_ren:={
 mixed:=by kernel_rfl
 f138:=Tryz.func306.trans (congrArg some (by kernel_rfl))
 f143:=Tryz.func307.trans (congrArg some (by kernel_rfl))
 f146:=Tryz.func154.trans (congrArg some (by kernel_rfl))
 f195:=Tryz.func339.trans (congrArg some (by kernel_rfl))
 f197:=Tryz.func340.trans (congrArg some (by kernel_rfl))
 f217:=Tryz.func227.trans (congrArg some (by kernel_rfl))
 f218:=Tryz.func341.trans (congrArg some (by kernel_rfl))
 f219:=Tryz.func228.trans (congrArg some (by kernel_rfl))
 f221:=Tryz.func239.trans (congrArg some (by kernel_rfl))
 f224:=Tryz.func277.trans (congrArg some (by kernel_rfl))
 f225:=Tryz.func276.trans (congrArg some (by kernel_rfl))
 f260:=Tryz.func369.trans (congrArg some (by kernel_rfl))
 f266:=Tryz.func275.trans (congrArg some (by kernel_rfl))
 f267:=Tryz.func278.trans (congrArg some (by kernel_rfl))
 f268:=Tryz.func305.trans (congrArg some (by kernel_rfl))
 f314:=Tryz.func322.trans (congrArg some (by kernel_rfl))
 t0:=Tryz.underlying0
 a0:=Tryz.isAgg0
 z0:=Tryz.sizeOf0
 v0:=Tryz.zeroValue0
 t3:=Tryz.underlying3
 a3:=Tryz.isAgg3
 z3:=Tryz.sizeOf3
 v3:=Tryz.zeroValue3
 t4:=Tryz.underlying4
 a4:=Tryz.isAgg4
 z4:=Tryz.sizeOf4
 v4:=Tryz.zeroValue4
 t5:=Tryz.underlying5
 a5:=Tryz.isAgg5
 z5:=Tryz.sizeOf5
 v5:=Tryz.zeroValue5
 t9:=Tryz.underlying9
 a9:=Tryz.isAgg9
 z9:=Tryz.sizeOf9
 v9:=Tryz.zeroValue9
 t21:=Tryz.underlying21
 a21:=Tryz.isAgg21
 z21:=Tryz.sizeOf21
 v21:=Tryz.zeroValue21
 t31:=Tryz.underlying75
 a31:=Tryz.isAgg75
 z31:=Tryz.sizeOf75
 v31:=Tryz.zeroValue75
 t46:=Tryz.underlying238
 a46:=Tryz.isAgg238
 z46:=Tryz.sizeOf238
 v46:=Tryz.zeroValue238
 t51:=Tryz.underlying235
 a51:=Tryz.isAgg235
 z51:=Tryz.sizeOf235
 v51:=Tryz.zeroValue235
 t105:=Tryz.underlying353
 a105:=Tryz.isAgg353
 z105:=Tryz.sizeOf353
 v105:=Tryz.zeroValue353
 t119:=Tryz.underlying296
 a119:=Tryz.isAgg296
 z119:=Tryz.sizeOf296
 t138:=Tryz.underlying298
 a138:=Tryz.isAgg298
 z138:=Tryz.sizeOf298
 v138:=Tryz.zeroValue298
 t139:=Tryz.underlying299
 a139:=Tryz.isAgg299
 z139:=Tryz.sizeOf299
 v139:=Tryz.zeroValue299
 t146:=Tryz.underlying332
 a146:=Tryz.isAgg332
 z146:=Tryz.sizeOf332
 v146:=Tryz.zeroValue332
 g1:=by kernel_rfl
 g3:=by kernel_rfl
 g4:=by kernel_rfl }
open Go.RowKit Go.Lib in
theorem Tryz.strings_Split (s sep:ByteArray) (m:Int) (w:World) (hs:s.size<4294967281) (hm:w.cell? ⟨2,0,none⟩=some (.int .i64 m)) (h1:1<=sep.size) :
 Calls Tryz.prog 154 #[.string s,.string sep] w fun e w' =>
  e=.returned (.slice (some ⟨w.heap.size,0,none⟩) (Lib.countB s sep+1) (Lib.countB s sep+1))/\w'=w.alloc (.cells ((Lib.splitB sep 0 (Lib.countB s sep) s).map Value.string).toArray 9):=Any.strings_Split Tryz.lays146 (by kernel_rfl) s sep m w hs hm h1
def Tryz.lays147_ren:Go.Shelf.Ren:=⟨fun | 147=>152 | 221=>239 | 268=>305 | 138=>306 | 143=>307 | 195=>339 | 197=>340 | 218=>341 | 219=>228 | 260=>369 | 217=>227 | 225=>276 | 224=>277 | 267=>278 | 266=>275 | 314=>322 | n=>n,fun | 9=>9 | 3=>3 | 31=>75 | 4=>4 | 0=>0 | 105=>353 | 21=>21 | 5=>5 | 46=>238 | 119=>296 | 139=>299 | 138=>298 | 146=>332 | 51=>235 | n=>n,fun | 1=>2 | 3=>0 | 4=>1 | n=>n⟩
theorem Tryz.lays147:Go.Proofs.Lays.n147 Tryz.prog Tryz.lays147_ren:={
 mixed:=by kernel_rfl
 f138:=Tryz.func306.trans (congrArg some (by kernel_rfl))
 f143:=Tryz.func307.trans (congrArg some (by kernel_rfl))
 f147:=Tryz.func152.trans (congrArg some (by kernel_rfl))
 f195:=Tryz.func339.trans (congrArg some (by kernel_rfl))
 f197:=Tryz.func340.trans (congrArg some (by kernel_rfl))
 f217:=Tryz.func227.trans (congrArg some (by kernel_rfl))
 f218:=Tryz.func341.trans (congrArg some (by kernel_rfl))
 f219:=Tryz.func228.trans (congrArg some (by kernel_rfl))
 f221:=Tryz.func239.trans (congrArg some (by kernel_rfl))
 f224:=Tryz.func277.trans (congrArg some (by kernel_rfl))
 f225:=Tryz.func276.trans (congrArg some (by kernel_rfl))
 f260:=Tryz.func369.trans (congrArg some (by kernel_rfl))
 f266:=Tryz.func275.trans (congrArg some (by kernel_rfl))
 f267:=Tryz.func278.trans (congrArg some (by kernel_rfl))
 f268:=Tryz.func305.trans (congrArg some (by kernel_rfl))
 f314:=Tryz.func322.trans (congrArg some (by kernel_rfl))
 t0:=Tryz.underlying0
 a0:=Tryz.isAgg0
 z0:=Tryz.sizeOf0
 v0:=Tryz.zeroValue0
 t3:=Tryz.underlying3
 a3:=Tryz.isAgg3
 z3:=Tryz.sizeOf3
 v3:=Tryz.zeroValue3
 t4:=Tryz.underlying4
 a4:=Tryz.isAgg4
 z4:=Tryz.sizeOf4
 v4:=Tryz.zeroValue4
 t5:=Tryz.underlying5
 a5:=Tryz.isAgg5
 z5:=Tryz.sizeOf5
 v5:=Tryz.zeroValue5
 t9:=Tryz.underlying9
 a9:=Tryz.isAgg9
 z9:=Tryz.sizeOf9
 v9:=Tryz.zeroValue9
 t21:=Tryz.underlying21
 a21:=Tryz.isAgg21
 z21:=Tryz.sizeOf21
 v21:=Tryz.zeroValue21
 t31:=Tryz.underlying75
 a31:=Tryz.isAgg75
 z31:=Tryz.sizeOf75
 v31:=Tryz.zeroValue75
 t46:=Tryz.underlying238
 a46:=Tryz.isAgg238
 z46:=Tryz.sizeOf238
 v46:=Tryz.zeroValue238
 t51:=Tryz.underlying235
 a51:=Tryz.isAgg235
 z51:=Tryz.sizeOf235
 v51:=Tryz.zeroValue235
 t105:=Tryz.underlying353
 a105:=Tryz.isAgg353
 z105:=Tryz.sizeOf353
 v105:=Tryz.zeroValue353
 t119:=Tryz.underlying296
 a119:=Tryz.isAgg296
 z119:=Tryz.sizeOf296
 t138:=Tryz.underlying298
 a138:=Tryz.isAgg298
 z138:=Tryz.sizeOf298
 v138:=Tryz.zeroValue298
 t139:=Tryz.underlying299
 a139:=Tryz.isAgg299
 z139:=Tryz.sizeOf299
 v139:=Tryz.zeroValue299
 t146:=Tryz.underlying332
 a146:=Tryz.isAgg332
 z146:=Tryz.sizeOf332
 v146:=Tryz.zeroValue332
 g1:=by kernel_rfl
 g3:=by kernel_rfl
 g4:=by kernel_rfl }
open Go.RowKit Go.Lib in
theorem Tryz.strings_SplitN (s sep:ByteArray) (n:Nat) (m:Int) (w:World) (hs:s.size<4294967281) (hm:w.cell? ⟨2,0,none⟩=some (.int .i64 m)) (h1:1<=sep.size) (hn:1<=n) (hn63:n<=9223372036854775807) :
 Calls Tryz.prog 152 #[.string s,.string sep,.int .i64 n] w fun e w' =>
  e=.returned (.slice (some ⟨w.heap.size,0,none⟩) (Lib.splitB sep 0 (min n (s.size+1)-1) s).length (min n (s.size+1)))/\w'=w.alloc (.cells (Lib.cellsOf (Lib.splitB sep 0 (min n (s.size+1)-1) s) (min n (s.size+1))) 9):=Any.strings_SplitN Tryz.lays147 (by kernel_rfl) s sep n m w hs hm h1 hn hn63
end Go.Proofs

namespace Go.Proofs
open Go.Shelf
def Tryz.lays143_ren:Go.Shelf.Ren:=⟨fun | 143=>307 | 219=>228 | 217=>227 | 225=>276 | 224=>277 | 267=>278 | 266=>275 | 314=>322 | n=>n,fun | 9=>9 | 3=>3 | 4=>4 | 5=>5 | 46=>238 | 146=>332 | 51=>235 | n=>n,fun | 1=>2 | n=>n⟩
theorem Tryz.lays143:Go.Proofs.Lays.n143 Tryz.prog Tryz.lays143_ren:={
 mixed:=by kernel_rfl
 f143:=Tryz.func307.trans (congrArg some (by kernel_rfl))
 f217:=Tryz.func227.trans (congrArg some (by kernel_rfl))
 f219:=Tryz.func228.trans (congrArg some (by kernel_rfl))
 f224:=Tryz.func277.trans (congrArg some (by kernel_rfl))
 f225:=Tryz.func276.trans (congrArg some (by kernel_rfl))
 f266:=Tryz.func275.trans (congrArg some (by kernel_rfl))
 f267:=Tryz.func278.trans (congrArg some (by kernel_rfl))
 f314:=Tryz.func322.trans (congrArg some (by kernel_rfl))
 t3:=Tryz.underlying3
 a3:=Tryz.isAgg3
 z3:=Tryz.sizeOf3
 v3:=Tryz.zeroValue3
 t4:=Tryz.underlying4
 a4:=Tryz.isAgg4
 z4:=Tryz.sizeOf4
 v4:=Tryz.zeroValue4
 t5:=Tryz.underlying5
 a5:=Tryz.isAgg5
 z5:=Tryz.sizeOf5
 v5:=Tryz.zeroValue5
 t9:=Tryz.underlying9
 a9:=Tryz.isAgg9
 z9:=Tryz.sizeOf9
 v9:=Tryz.zeroValue9
 t46:=Tryz.underlying238
 a46:=Tryz.isAgg238
 z46:=Tryz.sizeOf238
 v46:=Tryz.zeroValue238
 t51:=Tryz.underlying235
 a51:=Tryz.isAgg235
 z51:=Tryz.sizeOf235
 v51:=Tryz.zeroValue235
 t146:=Tryz.underlying332
 a146:=Tryz.isAgg332
 z146:=Tryz.sizeOf332
 v146:=Tryz.zeroValue332
 g1:=by kernel_rfl }
open Go.RowKit Go.Lib in
theorem Tryz.strings_Index1 (s:ByteArray) (c:UInt8) (w:World) :
 Calls Tryz.prog 307 #[.string s,.string ⟨#[c]⟩] w fun e w'=>e=.returned (.int .i64 (Lib.indexByte s.data.toList c))/\w'=w:=Any.strings_Index_one Tryz.lays143 s c w
end Go.Proofs

namespace Go.Proofs
open Go.Shelf
def Tryz.sortFld_ren:Go.Shelf.Ren:=⟨fun | 6=>296 | 15=>184 | 14=>333 | 28=>260 | 29=>261 | 20=>359 | 21=>360 | 22=>361 | 23=>362 | 24=>363 | 25=>364 | 26=>365 | 27=>366 | 46=>376 | 47=>315 | 48=>316 | 49=>377 | 50=>378 | 57=>380 | n=>n,fun | 22=>34 | 24=>202 | 25=>203 | 3=>3 | 39=>238 | 0=>0 | 53=>235 | 55=>239 | 4=>4 | 46=>288 | 45=>287 | 50=>115 | 5=>5 | 9=>9 | 66=>326 | 70=>160 | 76=>363 | 77=>364 | n=>n,fun | n=>n⟩
theorem Tryz.sortFld:Go.Proofs.SlLaysF0.n6 Tryz.prog Tryz.sortFld_ren:={
 mixed:=by kernel_rfl
 f6:=⟨Tryz.f296.name,by decide,Tryz.func296.trans (congrArg some (by kernel_rfl))⟩
 f14:=⟨Tryz.f333.name,by decide,Tryz.func333.trans (congrArg some (by kernel_rfl))⟩
 f15:=Tryz.func184.trans (congrArg some (by kernel_rfl))
 f20:=⟨Tryz.f359.name,by decide,Tryz.func359.trans (congrArg some (by kernel_rfl))⟩
 f21:=⟨Tryz.f360.name,by decide,Tryz.func360.trans (congrArg some (by kernel_rfl))⟩
 f22:=⟨Tryz.f361.name,by decide,Tryz.func361.trans (congrArg some (by kernel_rfl))⟩
 f23:=⟨Tryz.f362.name,by decide,Tryz.func362.trans (congrArg some (by kernel_rfl))⟩
 f24:=⟨Tryz.f363.name,by decide,Tryz.func363.trans (congrArg some (by kernel_rfl))⟩
 f25:=⟨Tryz.f364.name,by decide,Tryz.func364.trans (congrArg some (by kernel_rfl))⟩
 f26:=⟨Tryz.f365.name,by decide,Tryz.func365.trans (congrArg some (by kernel_rfl))⟩
 f27:=⟨Tryz.f366.name,by decide,Tryz.func366.trans (congrArg some (by kernel_rfl))⟩
 f28:=Tryz.func260.trans (congrArg some (by kernel_rfl))
 f29:=Tryz.func261.trans (congrArg some (by kernel_rfl))
 f46:=⟨Tryz.f376.name,by decide,Tryz.func376.trans (congrArg some (by kernel_rfl))⟩
 f47:=Tryz.func315.trans (congrArg some (by kernel_rfl))
 f48:=Tryz.func316.trans (congrArg some (by kernel_rfl))
 f49:=⟨Tryz.f377.name,by decide,Tryz.func377.trans (congrArg some (by kernel_rfl))⟩
 f50:=⟨Tryz.f378.name,by decide,Tryz.func378.trans (congrArg some (by kernel_rfl))⟩
 f57:=⟨Tryz.f380.name,by decide,Tryz.func380.trans (congrArg some (by kernel_rfl))⟩
 t0:=Tryz.underlying0
 a0:=Tryz.isAgg0
 z0:=Tryz.sizeOf0
 v0:=Tryz.zeroValue0
 t3:=Tryz.underlying3
 a3:=Tryz.isAgg3
 z3:=Tryz.sizeOf3
 v3:=Tryz.zeroValue3
 t4:=Tryz.underlying4
 a4:=Tryz.isAgg4
 z4:=Tryz.sizeOf4
 v4:=Tryz.zeroValue4
 t5:=Tryz.underlying5
 a5:=Tryz.isAgg5
 z5:=Tryz.sizeOf5
 v5:=Tryz.zeroValue5
 t9:=Tryz.underlying9
 a9:=Tryz.isAgg9
 z9:=Tryz.sizeOf9
 v9:=Tryz.zeroValue9
 t22:=Tryz.underlying34
 a22:=Tryz.isAgg34
 z22:=Tryz.sizeOf34
 v22:=Tryz.zeroValue34
 t25:=Tryz.underlying203
 a25:=Tryz.isAgg203
 z25:=Tryz.sizeOf203
 v25:=Tryz.zeroValue203
 t39:=Tryz.underlying238
 a39:=Tryz.isAgg238
 z39:=Tryz.sizeOf238
 v39:=Tryz.zeroValue238
 t45:=Tryz.underlying287
 a45:=Tryz.isAgg287
 z45:=Tryz.sizeOf287
 v45:=Tryz.zeroValue287
 t46:=Tryz.underlying288
 a46:=Tryz.isAgg288
 z46:=Tryz.sizeOf288
 v46:=Tryz.zeroValue288
 t50:=Tryz.underlying115
 a50:=Tryz.isAgg115
 z50:=Tryz.sizeOf115
 v50:=Tryz.zeroValue115
 t53:=Tryz.underlying235
 a53:=Tryz.isAgg235
 z53:=Tryz.sizeOf235
 v53:=Tryz.zeroValue235
 t55:=Tryz.underlying239
 a55:=Tryz.isAgg239
 z55:=Tryz.sizeOf239
 v55:=Tryz.zeroValue239
 t66:=Tryz.underlying326
 a66:=Tryz.isAgg326
 z66:=Tryz.sizeOf326
 v66:=Tryz.zeroValue326
 t70:=Tryz.underlying160
 a70:=Tryz.isAgg160
 z70:=Tryz.sizeOf160
 v70:=Tryz.zeroValue160
 t76:=Tryz.underlying363
 a76:=Tryz.isAgg363
 z76:=Tryz.sizeOf363
 v76:=Tryz.zeroValue363
 t77:=Tryz.underlying364
 a77:=Tryz.isAgg364
 z77:=Tryz.sizeOf364
 v77:=Tryz.zeroValue364 }
open Go.RowKit Go.Lib Go.Sort in
theorem Tryz.slices_SortFunc_fld {α:Type} [Inhabited α] (enc:α->List Value) (hk:∀x,(enc x).length=7) (h1:∀x,∀v∈enc x,v.oneCell'=true) (cf:α->α->Int) (hO:SWO (ltOf cf)) (g:Nat) (cb:Array Value) (blk off cap:Nat) (d:Array α) (w:World)
 (eg:∀args w,(callFunc g args).run Tryz.prog w=.ok (.enter g args) w) (hcmp:CmpLays Tryz.prog g cb enc 7 cf blk off d.size w) (hH:HoldsK enc 7 w blk off d) (hblk:blk<w.heap.size) (hsz:d.size<4611686018427387904) :
 Calls Tryz.prog 296 #[.slice (some ⟨blk,off,none⟩) d.size cap,.func (.func g) #[] cb] w fun e w' =>
  e=.returned (.tuple #[])/\∃d' n os,PermIn 0 d.size d d'/\SortedIn (ltOf cf) 0 d.size d'/\w'=sortWorldK enc 7 w blk off n d' os:=AnyQ.slices_SortFunc Tryz.sortFld 7 Tryz.isAgg202 Tryz.sizeOf202 enc hk h1 cf hO g cb blk off cap d w eg hcmp hH hblk hsz
end Go.Proofs
