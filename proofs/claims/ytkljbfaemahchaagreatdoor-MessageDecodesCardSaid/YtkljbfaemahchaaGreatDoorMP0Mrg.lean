/-
  DERIVED: THE SHELF's CONTRACTS AT THIS DUMP, IN PLAIN WORDS (tools/lay-plain.mjs out of 'TryzShelf.lean', which tools/lay-shelf.mjs wrote): THE SAME DECLARATIONS UNDER THE SAME NAMES: 'import', 'namespace', 'open', 'def', 'theorem' AND NOTHING ELSE: no command of the shelf's: FOR A HAND-IN. Each laying: the table of numbers ('.._ren') and one theorem, a field a fact of the dump's own or the kernel's comparison; each contract: ONE APPLICATION.
-/
import Derived.Shelf.Strings.OnBuilder
import Derived.Shelf.Strings.BuilderF
import Derived.Shelf.Small.Strs
import Derived.Shelf.Small.Wraps
import Derived.Shelf.Strconv.Itoa0
import Derived.Shelf.Strconv.Itoa4
import Derived.Shelf.LaysM
import Derived.Shelf.Slices.Equal
import Derived.Shelf.Slices.Clone
import Derived.Shelf.Slices.Empties2
import Derived.Ground.Names2Prog
import Derived.Test.YtkljbfaemahchaaGreatDoorProg
import Derived.Shelf.Unicode.ValidAny
import Derived.Ground.NamesProg
import Derived.Shelf.Strings.BuilderK
import Derived.Shelf.Strings.Cut
import Derived.Shelf.Strings.Repeat
import Derived.Shelf.Strconv.AtoiAll
import Derived.Shelf.Spec.TrailingZeros
import Derived.Ground.Names7Prog
import Derived.Shelf.Strings.Prefix
import Derived.Shelf.Strings.Split
import Derived.Shelf.Strings.Search3
import Derived.Shelf.SlSortCmp.WholeK
import Derived.Ground.SlsfProg
namespace Go.Proofs
set_option linter.unusedVariables false
set_option linter.unusedSimpArgs false
open Go.Shelf
def Tryz.lays156_ren : Go.Shelf.Ren:=⟨fun | 156 => 90 | 165 => 154 | 166 => 106 | 169 => 108 | 240 => 174 | 241 => 232 | 276 => 264 | 277 => 320 | n => n,fun | 31 => 37 | 9 => 9 | 3 => 3 | 4 => 4 | 0 => 0 | 20 => 20 | 72 => 160 | 76 => 133 | 70 => 158 | 37 => 101 | 75 => 132 | 127 => 239 | 164 => 293 | 5 => 5 | 80 => 163 | n => n,fun | n => n⟩
theorem Tryz.lays156 : Go.Proofs.Lays.n156 Tryz.prog Tryz.lays156_ren:={
 mixed:=by kernel_rfl
 f156:=Tryz.func90.trans (congrArg some (by kernel_rfl))
 f165:=Tryz.func154.trans (congrArg some (by kernel_rfl))
 f166:=Tryz.func106.trans (congrArg some (by kernel_rfl))
 f169:=Tryz.func108.trans (congrArg some (by kernel_rfl))
 f240:=Tryz.func174.trans (congrArg some (by kernel_rfl))
 f241:=Tryz.func232.trans (congrArg some (by kernel_rfl))
 f276:=Tryz.func264.trans (congrArg some (by kernel_rfl))
 f277:=Tryz.func320.trans (congrArg some (by kernel_rfl))
 t0:=Tryz.underlying0
 a0:=Tryz.isAgg0
 z0:=Tryz.sizeOf0
 v0:=Tryz.zeroValue0
 t3:=Tryz.underlying3
 a3:=Tryz.isAgg3
 z3:=Tryz.sizeOf3
 v3:=Tryz.zeroValue3
 t4:=Tryz.underlying4
 a4:=Tryz.isAgg4
 z4:=Tryz.sizeOf4
 v4:=Tryz.zeroValue4
 t9:=Tryz.underlying9
 a9:=Tryz.isAgg9
 z9:=Tryz.sizeOf9
 v9:=Tryz.zeroValue9
 t20:=Tryz.underlying20
 a20:=Tryz.isAgg20
 z20:=Tryz.sizeOf20
 v20:=Tryz.zeroValue20
 t31:=Tryz.underlying37
 a31:=Tryz.isAgg37
 z31:=Tryz.sizeOf37
 v31:=Tryz.zeroValue37
 t37:=Tryz.underlying101
 a37:=Tryz.isAgg101
 z37:=Tryz.sizeOf101
 v37:=Tryz.zeroValue101
 t70:=Tryz.underlying158
 a70:=Tryz.isAgg158
 z70:=Tryz.sizeOf158
 v70:=Tryz.zeroValue158
 t72:=Tryz.underlying160
 a72:=Tryz.isAgg160
 z72:=Tryz.sizeOf160
 v72:=Tryz.zeroValue160
 t75:=Tryz.underlying132
 a75:=Tryz.isAgg132
 z75:=Tryz.sizeOf132
 v75:=Tryz.zeroValue132
 t76:=Tryz.underlying133
 a76:=Tryz.isAgg133
 z76:=Tryz.sizeOf133
 v76:=Tryz.zeroValue133
 t127:=Tryz.underlying239
 a127:=Tryz.isAgg239
 z127:=Tryz.sizeOf239
 v127:=Tryz.zeroValue239
 t164:=Tryz.underlying293
 a164:=Tryz.isAgg293
 z164:=Tryz.sizeOf293
 v164:=Tryz.zeroValue293 }
theorem Tryz.Builder_Extra_156 : Builder.Extra Tryz.prog Tryz.lays156_ren:={
 sizeBuilder:=by kernel_rfl
 liesBuilder:=by kernel_rfl
 t5:=Tryz.underlying5
 a5:=Tryz.isAgg5
 z5:=Tryz.sizeOf5
 v5:=Tryz.zeroValue5
 infoByte:=by kernel_rfl
 cellsByte:=by kernel_rfl
 sizeByte:=by kernel_rfl
 neB5:=by decide }
open Go.RowKit in
theorem Tryz.strings_Join_none (a : Option Addr) (c : Nat) (sep : ByteArray) (w : World) :
 Calls Tryz.prog 90 #[.slice a 0 c,.string sep] w fun e w' => e = .returned (.string ⟨#[]⟩) ∧ w' = w:=Any.strings_Join_none Tryz.lays156 Tryz.Builder_Extra_156 a c sep w
open Go.RowKit in
theorem Tryz.strings_Join (bk o c : Nat) (xs : List ByteArray) (sep : ByteArray) (w : World) (hcells : ∀ (j : Nat) x,xs[j]? = some x → w.cell? ⟨bk,o + j,none⟩ = some (.string x)) (hbk : bk < w.heap.size) (hN : xs.length ≤ 140737488355328) (hcap : xs.length ≤ c) (hlen : (Lib.join (xs.map (·.data.toList)) sep.data.toList).length ≤ 140737488355328) :
 Calls Tryz.prog 90 #[.slice (some ⟨bk,o,none⟩) xs.length c,.string sep] w fun e w' => e = .returned (.string ⟨(Lib.join (xs.map (·.data.toList)) sep.data.toList).toArray⟩) ∧ Below w.heap.size w w':=Any.strings_Join Tryz.lays156 Tryz.Builder_Extra_156 bk o c xs sep w hcells hbk hN hcap hlen
def Tryz.lays106_ren : Go.Shelf.Ren:=⟨fun | 106 => 125 | 213 => 197 | 265 => 278 | n => n,fun | 9 => 9 | 3 => 3 | n => n,fun | n => n⟩
theorem Tryz.lays106 : Go.Proofs.Lays.n106 Tryz.prog Tryz.lays106_ren:={
 mixed:=by kernel_rfl
 f106:=Tryz.func125.trans (congrArg some (by kernel_rfl))
 f213:=Tryz.func197.trans (congrArg some (by kernel_rfl))
 f265:=Tryz.func278.trans (congrArg some (by kernel_rfl))
 t3:=Tryz.underlying3
 a3:=Tryz.isAgg3
 z3:=Tryz.sizeOf3
 v3:=Tryz.zeroValue3
 t9:=Tryz.underlying9
 a9:=Tryz.isAgg9
 z9:=Tryz.sizeOf9
 v9:=Tryz.zeroValue9 }
open Go.RowKit in
theorem Tryz.strings_Compare (a b : ByteArray) (w : World) :
 Calls Tryz.prog 125 #[.string a,.string b] w fun e w' => e = .returned (.int .i64 (Lib.compareBytes a.data.toList b.data.toList)) ∧ w' = w:=Any.strings_Compare Tryz.lays106 a b w
def Tryz.lays122_ren : Go.Shelf.Ren:=⟨fun | 122 => 139 | 215 => 221 | n => n,fun | 3 => 3 | 4 => 4 | n => n,fun | n => n⟩
theorem Tryz.lays122 : Go.Proofs.Lays.n122 Tryz.prog Tryz.lays122_ren:={
 mixed:=by kernel_rfl
 f122:=Tryz.func139.trans (congrArg some (by kernel_rfl))
 f215:=Tryz.func221.trans (congrArg some (by kernel_rfl))
 t3:=Tryz.underlying3
 a3:=Tryz.isAgg3
 z3:=Tryz.sizeOf3
 v3:=Tryz.zeroValue3
 t4:=Tryz.underlying4
 a4:=Tryz.isAgg4
 z4:=Tryz.sizeOf4
 v4:=Tryz.zeroValue4 }
open Go.RowKit in
theorem Tryz.cmp_Compare_int (x y : Int) (w : World) :
 Calls Tryz.prog 139 #[.int .i64 x,.int .i64 y] w fun e w' => e = .returned (.int .i64 (Lib.compareInt x y)) ∧ w' = w:=Any.cmp_Compare_int Tryz.lays122 x y w
def Tryz.laysM171_ren : Go.Shelf.Ren:=⟨fun | 171 => 64 | 243 => 128 | 246 => 199 | 283 => 283 | 284 => 284 | 285 => 285 | 286 => 286 | 129 => 210 | 317 => 337 | 318 => 338 | 319 => 339 | 320 => 340 | 337 => 361 | 338 => 362 | n => n,fun | 3 => 3 | 9 => 9 | 2 => 2 | 4 => 4 | 171 => 307 | 0 => 0 | 53 => 263 | 37 => 101 | 5 => 5 | 173 => 309 | 212 => 348 | 51 => 261 | 20 => 20 | 213 => 349 | 46 => 196 | 232 => 377 | 233 => 378 | n => n,fun | 17 => 5 | 18 => 6 | 19 => 7 | n => n⟩
theorem Tryz.laysM171 : Go.Proofs.LaysM.n171 Tryz.prog Tryz.laysM171_ren:={
 mixed:=by kernel_rfl
 f129:=Tryz.func210.trans (congrArg some (by kernel_rfl))
 f171:=Tryz.func64.trans (congrArg some (by kernel_rfl))
 f243:=Tryz.func128.trans (congrArg some (by kernel_rfl))
 f246:=Tryz.func199.trans (congrArg some (by kernel_rfl))
 f283:=Tryz.func283.trans (congrArg some (by kernel_rfl))
 f284:=Tryz.func284.trans (congrArg some (by kernel_rfl))
 f285:=Tryz.func285.trans (congrArg some (by kernel_rfl))
 f286:=Tryz.func286.trans (congrArg some (by kernel_rfl))
 f317:=Tryz.func337.trans (congrArg some (by kernel_rfl))
 f318:=Tryz.func338.trans (congrArg some (by kernel_rfl))
 f319:=Tryz.func339.trans (congrArg some (by kernel_rfl))
 f320:=Tryz.func340.trans (congrArg some (by kernel_rfl))
 f337:=Tryz.func361.trans (congrArg some (by kernel_rfl))
 f338:=Tryz.func362.trans (congrArg some (by kernel_rfl))
 t0:=Tryz.underlying0
 a0:=Tryz.isAgg0
 z0:=Tryz.sizeOf0
 v0:=Tryz.zeroValue0
 t2:=Tryz.underlying2
 a2:=Tryz.isAgg2
 z2:=Tryz.sizeOf2
 v2:=Tryz.zeroValue2
 t3:=Tryz.underlying3
 a3:=Tryz.isAgg3
 z3:=Tryz.sizeOf3
 v3:=Tryz.zeroValue3
 t4:=Tryz.underlying4
 a4:=Tryz.isAgg4
 z4:=Tryz.sizeOf4
 v4:=Tryz.zeroValue4
 t5:=Tryz.underlying5
 a5:=Tryz.isAgg5
 z5:=Tryz.sizeOf5
 v5:=Tryz.zeroValue5
 t9:=Tryz.underlying9
 a9:=Tryz.isAgg9
 z9:=Tryz.sizeOf9
 v9:=Tryz.zeroValue9
 t20:=Tryz.underlying20
 a20:=Tryz.isAgg20
 z20:=Tryz.sizeOf20
 v20:=Tryz.zeroValue20
 t37:=Tryz.underlying101
 a37:=Tryz.isAgg101
 z37:=Tryz.sizeOf101
 v37:=Tryz.zeroValue101
 t46:=Tryz.underlying196
 a46:=Tryz.isAgg196
 z46:=Tryz.sizeOf196
 v46:=Tryz.zeroValue196
 t51:=Tryz.underlying261
 a51:=Tryz.isAgg261
 z51:=Tryz.sizeOf261
 v51:=Tryz.zeroValue261
 t53:=Tryz.underlying263
 a53:=Tryz.isAgg263
 z53:=Tryz.sizeOf263
 v53:=Tryz.zeroValue263
 t171:=Tryz.underlying307
 a171:=Tryz.isAgg307
 z171:=Tryz.sizeOf307
 v171:=Tryz.zeroValue307
 t173:=Tryz.underlying309
 a173:=Tryz.isAgg309
 z173:=Tryz.sizeOf309
 v173:=Tryz.zeroValue309
 t212:=Tryz.underlying348
 a212:=Tryz.isAgg348
 z212:=Tryz.sizeOf348
 v212:=Tryz.zeroValue348
 t213:=Tryz.underlying349
 a213:=Tryz.isAgg349
 z213:=Tryz.sizeOf349
 t232:=Tryz.underlying377
 a232:=Tryz.isAgg377
 z232:=Tryz.sizeOf377
 v232:=Tryz.zeroValue377
 t233:=Tryz.underlying378
 a233:=Tryz.isAgg378
 z233:=Tryz.sizeOf378
 v233:=Tryz.zeroValue378
 g17:=by kernel_rfl
 g18:=by kernel_rfl
 g19:=by kernel_rfl
 i0:=by kernel_rfl
 i2:=by kernel_rfl
 i3:=by kernel_rfl
 i4:=by kernel_rfl
 i5:=by kernel_rfl
 i9:=by kernel_rfl
 i20:=by kernel_rfl
 i37:=by kernel_rfl
 i46:=by kernel_rfl
 i51:=by kernel_rfl
 i53:=by kernel_rfl
 i171:=by kernel_rfl
 i173:=by kernel_rfl
 i212:=by kernel_rfl
 i232:=by kernel_rfl
 i233:=by kernel_rfl
 m17:=by kernel_rfl
 m18:=by kernel_rfl
 m19:=by kernel_rfl }
open Go.RowKit Go.Sort Go.Lib in
theorem Tryz.strconv_Itoa (n : Int) (h0 : -9223372036854775808 ≤ n) (h1 : n ≤ 9223372036854775807) (w : World) (htab : Lib.TabIs Tryz.prog w "internal/strconv.uint64pow10" .u64 Lib.pow10Tab) :
 Calls Tryz.prog 64 #[.int .i64 n] w fun e w' => e = .returned (.string ⟨(Lib.itoa n).toArray⟩) ∧ ∃ k os,w' = grow (w.drewN k) os:=Any.strconv_Itoa Tryz.laysM171 n h0 h1 w htab
def Tryz.lays171_ren : Go.Shelf.Ren:=⟨fun | 171 => 64 | 243 => 128 | 246 => 199 | 283 => 283 | 284 => 284 | 285 => 285 | 286 => 286 | 129 => 210 | 317 => 337 | 318 => 338 | 319 => 339 | 320 => 340 | 337 => 361 | 338 => 362 | n => n,fun | 3 => 3 | 9 => 9 | 2 => 2 | 4 => 4 | 171 => 307 | 0 => 0 | 53 => 263 | 37 => 101 | 5 => 5 | 173 => 309 | 212 => 348 | 51 => 261 | 20 => 20 | 213 => 349 | 46 => 196 | 232 => 377 | 233 => 378 | n => n,fun | 17 => 5 | 18 => 6 | 19 => 7 | n => n⟩
theorem Tryz.lays171 : Go.Proofs.Lays.n171 Tryz.prog Tryz.lays171_ren:={
 mixed:=by kernel_rfl
 f129:=Tryz.func210.trans (congrArg some (by kernel_rfl))
 f171:=Tryz.func64.trans (congrArg some (by kernel_rfl))
 f243:=Tryz.func128.trans (congrArg some (by kernel_rfl))
 f246:=Tryz.func199.trans (congrArg some (by kernel_rfl))
 f283:=Tryz.func283.trans (congrArg some (by kernel_rfl))
 f284:=Tryz.func284.trans (congrArg some (by kernel_rfl))
 f285:=Tryz.func285.trans (congrArg some (by kernel_rfl))
 f286:=Tryz.func286.trans (congrArg some (by kernel_rfl))
 f317:=Tryz.func337.trans (congrArg some (by kernel_rfl))
 f318:=Tryz.func338.trans (congrArg some (by kernel_rfl))
 f319:=Tryz.func339.trans (congrArg some (by kernel_rfl))
 f320:=Tryz.func340.trans (congrArg some (by kernel_rfl))
 f337:=Tryz.func361.trans (congrArg some (by kernel_rfl))
 f338:=Tryz.func362.trans (congrArg some (by kernel_rfl))
 t0:=Tryz.underlying0
 a0:=Tryz.isAgg0
 z0:=Tryz.sizeOf0
 v0:=Tryz.zeroValue0
 t2:=Tryz.underlying2
 a2:=Tryz.isAgg2
 z2:=Tryz.sizeOf2
 v2:=Tryz.zeroValue2
 t3:=Tryz.underlying3
 a3:=Tryz.isAgg3
 z3:=Tryz.sizeOf3
 v3:=Tryz.zeroValue3
 t4:=Tryz.underlying4
 a4:=Tryz.isAgg4
 z4:=Tryz.sizeOf4
 v4:=Tryz.zeroValue4
 t5:=Tryz.underlying5
 a5:=Tryz.isAgg5
 z5:=Tryz.sizeOf5
 v5:=Tryz.zeroValue5
 t9:=Tryz.underlying9
 a9:=Tryz.isAgg9
 z9:=Tryz.sizeOf9
 v9:=Tryz.zeroValue9
 t20:=Tryz.underlying20
 a20:=Tryz.isAgg20
 z20:=Tryz.sizeOf20
 v20:=Tryz.zeroValue20
 t37:=Tryz.underlying101
 a37:=Tryz.isAgg101
 z37:=Tryz.sizeOf101
 v37:=Tryz.zeroValue101
 t46:=Tryz.underlying196
 a46:=Tryz.isAgg196
 z46:=Tryz.sizeOf196
 v46:=Tryz.zeroValue196
 t51:=Tryz.underlying261
 a51:=Tryz.isAgg261
 z51:=Tryz.sizeOf261
 v51:=Tryz.zeroValue261
 t53:=Tryz.underlying263
 a53:=Tryz.isAgg263
 z53:=Tryz.sizeOf263
 v53:=Tryz.zeroValue263
 t171:=Tryz.underlying307
 a171:=Tryz.isAgg307
 z171:=Tryz.sizeOf307
 v171:=Tryz.zeroValue307
 t173:=Tryz.underlying309
 a173:=Tryz.isAgg309
 z173:=Tryz.sizeOf309
 v173:=Tryz.zeroValue309
 t212:=Tryz.underlying348
 a212:=Tryz.isAgg348
 z212:=Tryz.sizeOf348
 v212:=Tryz.zeroValue348
 t213:=Tryz.underlying349
 a213:=Tryz.isAgg349
 z213:=Tryz.sizeOf349
 t232:=Tryz.underlying377
 a232:=Tryz.isAgg377
 z232:=Tryz.sizeOf377
 v232:=Tryz.zeroValue377
 t233:=Tryz.underlying378
 a233:=Tryz.isAgg378
 z233:=Tryz.sizeOf378
 v233:=Tryz.zeroValue378
 g17:=by kernel_rfl
 g18:=by kernel_rfl
 g19:=by kernel_rfl }
open Go.RowKit Go.Sort Go.Lib in
theorem Tryz.strconv_Itoa_small (i : Nat) (hi : i < 100) (w : World) :
 Calls Tryz.prog 64 #[.int .i64 i] w fun e w' => e = .returned (.string ⟨(Lib.decDigits i).toArray⟩) ∧ w' = w:=Any.strconv_Itoa_small Tryz.lays171 i hi w
def Tryz.laysNm215_ren : Go.Shelf.Ren:=⟨fun | 15 => 231 | n => n,fun | 22 => 62 | 3 => 3 | 4 => 4 | n => n,fun | n => n⟩
theorem Tryz.laysNm215 : Go.Proofs.Lays2.n15 Tryz.prog Tryz.laysNm215_ren:={
 mixed:=by kernel_rfl
 f15:=Tryz.func231.trans (congrArg some (by kernel_rfl))
 t3:=Tryz.underlying3
 a3:=Tryz.isAgg3
 z3:=Tryz.sizeOf3
 v3:=Tryz.zeroValue3
 t4:=Tryz.underlying4
 a4:=Tryz.isAgg4
 z4:=Tryz.sizeOf4
 v4:=Tryz.zeroValue4
 t22:=Tryz.underlying62
 a22:=Tryz.isAgg62
 z22:=Tryz.sizeOf62
 v22:=Tryz.zeroValue62
 i3:=by kernel_rfl }
open Go.RowKit Go.Lib in
theorem Tryz.slices_Clone_int (b off n c : Nat) (zs : List Int) (w : World) (hz : n ≤ zs.length) (hbig : n * 8 ≤ 140737488355328) (hc : ∀ j,j < zs.length → w.cell? ⟨b,off + j,none⟩ = some (.int .i64 (zs.getD j 0))) :
 Calls Tryz.prog 231 #[.slice (some ⟨b,off,none⟩) n c] w fun e w' => ∃ v',e = .returned v' ∧ w'.ownsRow w.heap.size 3 1 v' n ((zs.take n).map (Value.int .i64)) ∧ v' ≠ .slice none 0 0 ∧ Below w.heap.size w w':=Any.slices_Clone_int Tryz.laysNm215 b off n c zs w hz hbig hc
open Go.RowKit Go.Lib in
theorem Tryz.slices_Clone_int_nil (n c : Nat) (w : World) :
 Calls Tryz.prog 231 #[.slice none n c] w fun e w' => e = .returned (.slice none 0 0) ∧ w' = w:=Any.slices_Clone_int_nil Tryz.laysNm215 n c w
open Go.RowKit Go.Lib in
theorem Tryz.slices_Clone_int_zero (a : Addr) (c : Nat) (w : World) :
 Calls Tryz.prog 231 #[.slice (some a) 0 c] w fun e w' => ∃ v',e = .returned v' ∧ w'.ownsRow w.heap.size 3 1 v' 0 [] ∧ v' ≠ .slice none 0 0 ∧ Below w.heap.size w w':=Any.slices_Clone_int_zero Tryz.laysNm215 a c w
end Go.Proofs

namespace Go.Proofs
open Go.Shelf
def Tryz.laysValid_ren : Go.Shelf.Ren:=⟨fun | 196 => 243 | 259 => 322 | n => n,fun | 9 => 9 | 4 => 4 | 3 => 3 | 5 => 5 | 12 => 12 | 119 => 335 | 0 => 0 | 46 => 196 | 139 => 338 | 138 => 337 | 53 => 263 | n => n,fun | 3 => 3 | 4 => 4 | n => n⟩
theorem Tryz.laysValid : Go.Proofs.Lays.n196 Tryz.prog Tryz.laysValid_ren:={
 mixed:=by kernel_rfl
 f196:=Tryz.func243.trans (congrArg some (by kernel_rfl))
 f259:=Tryz.func322.trans (congrArg some (by kernel_rfl))
 t0:=Tryz.underlying0
 a0:=Tryz.isAgg0
 z0:=Tryz.sizeOf0
 v0:=Tryz.zeroValue0
 t3:=Tryz.underlying3
 a3:=Tryz.isAgg3
 z3:=Tryz.sizeOf3
 v3:=Tryz.zeroValue3
 t4:=Tryz.underlying4
 a4:=Tryz.isAgg4
 z4:=Tryz.sizeOf4
 v4:=Tryz.zeroValue4
 t5:=Tryz.underlying5
 a5:=Tryz.isAgg5
 z5:=Tryz.sizeOf5
 v5:=Tryz.zeroValue5
 t9:=Tryz.underlying9
 a9:=Tryz.isAgg9
 z9:=Tryz.sizeOf9
 v9:=Tryz.zeroValue9
 t12:=Tryz.underlying12
 a12:=Tryz.isAgg12
 z12:=Tryz.sizeOf12
 v12:=Tryz.zeroValue12
 t46:=Tryz.underlying196
 a46:=Tryz.isAgg196
 z46:=Tryz.sizeOf196
 v46:=Tryz.zeroValue196
 t53:=Tryz.underlying263
 a53:=Tryz.isAgg263
 z53:=Tryz.sizeOf263
 v53:=Tryz.zeroValue263
 t119:=Tryz.underlying335
 a119:=Tryz.isAgg335
 z119:=Tryz.sizeOf335
 t138:=Tryz.underlying337
 a138:=Tryz.isAgg337
 z138:=Tryz.sizeOf337
 v138:=Tryz.zeroValue337
 t139:=Tryz.underlying338
 a139:=Tryz.isAgg338
 z139:=Tryz.sizeOf338
 v139:=Tryz.zeroValue338
 g3:=by kernel_rfl
 g4:=by kernel_rfl }
open Go.RowKit Go.Lib in
theorem Tryz.utf8_ValidString (s : ByteArray) (w : World) (hs : s.size ≤ 9223372036854775807) (hT : Lib.Utf8Tabs (Tryz.laysValid_ren.g 3) (Tryz.laysValid_ren.g 4) w) :
 Calls Tryz.prog 243 #[.string s] w fun e w' => e = .returned (.bool (Lib.validD s.data.toList)) ∧ Below w.heap.size w w':=Any.utf8_ValidString Tryz.laysValid s w hs hT
end Go.Proofs

namespace Go.Proofs
open Go.Shelf
def Tryz.lays169_ren : Go.Shelf.Ren:=⟨fun | 169 => 108 | n => n,fun | 70 => 158 | 9 => 9 | 0 => 0 | 72 => 160 | 37 => 101 | 127 => 239 | 3 => 3 | 5 => 5 | n => n,fun | n => n⟩
theorem Tryz.lays169 : Go.Proofs.Lays.n169 Tryz.prog Tryz.lays169_ren:={
 mixed:=by kernel_rfl
 f169:=Tryz.func108.trans (congrArg some (by kernel_rfl))
 t0:=Tryz.underlying0
 a0:=Tryz.isAgg0
 z0:=Tryz.sizeOf0
 v0:=Tryz.zeroValue0
 t3:=Tryz.underlying3
 a3:=Tryz.isAgg3
 z3:=Tryz.sizeOf3
 v3:=Tryz.zeroValue3
 t9:=Tryz.underlying9
 a9:=Tryz.isAgg9
 z9:=Tryz.sizeOf9
 v9:=Tryz.zeroValue9
 t37:=Tryz.underlying101
 a37:=Tryz.isAgg101
 z37:=Tryz.sizeOf101
 v37:=Tryz.zeroValue101
 t70:=Tryz.underlying158
 a70:=Tryz.isAgg158
 z70:=Tryz.sizeOf158
 v70:=Tryz.zeroValue158
 t72:=Tryz.underlying160
 a72:=Tryz.isAgg160
 z72:=Tryz.sizeOf160
 v72:=Tryz.zeroValue160
 t127:=Tryz.underlying239
 a127:=Tryz.isAgg239
 z127:=Tryz.sizeOf239
 v127:=Tryz.zeroValue239 }
theorem Tryz.Builder_Extra_169 : Builder.Extra Tryz.prog Tryz.lays169_ren:={
 sizeBuilder:=by kernel_rfl
 liesBuilder:=by kernel_rfl
 t5:=Tryz.underlying5
 a5:=Tryz.isAgg5
 z5:=Tryz.sizeOf5
 v5:=Tryz.zeroValue5
 infoByte:=by kernel_rfl
 cellsByte:=by kernel_rfl
 sizeByte:=by kernel_rfl
 neB5:=by decide }
open Go.RowKit in
theorem Tryz.Builder_String_any_k (B b : Nat) (l : List UInt8) (w : World) (h : Lib.IsBuilderF 160 5 B b (Lib.byteCells l) w) (hBw : B ≤ w.heap.size) :
 Calls Tryz.prog 108 #[.pointer (some ⟨b,0,none⟩)] w fun e w' => e = .returned (.string ⟨l.toArray⟩) ∧ (Lib.IsBuilderF 160 5 B b (Lib.byteCells l) w' ∧ Below B w w' ∧ Lib.OthersKept 5 (some b) w w'):=Any.Builder_String_any_k Tryz.lays169 Tryz.Builder_Extra_169 B b l w h hBw
end Go.Proofs

namespace Go.Proofs
open Go.Shelf
def Tryz.lays145_ren : Go.Shelf.Ren:=⟨fun | 145 => 61 | 220 => 127 | 219 => 198 | 217 => 279 | 225 => 280 | 224 => 281 | 267 => 282 | 266 => 335 | 314 => 336 | n => n,fun | 9 => 9 | 4 => 4 | 59 => 96 | 3 => 3 | 5 => 5 | 46 => 196 | 146 => 345 | 51 => 261 | n => n,fun | 1 => 0 | n => n⟩
theorem Tryz.lays145 : Go.Proofs.Lays.n145 Tryz.prog Tryz.lays145_ren:={
 mixed:=by kernel_rfl
 f145:=Tryz.func61.trans (congrArg some (by kernel_rfl))
 f217:=Tryz.func279.trans (congrArg some (by kernel_rfl))
 f219:=Tryz.func198.trans (congrArg some (by kernel_rfl))
 f220:=Tryz.func127.trans (congrArg some (by kernel_rfl))
 f224:=Tryz.func281.trans (congrArg some (by kernel_rfl))
 f225:=Tryz.func280.trans (congrArg some (by kernel_rfl))
 f266:=Tryz.func335.trans (congrArg some (by kernel_rfl))
 f267:=Tryz.func282.trans (congrArg some (by kernel_rfl))
 f314:=Tryz.func336.trans (congrArg some (by kernel_rfl))
 t3:=Tryz.underlying3
 a3:=Tryz.isAgg3
 z3:=Tryz.sizeOf3
 v3:=Tryz.zeroValue3
 t4:=Tryz.underlying4
 a4:=Tryz.isAgg4
 z4:=Tryz.sizeOf4
 v4:=Tryz.zeroValue4
 t5:=Tryz.underlying5
 a5:=Tryz.isAgg5
 z5:=Tryz.sizeOf5
 v5:=Tryz.zeroValue5
 t9:=Tryz.underlying9
 a9:=Tryz.isAgg9
 z9:=Tryz.sizeOf9
 v9:=Tryz.zeroValue9
 t46:=Tryz.underlying196
 a46:=Tryz.isAgg196
 z46:=Tryz.sizeOf196
 v46:=Tryz.zeroValue196
 t51:=Tryz.underlying261
 a51:=Tryz.isAgg261
 z51:=Tryz.sizeOf261
 v51:=Tryz.zeroValue261
 t59:=Tryz.underlying96
 a59:=Tryz.isAgg96
 z59:=Tryz.sizeOf96
 v59:=Tryz.zeroValue96
 t146:=Tryz.underlying345
 a146:=Tryz.isAgg345
 z146:=Tryz.sizeOf345
 v146:=Tryz.zeroValue345
 g1:=by kernel_rfl }
open Go.RowKit Go.Lib in
theorem Tryz.strings_Cut (s sep : ByteArray) (m : Int) (w : World) (hs : s.size < 4294967281) (hm : w.cell? ⟨0,0,none⟩ = some (.int .i64 m)) :
 Calls Tryz.prog 61 #[.string s,.string sep] w fun e w' => e = .returned (.tuple #[.string ⟨(Lib.cut s.data.toList sep.data.toList).1.toArray⟩,.string ⟨(Lib.cut s.data.toList sep.data.toList).2.1.toArray⟩,.bool (Lib.cut s.data.toList sep.data.toList).2.2]) ∧ ∃ n,w' = w.drewN n:=Any.strings_Cut Tryz.lays145 s sep m w hs hm
def Tryz.lays121_ren : Go.Shelf.Ren:=⟨fun | 121 => 160 | 214 => 251 | n => n,fun | 4 => 4 | 9 => 9 | n => n,fun | n => n⟩
theorem Tryz.lays121 : Go.Proofs.Lays.n121 Tryz.prog Tryz.lays121_ren:={
 mixed:=by kernel_rfl
 f121:=Tryz.func160.trans (congrArg some (by kernel_rfl))
 f214:=Tryz.func251.trans (congrArg some (by kernel_rfl))
 t4:=Tryz.underlying4
 a4:=Tryz.isAgg4
 z4:=Tryz.sizeOf4
 v4:=Tryz.zeroValue4
 t9:=Tryz.underlying9
 a9:=Tryz.isAgg9
 z9:=Tryz.sizeOf9
 v9:=Tryz.zeroValue9 }
open Go.RowKit Go.Lib in
theorem Tryz.strconv_FormatBool (b : Bool) (w : World) :
 Calls Tryz.prog 160 #[.bool b] w fun e w' => e = .returned (.string ⟨(Lib.formatBool b).toArray⟩) ∧ w' = w:=Any.strconv_FormatBool Tryz.lays121 b w
def Tryz.lays105_ren : Go.Shelf.Ren:=⟨fun | 105 => 325 | 212 => 357 | 99 => 299 | 165 => 154 | 166 => 106 | 170 => 358 | 169 => 108 | 263 => 367 | 264 => 368 | 206 => 345 | 240 => 174 | 241 => 232 | 276 => 264 | 277 => 320 | n => n,fun | 9 => 9 | 3 => 3 | 4 => 4 | 20 => 20 | 0 => 0 | 46 => 196 | 109 => 370 | 5 => 5 | 72 => 160 | 76 => 133 | 51 => 261 | 146 => 345 | 53 => 263 | 148 => 375 | 70 => 158 | 37 => 101 | 75 => 132 | 127 => 239 | 164 => 293 | 80 => 163 | n => n,fun | n => n⟩
theorem Tryz.lays105 : Go.Proofs.Lays.n105 Tryz.prog Tryz.lays105_ren:={
 mixed:=by kernel_rfl
 f99:=Tryz.func299.trans (congrArg some (by kernel_rfl))
 f105:=Tryz.func325.trans (congrArg some (by kernel_rfl))
 f165:=Tryz.func154.trans (congrArg some (by kernel_rfl))
 f166:=Tryz.func106.trans (congrArg some (by kernel_rfl))
 f169:=Tryz.func108.trans (congrArg some (by kernel_rfl))
 f170:=Tryz.func358.trans (congrArg some (by kernel_rfl))
 f206:=Tryz.func345.trans (congrArg some (by kernel_rfl))
 f212:=Tryz.func357.trans (congrArg some (by kernel_rfl))
 f240:=Tryz.func174.trans (congrArg some (by kernel_rfl))
 f241:=Tryz.func232.trans (congrArg some (by kernel_rfl))
 f263:=Tryz.func367.trans (congrArg some (by kernel_rfl))
 f264:=Tryz.func368.trans (congrArg some (by kernel_rfl))
 f276:=Tryz.func264.trans (congrArg some (by kernel_rfl))
 f277:=Tryz.func320.trans (congrArg some (by kernel_rfl))
 t0:=Tryz.underlying0
 a0:=Tryz.isAgg0
 z0:=Tryz.sizeOf0
 v0:=Tryz.zeroValue0
 t3:=Tryz.underlying3
 a3:=Tryz.isAgg3
 z3:=Tryz.sizeOf3
 v3:=Tryz.zeroValue3
 t4:=Tryz.underlying4
 a4:=Tryz.isAgg4
 z4:=Tryz.sizeOf4
 v4:=Tryz.zeroValue4
 t5:=Tryz.underlying5
 a5:=Tryz.isAgg5
 z5:=Tryz.sizeOf5
 v5:=Tryz.zeroValue5
 t9:=Tryz.underlying9
 a9:=Tryz.isAgg9
 z9:=Tryz.sizeOf9
 v9:=Tryz.zeroValue9
 t20:=Tryz.underlying20
 a20:=Tryz.isAgg20
 z20:=Tryz.sizeOf20
 v20:=Tryz.zeroValue20
 t37:=Tryz.underlying101
 a37:=Tryz.isAgg101
 z37:=Tryz.sizeOf101
 v37:=Tryz.zeroValue101
 t46:=Tryz.underlying196
 a46:=Tryz.isAgg196
 z46:=Tryz.sizeOf196
 v46:=Tryz.zeroValue196
 t51:=Tryz.underlying261
 a51:=Tryz.isAgg261
 z51:=Tryz.sizeOf261
 v51:=Tryz.zeroValue261
 t53:=Tryz.underlying263
 a53:=Tryz.isAgg263
 z53:=Tryz.sizeOf263
 v53:=Tryz.zeroValue263
 t70:=Tryz.underlying158
 a70:=Tryz.isAgg158
 z70:=Tryz.sizeOf158
 v70:=Tryz.zeroValue158
 t72:=Tryz.underlying160
 a72:=Tryz.isAgg160
 z72:=Tryz.sizeOf160
 v72:=Tryz.zeroValue160
 t75:=Tryz.underlying132
 a75:=Tryz.isAgg132
 z75:=Tryz.sizeOf132
 v75:=Tryz.zeroValue132
 t76:=Tryz.underlying133
 a76:=Tryz.isAgg133
 z76:=Tryz.sizeOf133
 v76:=Tryz.zeroValue133
 t109:=Tryz.underlying370
 a109:=Tryz.isAgg370
 z109:=Tryz.sizeOf370
 v109:=Tryz.zeroValue370
 t127:=Tryz.underlying239
 a127:=Tryz.isAgg239
 z127:=Tryz.sizeOf239
 v127:=Tryz.zeroValue239
 t146:=Tryz.underlying345
 a146:=Tryz.isAgg345
 z146:=Tryz.sizeOf345
 v146:=Tryz.zeroValue345
 t148:=Tryz.underlying375
 a148:=Tryz.isAgg375
 z148:=Tryz.sizeOf375
 v148:=Tryz.zeroValue375
 t164:=Tryz.underlying293
 a164:=Tryz.isAgg293
 z164:=Tryz.sizeOf293
 v164:=Tryz.zeroValue293 }
theorem Tryz.Builder_Extra_105 : Builder.Extra Tryz.prog Tryz.lays105_ren:={
 sizeBuilder:=by kernel_rfl
 liesBuilder:=by kernel_rfl
 t5:=Tryz.underlying5
 a5:=Tryz.isAgg5
 z5:=Tryz.sizeOf5
 v5:=Tryz.zeroValue5
 infoByte:=by kernel_rfl
 cellsByte:=by kernel_rfl
 sizeByte:=by kernel_rfl
 neB5:=by decide }
open Go.RowKit Go.Lib in
theorem Tryz.strings_Repeat (s : ByteArray) (c : Nat) (w : World) (hc : c ≤ 9223372036854775807) (hlen : s.size * c ≤ 140737488355328) :
 Calls Tryz.prog 325 #[.string s,.int .i64 c] w fun e w' => e = .returned (.string ⟨(Lib.repeatL s.data.toList c).toArray⟩) ∧ Below w.heap.size w w':=Any.strings_Repeat Tryz.lays105 Tryz.Builder_Extra_105 s c w hc hlen
def Tryz.laysC172_ren : Go.Shelf.Ren:=⟨fun | 172 => 84 | 244 => 145 | 245 => 146 | 247 => 223 | 279 => 224 | 280 => 225 | 281 => 226 | 282 => 227 | 287 => 316 | 316 => 317 | 171 => 64 | 205 => 318 | 321 => 355 | 322 => 356 | 243 => 128 | 246 => 199 | 283 => 283 | 284 => 284 | 285 => 285 | 286 => 286 | 129 => 210 | 317 => 337 | 318 => 338 | 319 => 339 | 320 => 340 | 337 => 361 | 338 => 362 | n => n,fun | 9 => 9 | 3 => 3 | 75 => 132 | 76 => 133 | 4 => 4 | 5 => 5 | 167 => 270 | 37 => 101 | 0 => 0 | 85 => 271 | 2 => 2 | 168 => 273 | 53 => 263 | 175 => 325 | 46 => 196 | 210 => 328 | 127 => 239 | 145 => 369 | 143 => 367 | 21 => 21 | 171 => 307 | 173 => 309 | 212 => 348 | 51 => 261 | 20 => 20 | 213 => 349 | 232 => 377 | 233 => 378 | 80 => 163 | n => n,fun | 15 => 1 | 16 => 2 | 17 => 5 | 18 => 6 | 19 => 7 | n => n⟩
theorem Tryz.laysC172 : Go.Proofs.LaysC.n172 Tryz.prog Tryz.laysC172_ren:={
 mixed:=by kernel_rfl
 f129:=Tryz.func210.trans (congrArg some (by kernel_rfl))
 f171:=Tryz.func64.trans (congrArg some (by kernel_rfl))
 f172:=Tryz.func84.trans (congrArg some (by kernel_rfl))
 f205:=Tryz.func318.trans (congrArg some (by kernel_rfl))
 f243:=Tryz.func128.trans (congrArg some (by kernel_rfl))
 f244:=Tryz.func145.trans (congrArg some (by kernel_rfl))
 f245:=Tryz.func146.trans (congrArg some (by kernel_rfl))
 f246:=Tryz.func199.trans (congrArg some (by kernel_rfl))
 f247:=Tryz.func223.trans (congrArg some (by kernel_rfl))
 f279:=Tryz.func224.trans (congrArg some (by kernel_rfl))
 f280:=Tryz.func225.trans (congrArg some (by kernel_rfl))
 f281:=Tryz.func226.trans (congrArg some (by kernel_rfl))
 f282:=Tryz.func227.trans (congrArg some (by kernel_rfl))
 f283:=Tryz.func283.trans (congrArg some (by kernel_rfl))
 f284:=Tryz.func284.trans (congrArg some (by kernel_rfl))
 f285:=Tryz.func285.trans (congrArg some (by kernel_rfl))
 f286:=Tryz.func286.trans (congrArg some (by kernel_rfl))
 f287:=Tryz.func316.trans (congrArg some (by kernel_rfl))
 f316:=Tryz.func317.trans (congrArg some (by kernel_rfl))
 f317:=Tryz.func337.trans (congrArg some (by kernel_rfl))
 f318:=Tryz.func338.trans (congrArg some (by kernel_rfl))
 f319:=Tryz.func339.trans (congrArg some (by kernel_rfl))
 f320:=Tryz.func340.trans (congrArg some (by kernel_rfl))
 f321:=Tryz.func355.trans (congrArg some (by kernel_rfl))
 f322:=Tryz.func356.trans (congrArg some (by kernel_rfl))
 f337:=Tryz.func361.trans (congrArg some (by kernel_rfl))
 f338:=Tryz.func362.trans (congrArg some (by kernel_rfl))
 t0:=Tryz.underlying0
 a0:=Tryz.isAgg0
 z0:=Tryz.sizeOf0
 v0:=Tryz.zeroValue0
 t2:=Tryz.underlying2
 a2:=Tryz.isAgg2
 z2:=Tryz.sizeOf2
 v2:=Tryz.zeroValue2
 t3:=Tryz.underlying3
 a3:=Tryz.isAgg3
 z3:=Tryz.sizeOf3
 v3:=Tryz.zeroValue3
 t4:=Tryz.underlying4
 a4:=Tryz.isAgg4
 z4:=Tryz.sizeOf4
 v4:=Tryz.zeroValue4
 t5:=Tryz.underlying5
 a5:=Tryz.isAgg5
 z5:=Tryz.sizeOf5
 v5:=Tryz.zeroValue5
 t9:=Tryz.underlying9
 a9:=Tryz.isAgg9
 z9:=Tryz.sizeOf9
 v9:=Tryz.zeroValue9
 t20:=Tryz.underlying20
 a20:=Tryz.isAgg20
 z20:=Tryz.sizeOf20
 v20:=Tryz.zeroValue20
 t21:=Tryz.underlying21
 a21:=Tryz.isAgg21
 z21:=Tryz.sizeOf21
 v21:=Tryz.zeroValue21
 t37:=Tryz.underlying101
 a37:=Tryz.isAgg101
 z37:=Tryz.sizeOf101
 v37:=Tryz.zeroValue101
 t46:=Tryz.underlying196
 a46:=Tryz.isAgg196
 z46:=Tryz.sizeOf196
 v46:=Tryz.zeroValue196
 t51:=Tryz.underlying261
 a51:=Tryz.isAgg261
 z51:=Tryz.sizeOf261
 v51:=Tryz.zeroValue261
 t53:=Tryz.underlying263
 a53:=Tryz.isAgg263
 z53:=Tryz.sizeOf263
 v53:=Tryz.zeroValue263
 t75:=Tryz.underlying132
 a75:=Tryz.isAgg132
 z75:=Tryz.sizeOf132
 v75:=Tryz.zeroValue132
 t76:=Tryz.underlying133
 a76:=Tryz.isAgg133
 z76:=Tryz.sizeOf133
 v76:=Tryz.zeroValue133
 t85:=Tryz.underlying271
 a85:=Tryz.isAgg271
 z85:=Tryz.sizeOf271
 v85:=Tryz.zeroValue271
 t127:=Tryz.underlying239
 a127:=Tryz.isAgg239
 z127:=Tryz.sizeOf239
 v127:=Tryz.zeroValue239
 t143:=Tryz.underlying367
 a143:=Tryz.isAgg367
 z143:=Tryz.sizeOf367
 v143:=Tryz.zeroValue367
 t145:=Tryz.underlying369
 a145:=Tryz.isAgg369
 z145:=Tryz.sizeOf369
 v145:=Tryz.zeroValue369
 t167:=Tryz.underlying270
 a167:=Tryz.isAgg270
 z167:=Tryz.sizeOf270
 v167:=Tryz.zeroValue270
 t168:=Tryz.underlying273
 a168:=Tryz.isAgg273
 z168:=Tryz.sizeOf273
 v168:=Tryz.zeroValue273
 t171:=Tryz.underlying307
 a171:=Tryz.isAgg307
 z171:=Tryz.sizeOf307
 v171:=Tryz.zeroValue307
 t173:=Tryz.underlying309
 a173:=Tryz.isAgg309
 z173:=Tryz.sizeOf309
 v173:=Tryz.zeroValue309
 t175:=Tryz.underlying325
 a175:=Tryz.isAgg325
 z175:=Tryz.sizeOf325
 v175:=Tryz.zeroValue325
 t210:=Tryz.underlying328
 a210:=Tryz.isAgg328
 z210:=Tryz.sizeOf328
 v210:=Tryz.zeroValue328
 t212:=Tryz.underlying348
 a212:=Tryz.isAgg348
 z212:=Tryz.sizeOf348
 v212:=Tryz.zeroValue348
 t213:=Tryz.underlying349
 a213:=Tryz.isAgg349
 z213:=Tryz.sizeOf349
 t232:=Tryz.underlying377
 a232:=Tryz.isAgg377
 z232:=Tryz.sizeOf377
 v232:=Tryz.zeroValue377
 t233:=Tryz.underlying378
 a233:=Tryz.isAgg378
 z233:=Tryz.sizeOf378
 v233:=Tryz.zeroValue378
 g15:=by kernel_rfl
 g16:=by kernel_rfl
 g17:=by kernel_rfl
 g18:=by kernel_rfl
 g19:=by kernel_rfl
 t80:=Tryz.underlying163
 a80:=Tryz.isAgg163
 z80:=Tryz.sizeOf163
 v80:=Tryz.zeroValue163
 i0:=by kernel_rfl
 i2:=by kernel_rfl
 i3:=by kernel_rfl
 i4:=by kernel_rfl
 i5:=by kernel_rfl
 i9:=by kernel_rfl
 i20:=by kernel_rfl
 i21:=by kernel_rfl
 i37:=by kernel_rfl
 i46:=by kernel_rfl
 i51:=by kernel_rfl
 i53:=by kernel_rfl
 i75:=by kernel_rfl
 i76:=by kernel_rfl
 i80:=by kernel_rfl
 i85:=by kernel_rfl
 i127:=by kernel_rfl
 i143:=by kernel_rfl
 i145:=by kernel_rfl
 i167:=by kernel_rfl
 i168:=by kernel_rfl
 i171:=by kernel_rfl
 i173:=by kernel_rfl
 i175:=by kernel_rfl
 i210:=by kernel_rfl
 i212:=by kernel_rfl
 i232:=by kernel_rfl
 i233:=by kernel_rfl
 m15:=by kernel_rfl
 m16:=by kernel_rfl
 m17:=by kernel_rfl
 m18:=by kernel_rfl
 m19:=by kernel_rfl
 c0:=by kernel_rfl
 c2:=by kernel_rfl
 c3:=by kernel_rfl
 c4:=by kernel_rfl
 c5:=by kernel_rfl
 c9:=by kernel_rfl
 c20:=by kernel_rfl
 c21:=by kernel_rfl
 c37:=by kernel_rfl
 c46:=by kernel_rfl
 c51:=by kernel_rfl
 c53:=by kernel_rfl
 c75:=by kernel_rfl
 c76:=by kernel_rfl
 c80:=by kernel_rfl
 c85:=by kernel_rfl
 c127:=by kernel_rfl
 c143:=by kernel_rfl
 c145:=by kernel_rfl
 c167:=by kernel_rfl
 c168:=by kernel_rfl
 c171:=by kernel_rfl
 c173:=by kernel_rfl
 c175:=by kernel_rfl
 c210:=by kernel_rfl
 c212:=by kernel_rfl
 c213:=by kernel_rfl
 c232:=by kernel_rfl
 c233:=by kernel_rfl }
open Go.RowKit Go.Lib in
theorem Tryz.strconv_Atoi_ok (s : ByteArray) (hmax : s.size ≤ 9223372036854775806) (v : Int) (h : Lib.atoiAll s.data.toList = .ok v) (w : World) :
 Calls Tryz.prog 84 #[.string s] w fun e w' => e = .returned (.tuple #[.int .i64 v,.nilIface]) ∧ (w' = w ∨ ∃ t,w' = Lib.bytesWorld w 5 t):=Any.strconv_Atoi_ok Tryz.laysC172 s hmax v h w
open Go.RowKit Go.Lib in
theorem Tryz.strconv_Atoi_range (s : ByteArray) (hlim : s.size ≤ 281474976710656) (h : Lib.atoiAll s.data.toList = .range) (ev : Value) (w : World) (hv : w.cell? ⟨2,0,none⟩ = some ev) (hev : ev = .nilIface ∨ ∃ te pe,ev = .iface te pe) :
 Calls Tryz.prog 84 #[.string s] w fun e w' => ∃ N,e = .returned (.tuple #[.int .i64 (Lib.atoiSat s.data.toList),.iface 273 (.pointer (some ⟨N,0,none⟩))]) ∧ w.heap.size ≤ N ∧ w'.heap[N]? = some (.cells #[.string ⟨#[65,116,111,105]⟩,.string s,ev] 328 (0,0)) ∧ Below w.heap.size w w':=Any.strconv_Atoi_range Tryz.laysC172 s hlim h ev w hv hev
end Go.Proofs

namespace Go.Proofs
open Go.Shelf
def Tryz.lays27_ren : Go.Shelf.Ren:=⟨fun | 27 => 340 | 28 => 361 | 29 => 362 | n => n,fun | 25 => 196 | 3 => 3 | 27 => 261 | 22 => 263 | 4 => 4 | 53 => 377 | 0 => 0 | 5 => 5 | 54 => 378 | n => n,fun | 0 => 6 | 1 => 7 | n => n⟩
theorem Tryz.lays27 : Go.Proofs.Lays7.n27 Tryz.prog Tryz.lays27_ren:={
 mixed:=by kernel_rfl
 f27:=Tryz.func340.trans (congrArg some (by kernel_rfl))
 f28:=Tryz.func361.trans (congrArg some (by kernel_rfl))
 f29:=Tryz.func362.trans (congrArg some (by kernel_rfl))
 t0:=Tryz.underlying0
 a0:=Tryz.isAgg0
 z0:=Tryz.sizeOf0
 v0:=Tryz.zeroValue0
 i0:=by kernel_rfl
 t3:=Tryz.underlying3
 a3:=Tryz.isAgg3
 z3:=Tryz.sizeOf3
 v3:=Tryz.zeroValue3
 i3:=by kernel_rfl
 t4:=Tryz.underlying4
 a4:=Tryz.isAgg4
 z4:=Tryz.sizeOf4
 v4:=Tryz.zeroValue4
 i4:=by kernel_rfl
 t5:=Tryz.underlying5
 a5:=Tryz.isAgg5
 z5:=Tryz.sizeOf5
 v5:=Tryz.zeroValue5
 i5:=by kernel_rfl
 t22:=Tryz.underlying263
 a22:=Tryz.isAgg263
 z22:=Tryz.sizeOf263
 v22:=Tryz.zeroValue263
 i22:=by kernel_rfl
 t25:=Tryz.underlying196
 a25:=Tryz.isAgg196
 z25:=Tryz.sizeOf196
 v25:=Tryz.zeroValue196
 i25:=by kernel_rfl
 t27:=Tryz.underlying261
 a27:=Tryz.isAgg261
 z27:=Tryz.sizeOf261
 v27:=Tryz.zeroValue261
 i27:=by kernel_rfl
 t53:=Tryz.underlying377
 a53:=Tryz.isAgg377
 z53:=Tryz.sizeOf377
 v53:=Tryz.zeroValue377
 i53:=by kernel_rfl
 t54:=Tryz.underlying378
 a54:=Tryz.isAgg378
 z54:=Tryz.sizeOf378
 g0:=by kernel_rfl
 g1:=by kernel_rfl }
open Go.RowKit Go.Lib in
theorem Tryz.bits_TrailingZeros (x : Nat) (hx : x < 18446744073709551616) (w : World) (hT : x ≠ 0 → TabAt 7 Lib.deBruijn64tab w) :
 Calls Tryz.prog 340 #[.int .u64 x] w fun e w' => e = .returned (.int .i64 (Lib.ctz 64 x)) ∧ w' = w:=Any7.bits_TrailingZeros Tryz.lays27 x hx w hT
end Go.Proofs

namespace Go.Proofs
open Go.Shelf
def Tryz.lays137_ren : Go.Shelf.Ren:=⟨fun | 137 => 261 | 217 => 279 | 266 => 335 | n => n,fun | 9 => 9 | 5 => 5 | 3 => 3 | n => n,fun | n => n⟩
theorem Tryz.lays137 : Go.Proofs.Lays.n137 Tryz.prog Tryz.lays137_ren:={
 mixed:=by kernel_rfl
 f137:=Tryz.func261.trans (congrArg some (by kernel_rfl))
 f217:=Tryz.func279.trans (congrArg some (by kernel_rfl))
 f266:=Tryz.func335.trans (congrArg some (by kernel_rfl))
 t3:=Tryz.underlying3
 a3:=Tryz.isAgg3
 z3:=Tryz.sizeOf3
 v3:=Tryz.zeroValue3
 t5:=Tryz.underlying5
 a5:=Tryz.isAgg5
 z5:=Tryz.sizeOf5
 v5:=Tryz.zeroValue5
 t9:=Tryz.underlying9
 a9:=Tryz.isAgg9
 z9:=Tryz.sizeOf9
 v9:=Tryz.zeroValue9 }
open Go.RowKit Go.Lib in
theorem Tryz.strings_IndexByte (s : ByteArray) (c : Int) (w : World) :
 Calls Tryz.prog 261 #[.string s,.int .u8 c] w fun e w' => e = .returned (.int .i64 (Lib.indexByte s.data.toList c.toNat.toUInt8)) ∧ w' = w:=Any.strings_IndexByte Tryz.lays137 s c w
def Tryz.lays99_ren : Go.Shelf.Ren:=⟨fun | 99 => 299 | 206 => 345 | n => n,fun | 9 => 9 | 4 => 4 | 3 => 3 | n => n,fun | n => n⟩
theorem Tryz.lays99 : Go.Proofs.Lays.n99 Tryz.prog Tryz.lays99_ren:={
 mixed:=by kernel_rfl
 f99:=Tryz.func299.trans (congrArg some (by kernel_rfl))
 f206:=Tryz.func345.trans (congrArg some (by kernel_rfl))
 t3:=Tryz.underlying3
 a3:=Tryz.isAgg3
 z3:=Tryz.sizeOf3
 v3:=Tryz.zeroValue3
 t4:=Tryz.underlying4
 a4:=Tryz.isAgg4
 z4:=Tryz.sizeOf4
 v4:=Tryz.zeroValue4
 t9:=Tryz.underlying9
 a9:=Tryz.isAgg9
 z9:=Tryz.sizeOf9
 v9:=Tryz.zeroValue9 }
open Go.RowKit Go.Lib in
theorem Tryz.strings_HasPrefix (s p : ByteArray) (w : World) :
 Calls Tryz.prog 299 #[.string s,.string p] w fun e w' => e = .returned (.bool (Lib.hasPrefix s.data.toList p.data.toList)) ∧ w' = w:=Any.strings_HasPrefix Tryz.lays99 s p w
def Tryz.lays101_ren : Go.Shelf.Ren:=⟨fun | 101 => 363 | 208 => 369 | 206 => 345 | n => n,fun | 9 => 9 | 4 => 4 | 3 => 3 | n => n,fun | n => n⟩
theorem Tryz.lays101 : Go.Proofs.Lays.n101 Tryz.prog Tryz.lays101_ren:={
 mixed:=by kernel_rfl
 f101:=Tryz.func363.trans (congrArg some (by kernel_rfl))
 f206:=Tryz.func345.trans (congrArg some (by kernel_rfl))
 f208:=Tryz.func369.trans (congrArg some (by kernel_rfl))
 t3:=Tryz.underlying3
 a3:=Tryz.isAgg3
 z3:=Tryz.sizeOf3
 v3:=Tryz.zeroValue3
 t4:=Tryz.underlying4
 a4:=Tryz.isAgg4
 z4:=Tryz.sizeOf4
 v4:=Tryz.zeroValue4
 t9:=Tryz.underlying9
 a9:=Tryz.isAgg9
 z9:=Tryz.sizeOf9
 v9:=Tryz.zeroValue9 }
open Go.RowKit Go.Lib in
theorem Tryz.strings_TrimPrefix (s p : ByteArray) (w : World) :
 Calls Tryz.prog 363 #[.string s,.string p] w fun e w' => e = .returned (.string ⟨(Lib.trimPrefix s.data.toList p.data.toList).toArray⟩) ∧ w' = w:=Any.strings_TrimPrefix Tryz.lays101 s p w
def Tryz.lays102_ren : Go.Shelf.Ren:=⟨fun | 102 => 171 | 209 => 262 | 207 => 329 | n => n,fun | 9 => 9 | 4 => 4 | 3 => 3 | n => n,fun | n => n⟩
theorem Tryz.lays102 : Go.Proofs.Lays.n102 Tryz.prog Tryz.lays102_ren:={
 mixed:=by kernel_rfl
 f102:=Tryz.func171.trans (congrArg some (by kernel_rfl))
 f207:=Tryz.func329.trans (congrArg some (by kernel_rfl))
 f209:=Tryz.func262.trans (congrArg some (by kernel_rfl))
 t3:=Tryz.underlying3
 a3:=Tryz.isAgg3
 z3:=Tryz.sizeOf3
 v3:=Tryz.zeroValue3
 t4:=Tryz.underlying4
 a4:=Tryz.isAgg4
 z4:=Tryz.sizeOf4
 v4:=Tryz.zeroValue4
 t9:=Tryz.underlying9
 a9:=Tryz.isAgg9
 z9:=Tryz.sizeOf9
 v9:=Tryz.zeroValue9 }
open Go.RowKit Go.Lib in
theorem Tryz.strings_TrimSuffix (s p : ByteArray) (w : World) (hs : s.size ≤ 9223372036854775807) :
 Calls Tryz.prog 171 #[.string s,.string p] w fun e w' => e = .returned (.string ⟨(Lib.trimSuffix s.data.toList p.data.toList).toArray⟩) ∧ w' = w:=Any.strings_TrimSuffix Tryz.lays102 s p w hs
def Tryz.lays103_ren : Go.Shelf.Ren:=⟨fun | 103 => 352 | 210 => 366 | 206 => 345 | n => n,fun | 9 => 9 | 4 => 4 | 24 => 179 | 3 => 3 | n => n,fun | n => n⟩
theorem Tryz.lays103 : Go.Proofs.Lays.n103 Tryz.prog Tryz.lays103_ren:={
 mixed:=by kernel_rfl
 f103:=Tryz.func352.trans (congrArg some (by kernel_rfl))
 f206:=Tryz.func345.trans (congrArg some (by kernel_rfl))
 f210:=Tryz.func366.trans (congrArg some (by kernel_rfl))
 t3:=Tryz.underlying3
 a3:=Tryz.isAgg3
 z3:=Tryz.sizeOf3
 v3:=Tryz.zeroValue3
 t4:=Tryz.underlying4
 a4:=Tryz.isAgg4
 z4:=Tryz.sizeOf4
 v4:=Tryz.zeroValue4
 t9:=Tryz.underlying9
 a9:=Tryz.isAgg9
 z9:=Tryz.sizeOf9
 v9:=Tryz.zeroValue9
 t24:=Tryz.underlying179
 a24:=Tryz.isAgg179
 z24:=Tryz.sizeOf179
 v24:=Tryz.zeroValue179 }
open Go.RowKit Go.Lib in
theorem Tryz.strings_CutPrefix (s p : ByteArray) (w : World) :
 Calls Tryz.prog 352 #[.string s,.string p] w fun e w' => e = .returned (.tuple #[.string ⟨(Lib.trimPrefix s.data.toList p.data.toList).toArray⟩,.bool (Lib.hasPrefix s.data.toList p.data.toList)]) ∧ w' = w:=Any.strings_CutPrefix Tryz.lays103 s p w
def Tryz.lays146_ren : Go.Shelf.Ren:=⟨fun | 146 => 85 | 221 => 134 | 268 => 211 | 138 => 212 | 143 => 213 | 195 => 293 | 197 => 294 | 218 => 295 | 219 => 198 | 260 => 342 | 217 => 279 | 225 => 280 | 224 => 281 | 267 => 282 | 266 => 335 | 314 => 336 | n => n,fun | 9 => 9 | 31 => 37 | 3 => 3 | 4 => 4 | 0 => 0 | 105 => 317 | 21 => 21 | 5 => 5 | 46 => 196 | 119 => 335 | 139 => 338 | 138 => 337 | 146 => 345 | 51 => 261 | n => n,fun | 1 => 0 | 3 => 3 | 4 => 4 | n => n⟩
theorem Tryz.lays146 : Go.Proofs.Lays.n146 Tryz.prog Tryz.lays146_ren:={
 mixed:=by kernel_rfl
 f138:=Tryz.func212.trans (congrArg some (by kernel_rfl))
 f143:=Tryz.func213.trans (congrArg some (by kernel_rfl))
 f146:=Tryz.func85.trans (congrArg some (by kernel_rfl))
 f195:=Tryz.func293.trans (congrArg some (by kernel_rfl))
 f197:=Tryz.func294.trans (congrArg some (by kernel_rfl))
 f217:=Tryz.func279.trans (congrArg some (by kernel_rfl))
 f218:=Tryz.func295.trans (congrArg some (by kernel_rfl))
 f219:=Tryz.func198.trans (congrArg some (by kernel_rfl))
 f221:=Tryz.func134.trans (congrArg some (by kernel_rfl))
 f224:=Tryz.func281.trans (congrArg some (by kernel_rfl))
 f225:=Tryz.func280.trans (congrArg some (by kernel_rfl))
 f260:=Tryz.func342.trans (congrArg some (by kernel_rfl))
 f266:=Tryz.func335.trans (congrArg some (by kernel_rfl))
 f267:=Tryz.func282.trans (congrArg some (by kernel_rfl))
 f268:=Tryz.func211.trans (congrArg some (by kernel_rfl))
 f314:=Tryz.func336.trans (congrArg some (by kernel_rfl))
 t0:=Tryz.underlying0
 a0:=Tryz.isAgg0
 z0:=Tryz.sizeOf0
 v0:=Tryz.zeroValue0
 t3:=Tryz.underlying3
 a3:=Tryz.isAgg3
 z3:=Tryz.sizeOf3
 v3:=Tryz.zeroValue3
 t4:=Tryz.underlying4
 a4:=Tryz.isAgg4
 z4:=Tryz.sizeOf4
 v4:=Tryz.zeroValue4
 t5:=Tryz.underlying5
 a5:=Tryz.isAgg5
 z5:=Tryz.sizeOf5
 v5:=Tryz.zeroValue5
 t9:=Tryz.underlying9
 a9:=Tryz.isAgg9
 z9:=Tryz.sizeOf9
 v9:=Tryz.zeroValue9
 t21:=Tryz.underlying21
 a21:=Tryz.isAgg21
 z21:=Tryz.sizeOf21
 v21:=Tryz.zeroValue21
 t31:=Tryz.underlying37
 a31:=Tryz.isAgg37
 z31:=Tryz.sizeOf37
 v31:=Tryz.zeroValue37
 t46:=Tryz.underlying196
 a46:=Tryz.isAgg196
 z46:=Tryz.sizeOf196
 v46:=Tryz.zeroValue196
 t51:=Tryz.underlying261
 a51:=Tryz.isAgg261
 z51:=Tryz.sizeOf261
 v51:=Tryz.zeroValue261
 t105:=Tryz.underlying317
 a105:=Tryz.isAgg317
 z105:=Tryz.sizeOf317
 v105:=Tryz.zeroValue317
 t119:=Tryz.underlying335
 a119:=Tryz.isAgg335
 z119:=Tryz.sizeOf335
 t138:=Tryz.underlying337
 a138:=Tryz.isAgg337
 z138:=Tryz.sizeOf337
 v138:=Tryz.zeroValue337
 t139:=Tryz.underlying338
 a139:=Tryz.isAgg338
 z139:=Tryz.sizeOf338
 v139:=Tryz.zeroValue338
 t146:=Tryz.underlying345
 a146:=Tryz.isAgg345
 z146:=Tryz.sizeOf345
 v146:=Tryz.zeroValue345
 g1:=by kernel_rfl
 g3:=by kernel_rfl
 g4:=by kernel_rfl }
open Go.RowKit Go.Lib in
theorem Tryz.strings_Split (s sep : ByteArray) (m : Int) (w : World) (hs : s.size < 4294967281) (hm : w.cell? ⟨0,0,none⟩ = some (.int .i64 m)) (h1 : 1 ≤ sep.size) :
 Calls Tryz.prog 85 #[.string s,.string sep] w fun e w' =>
  e = .returned (.slice (some ⟨w.heap.size,0,none⟩) (Lib.countB s sep + 1) (Lib.countB s sep + 1)) ∧ w' = w.alloc (.cells ((Lib.splitB sep 0 (Lib.countB s sep) s).map Value.string).toArray 9):=Any.strings_Split Tryz.lays146 (by kernel_rfl) s sep m w hs hm h1
def Tryz.lays147_ren : Go.Shelf.Ren:=⟨fun | 147 => 80 | 221 => 134 | 268 => 211 | 138 => 212 | 143 => 213 | 195 => 293 | 197 => 294 | 218 => 295 | 219 => 198 | 260 => 342 | 217 => 279 | 225 => 280 | 224 => 281 | 267 => 282 | 266 => 335 | 314 => 336 | n => n,fun | 9 => 9 | 3 => 3 | 31 => 37 | 4 => 4 | 0 => 0 | 105 => 317 | 21 => 21 | 5 => 5 | 46 => 196 | 119 => 335 | 139 => 338 | 138 => 337 | 146 => 345 | 51 => 261 | n => n,fun | 1 => 0 | 3 => 3 | 4 => 4 | n => n⟩
theorem Tryz.lays147 : Go.Proofs.Lays.n147 Tryz.prog Tryz.lays147_ren:={
 mixed:=by kernel_rfl
 f138:=Tryz.func212.trans (congrArg some (by kernel_rfl))
 f143:=Tryz.func213.trans (congrArg some (by kernel_rfl))
 f147:=Tryz.func80.trans (congrArg some (by kernel_rfl))
 f195:=Tryz.func293.trans (congrArg some (by kernel_rfl))
 f197:=Tryz.func294.trans (congrArg some (by kernel_rfl))
 f217:=Tryz.func279.trans (congrArg some (by kernel_rfl))
 f218:=Tryz.func295.trans (congrArg some (by kernel_rfl))
 f219:=Tryz.func198.trans (congrArg some (by kernel_rfl))
 f221:=Tryz.func134.trans (congrArg some (by kernel_rfl))
 f224:=Tryz.func281.trans (congrArg some (by kernel_rfl))
 f225:=Tryz.func280.trans (congrArg some (by kernel_rfl))
 f260:=Tryz.func342.trans (congrArg some (by kernel_rfl))
 f266:=Tryz.func335.trans (congrArg some (by kernel_rfl))
 f267:=Tryz.func282.trans (congrArg some (by kernel_rfl))
 f268:=Tryz.func211.trans (congrArg some (by kernel_rfl))
 f314:=Tryz.func336.trans (congrArg some (by kernel_rfl))
 t0:=Tryz.underlying0
 a0:=Tryz.isAgg0
 z0:=Tryz.sizeOf0
 v0:=Tryz.zeroValue0
 t3:=Tryz.underlying3
 a3:=Tryz.isAgg3
 z3:=Tryz.sizeOf3
 v3:=Tryz.zeroValue3
 t4:=Tryz.underlying4
 a4:=Tryz.isAgg4
 z4:=Tryz.sizeOf4
 v4:=Tryz.zeroValue4
 t5:=Tryz.underlying5
 a5:=Tryz.isAgg5
 z5:=Tryz.sizeOf5
 v5:=Tryz.zeroValue5
 t9:=Tryz.underlying9
 a9:=Tryz.isAgg9
 z9:=Tryz.sizeOf9
 v9:=Tryz.zeroValue9
 t21:=Tryz.underlying21
 a21:=Tryz.isAgg21
 z21:=Tryz.sizeOf21
 v21:=Tryz.zeroValue21
 t31:=Tryz.underlying37
 a31:=Tryz.isAgg37
 z31:=Tryz.sizeOf37
 v31:=Tryz.zeroValue37
 t46:=Tryz.underlying196
 a46:=Tryz.isAgg196
 z46:=Tryz.sizeOf196
 v46:=Tryz.zeroValue196
 t51:=Tryz.underlying261
 a51:=Tryz.isAgg261
 z51:=Tryz.sizeOf261
 v51:=Tryz.zeroValue261
 t105:=Tryz.underlying317
 a105:=Tryz.isAgg317
 z105:=Tryz.sizeOf317
 v105:=Tryz.zeroValue317
 t119:=Tryz.underlying335
 a119:=Tryz.isAgg335
 z119:=Tryz.sizeOf335
 t138:=Tryz.underlying337
 a138:=Tryz.isAgg337
 z138:=Tryz.sizeOf337
 v138:=Tryz.zeroValue337
 t139:=Tryz.underlying338
 a139:=Tryz.isAgg338
 z139:=Tryz.sizeOf338
 v139:=Tryz.zeroValue338
 t146:=Tryz.underlying345
 a146:=Tryz.isAgg345
 z146:=Tryz.sizeOf345
 v146:=Tryz.zeroValue345
 g1:=by kernel_rfl
 g3:=by kernel_rfl
 g4:=by kernel_rfl }
open Go.RowKit Go.Lib in
theorem Tryz.strings_SplitN (s sep : ByteArray) (n : Nat) (m : Int) (w : World) (hs : s.size < 4294967281) (hm : w.cell? ⟨0,0,none⟩ = some (.int .i64 m)) (h1 : 1 ≤ sep.size) (hn : 1 ≤ n) (hn63 : n ≤ 9223372036854775807) :
 Calls Tryz.prog 80 #[.string s,.string sep,.int .i64 n] w fun e w' =>
  e = .returned (.slice (some ⟨w.heap.size,0,none⟩) (Lib.splitB sep 0 (min n (s.size + 1) - 1) s).length (min n (s.size + 1))) ∧ w' = w.alloc (.cells (Lib.cellsOf (Lib.splitB sep 0 (min n (s.size + 1) - 1) s) (min n (s.size + 1))) 9):=Any.strings_SplitN Tryz.lays147 (by kernel_rfl) s sep n m w hs hm h1 hn hn63
end Go.Proofs

namespace Go.Proofs
open Go.Shelf
def Tryz.lays143_ren : Go.Shelf.Ren:=⟨fun | 143 => 213 | 219 => 198 | 217 => 279 | 225 => 280 | 224 => 281 | 267 => 282 | 266 => 335 | 314 => 336 | n => n,fun | 9 => 9 | 3 => 3 | 4 => 4 | 5 => 5 | 46 => 196 | 146 => 345 | 51 => 261 | n => n,fun | 1 => 0 | n => n⟩
theorem Tryz.lays143 : Go.Proofs.Lays.n143 Tryz.prog Tryz.lays143_ren:={
 mixed:=by kernel_rfl
 f143:=Tryz.func213.trans (congrArg some (by kernel_rfl))
 f217:=Tryz.func279.trans (congrArg some (by kernel_rfl))
 f219:=Tryz.func198.trans (congrArg some (by kernel_rfl))
 f224:=Tryz.func281.trans (congrArg some (by kernel_rfl))
 f225:=Tryz.func280.trans (congrArg some (by kernel_rfl))
 f266:=Tryz.func335.trans (congrArg some (by kernel_rfl))
 f267:=Tryz.func282.trans (congrArg some (by kernel_rfl))
 f314:=Tryz.func336.trans (congrArg some (by kernel_rfl))
 t3:=Tryz.underlying3
 a3:=Tryz.isAgg3
 z3:=Tryz.sizeOf3
 v3:=Tryz.zeroValue3
 t4:=Tryz.underlying4
 a4:=Tryz.isAgg4
 z4:=Tryz.sizeOf4
 v4:=Tryz.zeroValue4
 t5:=Tryz.underlying5
 a5:=Tryz.isAgg5
 z5:=Tryz.sizeOf5
 v5:=Tryz.zeroValue5
 t9:=Tryz.underlying9
 a9:=Tryz.isAgg9
 z9:=Tryz.sizeOf9
 v9:=Tryz.zeroValue9
 t46:=Tryz.underlying196
 a46:=Tryz.isAgg196
 z46:=Tryz.sizeOf196
 v46:=Tryz.zeroValue196
 t51:=Tryz.underlying261
 a51:=Tryz.isAgg261
 z51:=Tryz.sizeOf261
 v51:=Tryz.zeroValue261
 t146:=Tryz.underlying345
 a146:=Tryz.isAgg345
 z146:=Tryz.sizeOf345
 v146:=Tryz.zeroValue345
 g1:=by kernel_rfl }
open Go.RowKit Go.Lib in
theorem Tryz.strings_Index1 (s : ByteArray) (c : UInt8) (w : World) :
 Calls Tryz.prog 213 #[.string s,.string ⟨#[c]⟩] w fun e w' => e = .returned (.int .i64 (Lib.indexByte s.data.toList c)) ∧ w' = w:=Any.strings_Index_one Tryz.lays143 s c w
end Go.Proofs

namespace Go.Proofs
open Go.Shelf
def Tryz.sortFld_ren : Go.Shelf.Ren:=⟨fun | 6 => 123 | 15 => 131 | 14 => 196 | 28 => 209 | 29 => 210 | 20 => 270 | 21 => 271 | 22 => 272 | 23 => 273 | 24 => 274 | 25 => 275 | 26 => 276 | 27 => 277 | 46 => 332 | 47 => 288 | 48 => 289 | 49 => 333 | 50 => 334 | 57 => 360 | n => n,fun | 22 => 41 | 24 => 95 | 25 => 192 | 3 => 3 | 39 => 196 | 0 => 0 | 53 => 261 | 55 => 263 | 4 => 4 | 46 => 255 | 45 => 254 | 50 => 98 | 5 => 5 | 9 => 9 | 66 => 311 | 70 => 119 | 76 => 350 | 77 => 351 | n => n,fun | n => n⟩
theorem Tryz.sortFld : Go.Proofs.SlLaysF0.n6 Tryz.prog Tryz.sortFld_ren:={
 mixed:=by kernel_rfl
 f6:=⟨Tryz.f123.name,by decide,Tryz.func123.trans (congrArg some (by kernel_rfl))⟩
 f14:=⟨Tryz.f196.name,by decide,Tryz.func196.trans (congrArg some (by kernel_rfl))⟩
 f15:=Tryz.func131.trans (congrArg some (by kernel_rfl))
 f20:=⟨Tryz.f270.name,by decide,Tryz.func270.trans (congrArg some (by kernel_rfl))⟩
 f21:=⟨Tryz.f271.name,by decide,Tryz.func271.trans (congrArg some (by kernel_rfl))⟩
 f22:=⟨Tryz.f272.name,by decide,Tryz.func272.trans (congrArg some (by kernel_rfl))⟩
 f23:=⟨Tryz.f273.name,by decide,Tryz.func273.trans (congrArg some (by kernel_rfl))⟩
 f24:=⟨Tryz.f274.name,by decide,Tryz.func274.trans (congrArg some (by kernel_rfl))⟩
 f25:=⟨Tryz.f275.name,by decide,Tryz.func275.trans (congrArg some (by kernel_rfl))⟩
 f26:=⟨Tryz.f276.name,by decide,Tryz.func276.trans (congrArg some (by kernel_rfl))⟩
 f27:=⟨Tryz.f277.name,by decide,Tryz.func277.trans (congrArg some (by kernel_rfl))⟩
 f28:=Tryz.func209.trans (congrArg some (by kernel_rfl))
 f29:=Tryz.func210.trans (congrArg some (by kernel_rfl))
 f46:=⟨Tryz.f332.name,by decide,Tryz.func332.trans (congrArg some (by kernel_rfl))⟩
 f47:=Tryz.func288.trans (congrArg some (by kernel_rfl))
 f48:=Tryz.func289.trans (congrArg some (by kernel_rfl))
 f49:=⟨Tryz.f333.name,by decide,Tryz.func333.trans (congrArg some (by kernel_rfl))⟩
 f50:=⟨Tryz.f334.name,by decide,Tryz.func334.trans (congrArg some (by kernel_rfl))⟩
 f57:=⟨Tryz.f360.name,by decide,Tryz.func360.trans (congrArg some (by kernel_rfl))⟩
 t0:=Tryz.underlying0
 a0:=Tryz.isAgg0
 z0:=Tryz.sizeOf0
 v0:=Tryz.zeroValue0
 t3:=Tryz.underlying3
 a3:=Tryz.isAgg3
 z3:=Tryz.sizeOf3
 v3:=Tryz.zeroValue3
 t4:=Tryz.underlying4
 a4:=Tryz.isAgg4
 z4:=Tryz.sizeOf4
 v4:=Tryz.zeroValue4
 t5:=Tryz.underlying5
 a5:=Tryz.isAgg5
 z5:=Tryz.sizeOf5
 v5:=Tryz.zeroValue5
 t9:=Tryz.underlying9
 a9:=Tryz.isAgg9
 z9:=Tryz.sizeOf9
 v9:=Tryz.zeroValue9
 t22:=Tryz.underlying41
 a22:=Tryz.isAgg41
 z22:=Tryz.sizeOf41
 v22:=Tryz.zeroValue41
 t25:=Tryz.underlying192
 a25:=Tryz.isAgg192
 z25:=Tryz.sizeOf192
 v25:=Tryz.zeroValue192
 t39:=Tryz.underlying196
 a39:=Tryz.isAgg196
 z39:=Tryz.sizeOf196
 v39:=Tryz.zeroValue196
 t45:=Tryz.underlying254
 a45:=Tryz.isAgg254
 z45:=Tryz.sizeOf254
 v45:=Tryz.zeroValue254
 t46:=Tryz.underlying255
 a46:=Tryz.isAgg255
 z46:=Tryz.sizeOf255
 v46:=Tryz.zeroValue255
 t50:=Tryz.underlying98
 a50:=Tryz.isAgg98
 z50:=Tryz.sizeOf98
 v50:=Tryz.zeroValue98
 t53:=Tryz.underlying261
 a53:=Tryz.isAgg261
 z53:=Tryz.sizeOf261
 v53:=Tryz.zeroValue261
 t55:=Tryz.underlying263
 a55:=Tryz.isAgg263
 z55:=Tryz.sizeOf263
 v55:=Tryz.zeroValue263
 t66:=Tryz.underlying311
 a66:=Tryz.isAgg311
 z66:=Tryz.sizeOf311
 v66:=Tryz.zeroValue311
 t70:=Tryz.underlying119
 a70:=Tryz.isAgg119
 z70:=Tryz.sizeOf119
 v70:=Tryz.zeroValue119
 t76:=Tryz.underlying350
 a76:=Tryz.isAgg350
 z76:=Tryz.sizeOf350
 v76:=Tryz.zeroValue350
 t77:=Tryz.underlying351
 a77:=Tryz.isAgg351
 z77:=Tryz.sizeOf351
 v77:=Tryz.zeroValue351 }
open Go.RowKit Go.Lib Go.Sort in
theorem Tryz.slices_SortFunc_fld {α : Type} [Inhabited α] (enc : α → List Value) (hk : ∀ x,(enc x).length = 7) (h1 : ∀ x,∀ v ∈ enc x,v.oneCell' = true) (cf : α → α → Int) (hO : SWO (ltOf cf)) (g : Nat) (cb : Array Value) (blk off cap : Nat) (d : Array α) (w : World)
 (eg : ∀ args w,(callFunc g args).run Tryz.prog w = .ok (.enter g args) w) (hcmp : CmpLays Tryz.prog g cb enc 7 cf blk off d.size w) (hH : HoldsK enc 7 w blk off d) (hblk : blk < w.heap.size) (hsz : d.size < 4611686018427387904) :
 Calls Tryz.prog 123 #[.slice (some ⟨blk,off,none⟩) d.size cap,.func (.func g) #[] cb] w fun e w' =>
  e = .returned (.tuple #[]) ∧ ∃ d' n os,PermIn 0 d.size d d' ∧ SortedIn (ltOf cf) 0 d.size d' ∧ w' = sortWorldK enc 7 w blk off n d' os:=AnyQ.slices_SortFunc Tryz.sortFld 7 Tryz.isAgg95 Tryz.sizeOf95 enc hk h1 cf hO g cb blk off cap d w eg hcmp hH hblk hsz
end Go.Proofs
