/-
  DERIVED: THE SHELF's CONTRACTS AT THIS DUMP, IN PLAIN WORDS (tools/lay-plain.mjs out of 'TryzShelf11.lean', which tools/lay-shelf.mjs wrote): THE SAME DECLARATIONS UNDER THE SAME NAMES: 'import', 'namespace', 'open', 'def', 'theorem' AND NOTHING ELSE: no command of the shelf's: FOR A HAND-IN. Each laying: the table of numbers ('.._ren') and one theorem, a field a fact of the dump's own or the kernel's comparison; each contract: ONE APPLICATION.
-/
import Derived.Shelf.SlIter.Keys
import Derived.Shelf.Strings.LastIndex
import Derived.Shelf.Slices.In.SortNone
import Derived.Ground.GgzProg
import Derived.Ground.NamesProg
import Derived.Test.YtmgpghoamapfgaaGreatDoorProg
namespace Go.Proofs
set_option linter.unusedVariables false
set_option linter.unusedSimpArgs false
open Go.Shelf
def Tryz.keysF_ren:Go.Shelf.Ren:=⟨fun | 7=>181 | 10=>249 | n=>n,fun | 23=>109 | 26=>9 | 3=>108 | 28=>135 | 0=>0 | 27=>134 | 33=>107 | 4=>4 | n=>n,fun | n=>n⟩
theorem Tryz.keysF:Go.Proofs.SlLaysZ.n7 Tryz.prog Tryz.keysF_ren:={
 mixed:=by kernel_rfl
 f7:=⟨Tryz.f181.name,by decide,Tryz.func181.trans (congrArg some (by kernel_rfl))⟩
 f10:=⟨Tryz.f249.name,by decide,Tryz.func249.trans (congrArg some (by kernel_rfl))⟩
 t0:=Tryz.underlying0
 a0:=Tryz.isAgg0
 z0:=Tryz.sizeOf0
 v0:=Tryz.zeroValue0
 t4:=Tryz.underlying4
 a4:=Tryz.isAgg4
 z4:=Tryz.sizeOf4
 v4:=Tryz.zeroValue4
 t23:=Tryz.underlying109
 a23:=Tryz.isAgg109
 z23:=Tryz.sizeOf109
 v23:=Tryz.zeroValue109
 t26:=Tryz.underlying9
 a26:=Tryz.isAgg9
 z26:=Tryz.sizeOf9
 v26:=Tryz.zeroValue9
 t27:=Tryz.underlying134
 a27:=Tryz.isAgg134
 z27:=Tryz.sizeOf134
 v27:=Tryz.zeroValue134
 t28:=Tryz.underlying135
 a28:=Tryz.isAgg135
 z28:=Tryz.sizeOf135
 v28:=Tryz.zeroValue135
 t33:=Tryz.underlying107
 a33:=Tryz.isAgg107
 z33:=Tryz.sizeOf107
 v33:=Tryz.zeroValue107 }
def Tryz.lays149_ren:Go.Shelf.Ren:=⟨fun | 149=>182 | 222=>250 | n=>n,fun | 9=>9 | 5=>5 | 3=>3 | 4=>4 | n=>n,fun | n=>n⟩
theorem Tryz.lays149:Go.Proofs.Lays.n149 Tryz.prog Tryz.lays149_ren:={
 mixed:=by kernel_rfl
 f149:=Tryz.func182.trans (congrArg some (by kernel_rfl))
 f222:=Tryz.func250.trans (congrArg some (by kernel_rfl))
 t3:=Tryz.underlying3
 a3:=Tryz.isAgg3
 z3:=Tryz.sizeOf3
 v3:=Tryz.zeroValue3
 t4:=Tryz.underlying4
 a4:=Tryz.isAgg4
 z4:=Tryz.sizeOf4
 v4:=Tryz.zeroValue4
 t5:=Tryz.underlying5
 a5:=Tryz.isAgg5
 z5:=Tryz.sizeOf5
 v5:=Tryz.zeroValue5
 t9:=Tryz.underlying9
 a9:=Tryz.isAgg9
 z9:=Tryz.sizeOf9
 v9:=Tryz.zeroValue9 }
open Go.RowKit Go.Lib in
theorem Tryz.strings_LastIndexByte (s:ByteArray) (c:Int) (hs:s.size<4611686018427387904) (w:World) :
 Calls Tryz.prog 182 #[.string s,.int .u8 c] w fun e w'=>e=.returned (.int .i64 (Lib.lastIndexByte s c))∧w'=w:=Any.strings_LastIndexByte Tryz.lays149 s c hs w
def Tryz.lays189_ren:Go.Shelf.Ren:=⟨fun | 189=>106 | 125=>184 | 257=>183 | 128=>260 | 129=>261 | 294=>251 | 295=>252 | 296=>253 | 297=>254 | 298=>255 | 299=>256 | 216=>257 | 300=>258 | 301=>259 | 328=>314 | 329=>315 | 330=>316 | 331=>317 | 332=>318 | 215=>208 | 343=>354 | n=>n,fun | 28=>37 | 3=>3 | 46=>238 | 0=>0 | 51=>235 | 53=>239 | 4=>4 | 183=>288 | 182=>287 | 131=>115 | 5=>5 | 9=>9 | 218=>326 | 222=>160 | 228=>363 | 229=>364 | n=>n,fun | n=>n⟩
theorem Tryz.lays189:Go.Proofs.Lays.n189 Tryz.prog Tryz.lays189_ren:={
 mixed:=by kernel_rfl
 f125:=Tryz.func184.trans (congrArg some (by kernel_rfl))
 f128:=Tryz.func260.trans (congrArg some (by kernel_rfl))
 f129:=Tryz.func261.trans (congrArg some (by kernel_rfl))
 f189:=Tryz.func106.trans (congrArg some (by kernel_rfl))
 f215:=Tryz.func208.trans (congrArg some (by kernel_rfl))
 f216:=Tryz.func257.trans (congrArg some (by kernel_rfl))
 f257:=Tryz.func183.trans (congrArg some (by kernel_rfl))
 f294:=Tryz.func251.trans (congrArg some (by kernel_rfl))
 f295:=Tryz.func252.trans (congrArg some (by kernel_rfl))
 f296:=Tryz.func253.trans (congrArg some (by kernel_rfl))
 f297:=Tryz.func254.trans (congrArg some (by kernel_rfl))
 f298:=Tryz.func255.trans (congrArg some (by kernel_rfl))
 f299:=Tryz.func256.trans (congrArg some (by kernel_rfl))
 f300:=Tryz.func258.trans (congrArg some (by kernel_rfl))
 f301:=Tryz.func259.trans (congrArg some (by kernel_rfl))
 f328:=Tryz.func314.trans (congrArg some (by kernel_rfl))
 f329:=Tryz.func315.trans (congrArg some (by kernel_rfl))
 f330:=Tryz.func316.trans (congrArg some (by kernel_rfl))
 f331:=Tryz.func317.trans (congrArg some (by kernel_rfl))
 f332:=Tryz.func318.trans (congrArg some (by kernel_rfl))
 f343:=Tryz.func354.trans (congrArg some (by kernel_rfl))
 t0:=Tryz.underlying0
 a0:=Tryz.isAgg0
 z0:=Tryz.sizeOf0
 v0:=Tryz.zeroValue0
 t3:=Tryz.underlying3
 a3:=Tryz.isAgg3
 z3:=Tryz.sizeOf3
 v3:=Tryz.zeroValue3
 t4:=Tryz.underlying4
 a4:=Tryz.isAgg4
 z4:=Tryz.sizeOf4
 v4:=Tryz.zeroValue4
 t5:=Tryz.underlying5
 a5:=Tryz.isAgg5
 z5:=Tryz.sizeOf5
 v5:=Tryz.zeroValue5
 t9:=Tryz.underlying9
 a9:=Tryz.isAgg9
 z9:=Tryz.sizeOf9
 v9:=Tryz.zeroValue9
 t28:=Tryz.underlying37
 a28:=Tryz.isAgg37
 z28:=Tryz.sizeOf37
 v28:=Tryz.zeroValue37
 t46:=Tryz.underlying238
 a46:=Tryz.isAgg238
 z46:=Tryz.sizeOf238
 v46:=Tryz.zeroValue238
 t51:=Tryz.underlying235
 a51:=Tryz.isAgg235
 z51:=Tryz.sizeOf235
 v51:=Tryz.zeroValue235
 t53:=Tryz.underlying239
 a53:=Tryz.isAgg239
 z53:=Tryz.sizeOf239
 v53:=Tryz.zeroValue239
 t131:=Tryz.underlying115
 a131:=Tryz.isAgg115
 z131:=Tryz.sizeOf115
 v131:=Tryz.zeroValue115
 t182:=Tryz.underlying287
 a182:=Tryz.isAgg287
 z182:=Tryz.sizeOf287
 v182:=Tryz.zeroValue287
 t183:=Tryz.underlying288
 a183:=Tryz.isAgg288
 z183:=Tryz.sizeOf288
 v183:=Tryz.zeroValue288
 t218:=Tryz.underlying326
 a218:=Tryz.isAgg326
 z218:=Tryz.sizeOf326
 v218:=Tryz.zeroValue326
 t222:=Tryz.underlying160
 a222:=Tryz.isAgg160
 z222:=Tryz.sizeOf160
 v222:=Tryz.zeroValue160
 t228:=Tryz.underlying363
 a228:=Tryz.isAgg363
 z228:=Tryz.sizeOf363
 v228:=Tryz.zeroValue363
 t229:=Tryz.underlying364
 a229:=Tryz.isAgg364
 z229:=Tryz.sizeOf364
 v229:=Tryz.zeroValue364 }
open Go.RowKit Go.Sort Go.Lib in
theorem Tryz.slices_Sort_int_none (p:Option Addr) (cap:Nat) (w:World) :
 Calls Tryz.prog 106 #[.slice p 0 cap] w fun e w'=>e=.returned (.tuple #[])∧w'=w:=Any.slices_Sort_int_none Tryz.lays189 p cap w
end Go.Proofs
