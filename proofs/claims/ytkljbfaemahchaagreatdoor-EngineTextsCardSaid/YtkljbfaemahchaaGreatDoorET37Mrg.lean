/-
  DERIVED: THE SHELF's CONTRACTS AT THIS DUMP, IN PLAIN WORDS (tools/lay-plain.mjs out of 'TryzShelf8.lean', which tools/lay-shelf.mjs wrote): THE SAME DECLARATIONS UNDER THE SAME NAMES: 'import', 'namespace', 'open', 'def', 'theorem' AND NOTHING ELSE: no command of the shelf's: FOR A HAND-IN. Each laying: the table of numbers ('.._ren') and one theorem, a field a fact of the dump's own or the kernel's comparison; each contract: ONE APPLICATION.
-/
import Derived.Shelf.SlSortCmp.WholeK
import Derived.Ground.SlsfProg
import Derived.Test.YtkljbfaemahchaaGreatDoorProg
namespace Go.Proofs
set_option linter.unusedVariables false
set_option linter.unusedSimpArgs false
open Go.Shelf
def Tryz.sortFld_ren : Go.Shelf.Ren := ⟨fun | 6 => 123 | 15 => 131 | 14 => 196 | 28 => 209 | 29 => 210 | 20 => 270 | 21 => 271 | 22 => 272 | 23 => 273 | 24 => 274 | 25 => 275 | 26 => 276 | 27 => 277 | 46 => 332 | 47 => 288 | 48 => 289 | 49 => 333 | 50 => 334 | 57 => 360 | n => n, fun | 22 => 41 | 24 => 95 | 25 => 192 | 3 => 3 | 39 => 196 | 0 => 0 | 53 => 261 | 55 => 263 | 4 => 4 | 46 => 255 | 45 => 254 | 50 => 98 | 5 => 5 | 9 => 9 | 66 => 311 | 70 => 119 | 76 => 350 | 77 => 351 | n => n, fun | n => n⟩
theorem Tryz.sortFld : Go.Proofs.SlLaysF0.n6 Tryz.prog Tryz.sortFld_ren := {
  mixed := by kernel_rfl
  f6 := ⟨Tryz.f123.name, by decide, Tryz.func123.trans (congrArg some (by kernel_rfl))⟩
  f14 := ⟨Tryz.f196.name, by decide, Tryz.func196.trans (congrArg some (by kernel_rfl))⟩
  f15 := Tryz.func131.trans (congrArg some (by kernel_rfl))
  f20 := ⟨Tryz.f270.name, by decide, Tryz.func270.trans (congrArg some (by kernel_rfl))⟩
  f21 := ⟨Tryz.f271.name, by decide, Tryz.func271.trans (congrArg some (by kernel_rfl))⟩
  f22 := ⟨Tryz.f272.name, by decide, Tryz.func272.trans (congrArg some (by kernel_rfl))⟩
  f23 := ⟨Tryz.f273.name, by decide, Tryz.func273.trans (congrArg some (by kernel_rfl))⟩
  f24 := ⟨Tryz.f274.name, by decide, Tryz.func274.trans (congrArg some (by kernel_rfl))⟩
  f25 := ⟨Tryz.f275.name, by decide, Tryz.func275.trans (congrArg some (by kernel_rfl))⟩
  f26 := ⟨Tryz.f276.name, by decide, Tryz.func276.trans (congrArg some (by kernel_rfl))⟩
  f27 := ⟨Tryz.f277.name, by decide, Tryz.func277.trans (congrArg some (by kernel_rfl))⟩
  f28 := Tryz.func209.trans (congrArg some (by kernel_rfl))
  f29 := Tryz.func210.trans (congrArg some (by kernel_rfl))
  f46 := ⟨Tryz.f332.name, by decide, Tryz.func332.trans (congrArg some (by kernel_rfl))⟩
  f47 := Tryz.func288.trans (congrArg some (by kernel_rfl))
  f48 := Tryz.func289.trans (congrArg some (by kernel_rfl))
  f49 := ⟨Tryz.f333.name, by decide, Tryz.func333.trans (congrArg some (by kernel_rfl))⟩
  f50 := ⟨Tryz.f334.name, by decide, Tryz.func334.trans (congrArg some (by kernel_rfl))⟩
  f57 := ⟨Tryz.f360.name, by decide, Tryz.func360.trans (congrArg some (by kernel_rfl))⟩
  t0 := Tryz.underlying0
  a0 := Tryz.isAgg0
  z0 := Tryz.sizeOf0
  v0 := Tryz.zeroValue0
  t3 := Tryz.underlying3
  a3 := Tryz.isAgg3
  z3 := Tryz.sizeOf3
  v3 := Tryz.zeroValue3
  t4 := Tryz.underlying4
  a4 := Tryz.isAgg4
  z4 := Tryz.sizeOf4
  v4 := Tryz.zeroValue4
  t5 := Tryz.underlying5
  a5 := Tryz.isAgg5
  z5 := Tryz.sizeOf5
  v5 := Tryz.zeroValue5
  t9 := Tryz.underlying9
  a9 := Tryz.isAgg9
  z9 := Tryz.sizeOf9
  v9 := Tryz.zeroValue9
  t22 := Tryz.underlying41
  a22 := Tryz.isAgg41
  z22 := Tryz.sizeOf41
  v22 := Tryz.zeroValue41
  t25 := Tryz.underlying192
  a25 := Tryz.isAgg192
  z25 := Tryz.sizeOf192
  v25 := Tryz.zeroValue192
  t39 := Tryz.underlying196
  a39 := Tryz.isAgg196
  z39 := Tryz.sizeOf196
  v39 := Tryz.zeroValue196
  t45 := Tryz.underlying254
  a45 := Tryz.isAgg254
  z45 := Tryz.sizeOf254
  v45 := Tryz.zeroValue254
  t46 := Tryz.underlying255
  a46 := Tryz.isAgg255
  z46 := Tryz.sizeOf255
  v46 := Tryz.zeroValue255
  t50 := Tryz.underlying98
  a50 := Tryz.isAgg98
  z50 := Tryz.sizeOf98
  v50 := Tryz.zeroValue98
  t53 := Tryz.underlying261
  a53 := Tryz.isAgg261
  z53 := Tryz.sizeOf261
  v53 := Tryz.zeroValue261
  t55 := Tryz.underlying263
  a55 := Tryz.isAgg263
  z55 := Tryz.sizeOf263
  v55 := Tryz.zeroValue263
  t66 := Tryz.underlying311
  a66 := Tryz.isAgg311
  z66 := Tryz.sizeOf311
  v66 := Tryz.zeroValue311
  t70 := Tryz.underlying119
  a70 := Tryz.isAgg119
  z70 := Tryz.sizeOf119
  v70 := Tryz.zeroValue119
  t76 := Tryz.underlying350
  a76 := Tryz.isAgg350
  z76 := Tryz.sizeOf350
  v76 := Tryz.zeroValue350
  t77 := Tryz.underlying351
  a77 := Tryz.isAgg351
  z77 := Tryz.sizeOf351
  v77 := Tryz.zeroValue351 }
open Go.RowKit Go.Lib Go.Sort in
theorem Tryz.slices_SortFunc_fld {α : Type} [Inhabited α] (enc : α → List Value) (hk : ∀ x, (enc x).length = 7) (h1 : ∀ x, ∀ v ∈ enc x, v.oneCell' = true) (cf : α → α → Int) (hO : SWO (ltOf cf)) (g : Nat) (cb : Array Value) (blk off cap : Nat) (d : Array α) (w : World)
    (eg : ∀ args w, (callFunc g args).run Tryz.prog w = .ok (.enter g args) w) (hcmp : CmpLays Tryz.prog g cb enc 7 cf blk off d.size w) (hH : HoldsK enc 7 w blk off d) (hblk : blk < w.heap.size) (hsz : d.size < 4611686018427387904) :
    Calls Tryz.prog 123 #[.slice (some ⟨blk, off, none⟩) d.size cap, .func (.func g) #[] cb] w fun e w' =>
      e = .returned (.tuple #[]) ∧ ∃ d' n os, PermIn 0 d.size d d' ∧ SortedIn (ltOf cf) 0 d.size d' ∧ w' = sortWorldK enc 7 w blk off n d' os := AnyQ.slices_SortFunc Tryz.sortFld 7 Tryz.isAgg95 Tryz.sizeOf95 enc hk h1 cf hO g cb blk off cap d w eg hcmp hH hblk hsz
end Go.Proofs
