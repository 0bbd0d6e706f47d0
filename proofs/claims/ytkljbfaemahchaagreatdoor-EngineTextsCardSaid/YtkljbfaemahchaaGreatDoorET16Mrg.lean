/-
  DERIVED: THE SHELF's CONTRACTS AT THIS DUMP, IN PLAIN WORDS (tools/lay-plain.mjs out of 'TryzShelf7.lean', which tools/lay-shelf.mjs wrote): THE SAME DECLARATIONS UNDER THE SAME NAMES: 'import', 'namespace', 'open', 'def', 'theorem' AND NOTHING ELSE: no command of the shelf's: FOR A HAND-IN. Each laying: the table of numbers ('.._ren') and one theorem, a field a fact of the dump's own or the kernel's comparison; each contract: ONE APPLICATION.
-/
import Derived.Shelf.Spec.TrailingZeros
import Derived.Ground.Names7Prog
import Derived.Test.YtkljbfaemahchaaGreatDoorProg
namespace Go.Proofs
set_option linter.unusedVariables false
set_option linter.unusedSimpArgs false
open Go.Shelf
def Tryz.lays27_ren : Go.Shelf.Ren := ⟨fun | 27 => 340 | 28 => 361 | 29 => 362 | n => n, fun | 25 => 196 | 3 => 3 | 27 => 261 | 22 => 263 | 4 => 4 | 53 => 377 | 0 => 0 | 5 => 5 | 54 => 378 | n => n, fun | 0 => 6 | 1 => 7 | n => n⟩
theorem Tryz.lays27 : Go.Proofs.Lays7.n27 Tryz.prog Tryz.lays27_ren := {
  mixed := by kernel_rfl
  f27 := Tryz.func340.trans (congrArg some (by kernel_rfl))
  f28 := Tryz.func361.trans (congrArg some (by kernel_rfl))
  f29 := Tryz.func362.trans (congrArg some (by kernel_rfl))
  t0 := Tryz.underlying0
  a0 := Tryz.isAgg0
  z0 := Tryz.sizeOf0
  v0 := Tryz.zeroValue0
  i0 := by kernel_rfl
  t3 := Tryz.underlying3
  a3 := Tryz.isAgg3
  z3 := Tryz.sizeOf3
  v3 := Tryz.zeroValue3
  i3 := by kernel_rfl
  t4 := Tryz.underlying4
  a4 := Tryz.isAgg4
  z4 := Tryz.sizeOf4
  v4 := Tryz.zeroValue4
  i4 := by kernel_rfl
  t5 := Tryz.underlying5
  a5 := Tryz.isAgg5
  z5 := Tryz.sizeOf5
  v5 := Tryz.zeroValue5
  i5 := by kernel_rfl
  t22 := Tryz.underlying263
  a22 := Tryz.isAgg263
  z22 := Tryz.sizeOf263
  v22 := Tryz.zeroValue263
  i22 := by kernel_rfl
  t25 := Tryz.underlying196
  a25 := Tryz.isAgg196
  z25 := Tryz.sizeOf196
  v25 := Tryz.zeroValue196
  i25 := by kernel_rfl
  t27 := Tryz.underlying261
  a27 := Tryz.isAgg261
  z27 := Tryz.sizeOf261
  v27 := Tryz.zeroValue261
  i27 := by kernel_rfl
  t53 := Tryz.underlying377
  a53 := Tryz.isAgg377
  z53 := Tryz.sizeOf377
  v53 := Tryz.zeroValue377
  i53 := by kernel_rfl
  t54 := Tryz.underlying378
  a54 := Tryz.isAgg378
  z54 := Tryz.sizeOf378
  g0 := by kernel_rfl
  g1 := by kernel_rfl }
open Go.RowKit Go.Lib in
theorem Tryz.bits_TrailingZeros (x : Nat) (hx : x < 18446744073709551616) (w : World) (hT : x ≠ 0 → TabAt 7 Lib.deBruijn64tab w) :
    Calls Tryz.prog 340 #[.int .u64 x] w fun e w' => e = .returned (.int .i64 (Lib.ctz 64 x)) ∧ w' = w := Any7.bits_TrailingZeros Tryz.lays27 x hx w hT
end Go.Proofs
