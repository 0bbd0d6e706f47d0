/-
  Plain: what Compare's functions say of equal data. No walk.
-/
import Derived.Test.YthjlgpmajeafpaaGreatDoorSame2
namespace Go.Proofs.YthjlgpmajeafpaaGreatDoor
open Go Go.RowKit
set_option linter.unusedVariables false
set_option linter.unusedSimpArgs false

theorem cmpInt_refl (x : Int) : Lib.compareInt x x = 0 := by simp [Lib.compareInt]
theorem cmpInt_zero {x y : Int} (h : Lib.compareInt x y = 0) : x = y := by
  unfold Lib.compareInt at h
  repeat' split at h
  all_goals first | omega | cases h
theorem cmpI_zero : ∀ {xs ys : List Int}, cmpI xs ys = 0 ↔ xs = ys
  | [], [] => by simp [cmpI]
  | [], _ :: _ => by simp [cmpI]
  | _ :: _, [] => by simp [cmpI]
  | x :: r, y :: s => by
    rw [cmpI]
    by_cases h : Lib.compareInt x y = 0
    · rw [if_neg (by simpa using h), cmpI_zero]
      have := cmpInt_zero h
      simp [this]
    · rw [if_pos h]
      constructor
      · intro h1; exact absurd h1 h
      · intro h1; injection h1 with h2 _; subst h2; exact absurd (cmpInt_refl x) h
theorem cmpB_refl : ∀ (xs : List UInt8), Lib.compareBytes xs xs = 0
  | [] => rfl
  | a :: r => by
    rw [Lib.compareBytes, if_neg (by simp), if_neg (by simp)]
    exact cmpB_refl r
mutual
theorem cmpV_refl : ∀ (d : Val), cmpV d d = 0
  | .mk k i s t l ns fs => by
    rw [cmpV, cmpInt_refl, cmpInt_refl, cmpInt_refl, cmpB_refl, cmpVs_refl l, cmpFs_refl fs ns]
    rfl
theorem cmpVs_refl : ∀ (l : List Val), cmpVs l l = 0
  | [] => rfl
  | d :: l => by
    rw [cmpVs, cmpV_refl d, if_neg (by simp)]
    exact cmpVs_refl l
theorem cmpFs_refl : ∀ (l : List Val) (ns : List ByteArray), cmpFs ns l ns l = 0
  | [], ns => by rw [cmpFs]
  | d :: l, ns => by
    rw [cmpFs, cmpB_refl, cmpV_refl d, if_neg (by simp [orL])]
    exact cmpFs_refl l ns.tail
end
theorem stEqB_refl (d : St) : stEqB d d = true := by simp [stEqB]
theorem msgEqB_refl (d : Msg) : msgEqB d d = true := by simp [msgEqB, stEqB_refl, cmpV_refl]
end Go.Proofs.YthjlgpmajeafpaaGreatDoor
