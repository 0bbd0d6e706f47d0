/-
  Plain: in the state of k slots whose keys are the ints 0 .. k-1 exactly these ints are found. No program in sight.
-/
import Derived.Test.YthjlgpmajeafpaaGreatDoorLineMrg
import Derived.Test.YthjlgpmajeafpaaGreatDoorPutMrg
namespace Go.Proofs.YthjlgpmajeafpaaGreatDoor
open Go Go.RowKit
set_option linter.unusedVariables false
set_option linter.unusedSimpArgs false

theorem longF_get : ∀ (m j i : Nat) (h : i < (longF j m).length), (longF j m)[i] = mkS ((j + i : Nat) : Int)
  | 0, _, _, h => absurd h (by simp [longF])
  | m + 1, j, 0, h => rfl
  | m + 1, j, i + 1, h => by
    have h1 := longF_get m (j + 1) i (by simpa [longF] using h)
    have e : (longF j (m + 1))[i + 1] = (longF (j + 1) m)[i]'(by simpa [longF] using h) := rfl
    rw [e, h1]
    congr 2
    omega
theorem intV_lt {i j : Int} (h : i < j) : cmpV (intV i) (intV j) < 0 := by
  have h1 := intV_cmp h
  have h2 := cmpV_anti (intV i) (intV j)
  omega
theorem intV_eq {i j : Int} (h : cmpV (intV i) (intV j) = 0) : i = j := by
  rcases Int.lt_trichotomy i j with h1 | h1 | h1
  · have := intV_lt h1; omega
  · exact h1
  · have := intV_cmp h1; omega
theorem long_srt (k : Nat) : Srt (longF 0 k) := fun j h => by
  rw [longF_get, longF_get]
  exact intV_lt (by omega)
theorem long_place {k : Nat} {key : Int} (h0 : 0 ≤ key) (h1 : key < k) : placeI (longF 0 k) (intV key) = key.toNat ∧ placeB (longF 0 k) (intV key) = true := by
  have hl := longF_len k 0
  have hp : placeI (longF 0 k) (intV key) = key.toNat := by
    refine placeI_of (by omega) (fun j hj hjp => ?_) (fun h => ?_)
    · rw [longF_get]
      exact intV_lt (by omega)
    · rw [longF_get]
      have e : (((0 + key.toNat : Nat) : Nat) : Int) = key := by omega
      rw [e]
      show 0 ≤ cmpV (intV key) (intV key)
      rw [cmpV_refl]
      exact Int.le_refl _
  refine ⟨hp, ?_⟩
  rw [placeB, hp, List.getElem?_eq_getElem (by omega), longF_get]
  have e : (((0 + key.toNat : Nat) : Nat) : Int) = key := by omega
  rw [e]
  show (cmpV (intV key) (intV key) == 0) = true
  rw [cmpV_refl]
  rfl
theorem long_none {k : Nat} {key : Int} (h : ¬ (0 ≤ key ∧ key < k)) : placeB (longF 0 k) (intV key) = false := by
  cases hb : placeB (longF 0 k) (intV key)
  · rfl
  · exfalso
    have hl := longF_len k 0
    have hp := placeB_lt hb
    rw [placeB, List.getElem?_eq_getElem hp, longF_get] at hb
    have h1 : cmpV (intV ((0 + placeI (longF 0 k) (intV key) : Nat) : Int)) (intV key) = 0 := by
      have h0 : cmpV (mkS ((0 + placeI (longF 0 k) (intV key) : Nat) : Int)).k (intV key) = 0 := eq_of_beq hb
      exact h0
    have h2 := intV_eq h1
    exact h ⟨by omega, by omega⟩
abbrev keyC' (i t : Int) : SlC := ⟨⟨2, i, 0, ⟨#[]⟩, none, 0, 0, none, 0, 0⟩, 0, t, none, 0, 0, none, 0, 0⟩
abbrev keyS (i t : Int) : Slot := ⟨intV i, 0, t, [], []⟩
theorem keyC_is (S : Nat → Prop) (w : World) {i t : Int} (hi : I64 i) (ht : I64 t) : IsSl S w (keyC' i t) (keyS i t) := by
  have z0 : I64 0 := ⟨by decide, by decide⟩
  have z2 : I64 2 := ⟨by decide, by decide⟩
  have n1 : (0 : Nat) * 88 ≤ 140737488351232 := by decide
  have n2 : (0 : Nat) * 104 ≤ 140737488351232 := by decide
  have n3 : (ByteArray.mk #[]).size ≤ 140737488351232 := by decide
  have n4 : (0 : Nat) * 152 ≤ 140737488351232 := by decide
  exact ⟨⟨⟨rfl, rfl, rfl, rfl, ⟨z2, hi, z0, n3, n1, n2, Nat.le_refl 0, Nat.le_refl 0⟩, rfl, rfl, rfl⟩, .inl rfl, .inl rfl⟩, rfl, z0, rfl, ht, ⟨rfl, Nat.le_refl _, n4, .inl rfl⟩, ⟨rfl, Nat.le_refl _, n1, .inl rfl⟩⟩
theorem keyV_is (S : Nat → Prop) (w : World) {i : Int} (hi : I64 i) : IsVal S w ⟨2, i, 0, ⟨#[]⟩, none, 0, 0, none, 0, 0⟩ (intV i) := (keyC_is S w hi (t := 0) ⟨by decide, by decide⟩).k
end Go.Proofs.YthjlgpmajeafpaaGreatDoor
