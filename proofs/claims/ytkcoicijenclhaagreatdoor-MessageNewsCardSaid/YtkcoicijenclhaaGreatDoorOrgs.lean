/-
  Plain: the origins 1 + f, 3 + f, .. that MessageOrigins lays: they rise, and a message with them is checked as its number says. No program in sight.
-/
import Derived.Test.YtkcoicijenclhaaGreatDoorMsg
namespace Go.Proofs.YtkcoicijenclhaaGreatDoor
open Go Go.RowKit
set_option linter.unusedVariables false
set_option linter.unusedSimpArgs false

def orgs (f : Int) (n : Nat) : List Int := (List.range n).map fun (i : Nat) => 1 + f + 2 * (i : Int)
theorem orgs_length (f : Int) (n : Nat) : (orgs f n).length = n := by simp [orgs]
theorem orgs_get (f : Int) (n i : Nat) (h : i < (orgs f n).length) : (orgs f n)[i] = 1 + f + 2 * (i : Int) := by simp [orgs]
theorem orgs_succ (f : Int) (n : Nat) : orgs f (n + 1) = orgs f n ++ [1 + f + 2 * (n : Int)] := by simp [orgs, List.range_succ]
theorem orgs_zero (f : Int) : orgs f 0 = [] := rfl
theorem orgs_ent (f : Int) (n : Nat) (h0 : 0 ≤ f) (h1 : f ≤ 65535) (hn : n ≤ 4097) : entAt (orgs f n) 0 = 0 := by
  have key : ∀ k, k ≤ n → entAt (orgs f n) 0 = entAt (orgs f n) k := by
    intro k
    induction k with
    | zero => intro _; rfl
    | succ k ih =>
      intro hk
      have hkl : k < (orgs f n).length := by rw [orgs_length]; omega
      rw [ih (by omega)]
      refine entAt_step _ k hkl ?_ ?_
      · rw [orgs_get, entryB]; simp; omega
      · by_cases hk0 : k = 0
        · exact .inl hk0
        · refine .inr ?_
          rw [orgs_get, orgs_get]
          omega
  rw [key n (Nat.le_refl n)]
  have := entAt_end (orgs f n)
  rw [orgs_length] at this
  exact this
def noV : Val := .mk 0 0 0 ⟨#[]⟩ [] [] []
theorem orgs_msg (f : Int) (n : Nat) (h0 : 0 ≤ f) (h1 : f ≤ 65535) (hn1 : 1 ≤ n) (hn : n ≤ 4097) : msgE ⟨⟨1, [1]⟩, 0, orgs f n, noV⟩ = if n ≤ 4096 then 0 else 9 := by
  have hs : stampE ⟨1, [1]⟩ = 0 := by decide
  have hne : orgs f n ≠ [] := fun h => by have := orgs_length f n; rw [h] at this; simp at this; omega
  have hb : bodyE noV = 0 := by rw [bodyE, if_pos (by kernel_rfl)]
  have he := orgs_ent f n h0 h1 hn
  unfold msgE
  simp only [hs, he, hb, orgs_length]
  rw [if_neg (by decide), if_neg (by decide), if_neg hne]
  by_cases h : n ≤ 4096
  · rw [if_neg (by omega), if_neg (by decide), if_pos h]
  · rw [if_pos (by omega), if_neg h]
end Go.Proofs.YtkcoicijenclhaaGreatDoor
