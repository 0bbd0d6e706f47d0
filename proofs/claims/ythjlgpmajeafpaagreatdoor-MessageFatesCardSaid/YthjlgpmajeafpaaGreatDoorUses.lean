/-
  Contracts of small functions of value, message and stamp: each returns what the Lean function of the same name says, and leaves what was there as it was. No conditions.
-/
import Derived.Test.YthjlgpmajeafpaaGreatDoorBase
import Derived.Test.YthjlgpmajeafpaaGreatDoorProg
import Derived.WalkKit
import Derived.WalkLawsBesides
import Derived.WalkSpells
import Derived.Outline
import Derived.BigQuiet
namespace Go.Proofs.YthjlgpmajeafpaaGreatDoor
open Go Go.RowKit
set_option linter.unusedVariables false
set_option linter.unusedSimpArgs false

def numK (k : Int) : Bool := k == 1 || k == 2 || k == 6 || k == 7 || k == 3
def textK (k : Int) : Bool := k == 4 || k == 5 || k == 10
def listK (k : Int) : Bool := k == 8 || k == 10
def usesB (k i s : Int) (t : ByteArray) (ll fl : Nat) : Bool := (numK k || i == 0) && ((k == 3 || s == 0) && ((textK k || t.toList.isEmpty) && ((listK k || ((ll : Int) == 0)) && (k == 9 || ((fl : Int) == 0)))))
set_option maxHeartbeats 8000000 in
theorem uses_call (k i s : Int) (t : ByteArray) (la : Option Addr) (ll lc : Nat) (fa : Option Addr) (fl fc : Nat) (w : World) (hk : 1 ≤ k ∧ k ≤ 10) :
    Calls Tryz.prog 121 #[.agg #[.int .i64 k, .int .i64 i, .int .i64 s, .string t, .slice la ll lc, .slice fa fl fc]] w fun e w' => e = .returned (.bool (usesB k i s t ll fl)) ∧ Below w.heap.size w w' := by
  have : k = 1 ∨ k = 2 ∨ k = 3 ∨ k = 4 ∨ k = 5 ∨ k = 6 ∨ k = 7 ∨ k = 8 ∨ k = 9 ∨ k = 10 := by omega
  clear hk
  rcases this with rfl | rfl | rfl | rfl | rfl | rfl | rfl | rfl | rfl | rfl
  all_goals
    go_enter Tryz.func121, Tryz.ntmps121
    go_wp2
    all_goals go_ret
    all_goals exact ⟨by simp [usesB, numK, textK, listK, *], (Below.refl _ w).alloc (Nat.le_refl _) _⟩
end Go.Proofs.YthjlgpmajeafpaaGreatDoor
