/-
  Contracts of small functions of value, message and stamp: each returns what the Lean function of the same name says, and leaves what was there as it was. No conditions.
-/
import Derived.Test.YthjlgpmajeafpaaGreatDoorBase
import Derived.Test.YthjlgpmajeafpaaGreatDoorProg
import Derived.WalkKit
import Derived.WalkLawsBesides
import Derived.WalkSpells
import Derived.Outline
import Derived.BigQuiet
namespace Go.Proofs.YthjlgpmajeafpaaGreatDoor
open Go Go.RowKit
set_option linter.unusedVariables false
set_option linter.unusedSimpArgs false

def isNullB (k i s : Int) (t : ByteArray) (ll fl : Nat) : Bool := k == 0 && (i == 0 && (s == 0 && (t.toList.isEmpty && (((ll : Int) == 0) && ((fl : Int) == 0)))))
set_option maxHeartbeats 1000000 in
theorem isNull_call (k i s : Int) (t : ByteArray) (la : Option Addr) (ll lc : Nat) (fa : Option Addr) (fl fc : Nat) (w : World) :
    Calls Tryz.prog 76 #[.agg #[.int .i64 k, .int .i64 i, .int .i64 s, .string t, .slice la ll lc, .slice fa fl fc]] w fun e w' => e = .returned (.bool (isNullB k i s t ll fl)) ∧ Below w.heap.size w w' := by
  go_enter Tryz.func76, Tryz.ntmps76
  go_wp2
  all_goals go_ret
  all_goals exact ⟨by simp [isNullB, *], (Below.refl _ w).alloc (Nat.le_refl _) _⟩

def heavyB (n : Int) : Bool := decide (n < 0) || decide (1099511627776 < n)
theorem heavy_call (n : Int) (w : World) : Calls Tryz.prog 91 #[.int .i64 n] w fun e w' => e = .returned (.bool (heavyB n)) ∧ w = w' := by
  go_enter Tryz.func91, Tryz.ntmps91
  go_wp2
  all_goals go_ret
  all_goals exact ⟨by simp [heavyB, *], rfl⟩
def entryB (n : Int) : Bool := decide (1 ≤ n) && decide (n ≤ 1048576)
theorem entry_call (n : Int) (w : World) : Calls Tryz.prog 128 #[.int .i64 n] w fun e w' => e = .returned (.bool (entryB n)) ∧ w = w' := by
  go_enter Tryz.func128, Tryz.ntmps128
  by_cases h1 : 1 ≤ n <;> by_cases h2 : n ≤ 1048576
  all_goals go_wp2
  all_goals go_ret
  all_goals refine ⟨retB ?_, rfl⟩
  all_goals rw [entryB, Bool.eq_iff_iff]
  all_goals simp
  all_goals omega
def betweenE (n lo hi : Int) : Int := if n < lo ∨ hi < n then 2 else 0
theorem between_call (n lo hi : Int) (w : World) : Calls Tryz.prog 144 #[.int .i64 n, .int .i64 lo, .int .i64 hi] w fun e w' => e = .returned (.int .i64 (betweenE n lo hi)) ∧ w = w' := by
  go_enter Tryz.func144, Tryz.ntmps144
  by_cases h1 : n < lo <;> by_cases h2 : hi < n
  all_goals go_wp2
  all_goals go_ret
  all_goals exact ⟨by simp [betweenE, *], rfl⟩
def sizeE (n most e : Int) : Int := if most < n then e else 0
theorem size_call (n most e : Int) (w : World) : Calls Tryz.prog 149 #[.int .i64 n, .int .i64 most, .int .i64 e] w fun e' w' => e' = .returned (.int .i64 (sizeE n most e)) ∧ w = w' := by
  go_enter Tryz.func149, Tryz.ntmps149
  by_cases h1 : most < n
  all_goals go_wp2
  all_goals go_ret
  all_goals exact ⟨retI (by first | rw [sizeE, if_pos (by omega)] | rw [sizeE, if_neg (by omega)]), rfl⟩

end Go.Proofs.YthjlgpmajeafpaaGreatDoor
