/-
  The rules of the kinds of values (value.rules): each returns what the Lean function of its kind says. Conditions: the value can be read as data; for texts, the tables of unicode/utf8 hold what the library lays.
-/
import Derived.Test.YthjlgpmajeafpaaGreatDoorSmall
import Derived.Test.YthjlgpmajeafpaaGreatDoorName
import Derived.WalkKit
import Derived.WalkLawsBesides
import Derived.WalkSpells
import Derived.Outline
import Derived.BigQuiet
import Derived.Deep.QuietTactic
import Derived.Deep.RegionHeld3
import Derived.Deep.DrawnRows
namespace Go.Proofs.YthjlgpmajeafpaaGreatDoor
open Go Go.RowKit
set_option linter.unusedVariables false
set_option linter.unusedSimpArgs false
attribute [local go_sem ↓] Go.wp_at_zero Go.wp_at_succ

abbrev vArg (k i s : Int) (t : ByteArray) (la : Option Addr) (ll lc : Nat) (fa : Option Addr) (fl fc : Nat) : Value := .agg #[.int .i64 k, .int .i64 i, .int .i64 s, .string t, .slice la ll lc, .slice fa fl fc]

section
variable (k i s : Int) (t : ByteArray) (la : Option Addr) (ll lc : Nat) (fa : Option Addr) (fl fc : Nat) (w : World)
theorem rule1_call : Calls Tryz.prog 143 #[vArg k i s t la ll lc fa fl fc] w fun e w' => e = .returned (.int .i64 (betweenE i 0 1)) ∧ Below w.heap.size w w' := by
  go_enter Tryz.func143, Tryz.ntmps143
  go_wp2_with (go_at_call 144; refine (between_call _ _ _ _).mono ?_; rintro e w' ⟨rfl, rfl⟩)
  go_ret
  exact ⟨rfl, (Below.refl _ w).alloc (Nat.le_refl _) _⟩
theorem rule2_call : Calls Tryz.prog 145 #[vArg k i s t la ll lc fa fl fc] w fun e w' => e = .returned (.int .i64 (betweenE i (-999999999999999) 999999999999999)) ∧ Below w.heap.size w w' := by
  go_enter Tryz.func145, Tryz.ntmps145
  go_wp2_with (go_at_call 144; refine (between_call _ _ _ _).mono ?_; rintro e w' ⟨rfl, rfl⟩)
  go_ret
  exact ⟨rfl, (Below.refl _ w).alloc (Nat.le_refl _) _⟩
theorem rule6_call : Calls Tryz.prog 152 #[vArg k i s t la ll lc fa fl fc] w fun e w' => e = .returned (.int .i64 (betweenE i (-719162) 2932896)) ∧ Below w.heap.size w w' := by
  go_enter Tryz.func152, Tryz.ntmps152
  go_wp2_with (go_at_call 144; refine (between_call _ _ _ _).mono ?_; rintro e w' ⟨rfl, rfl⟩)
  go_ret
  exact ⟨rfl, (Below.refl _ w).alloc (Nat.le_refl _) _⟩
theorem rule7_call : Calls Tryz.prog 153 #[vArg k i s t la ll lc fa fl fc] w fun e w' => e = .returned (.int .i64 (betweenE i (-62135596800000) 253402300799999)) ∧ Below w.heap.size w w' := by
  go_enter Tryz.func153, Tryz.ntmps153
  go_wp2_with (go_at_call 144; refine (between_call _ _ _ _).mono ?_; rintro e w' ⟨rfl, rfl⟩)
  go_ret
  exact ⟨rfl, (Below.refl _ w).alloc (Nat.le_refl _) _⟩
theorem rule5_call : Calls Tryz.prog 151 #[vArg k i s t la ll lc fa fl fc] w fun e w' => e = .returned (.int .i64 (sizeE t.size 1024 5)) ∧ Below w.heap.size w w' := by
  go_enter Tryz.func151, Tryz.ntmps151
  go_wp2_with (go_at_call 149; refine (size_call _ _ _ _).mono ?_; rintro e w' ⟨rfl, rfl⟩)
  go_ret
  exact ⟨rfl, (Below.refl _ w).alloc (Nat.le_refl _) _⟩
theorem rule8_call : Calls Tryz.prog 154 #[vArg k i s t la ll lc fa fl fc] w fun e w' => e = .returned (.int .i64 (sizeE ll 256 9)) ∧ Below w.heap.size w w' := by
  go_enter Tryz.func154, Tryz.ntmps154
  go_wp2_with (go_at_call 149; refine (size_call _ _ _ _).mono ?_; rintro e w' ⟨rfl, rfl⟩)
  go_ret
  exact ⟨rfl, (Below.refl _ w).alloc (Nat.le_refl _) _⟩

def variantE (t : ByteArray) (ll : Nat) : Int := if isNameB t = false then 12 else if ll = 0 then 4 else sizeE ll 1 3
set_option maxHeartbeats 1000000 in
theorem rule10_call (ht : t.size ≤ 140737488351232) : Calls Tryz.prog 157 #[vArg k i s t la ll lc fa fl fc] w fun e w' => e = .returned (.int .i64 (variantE t ll)) ∧ Below w.heap.size w w' := by
  by_cases hn : isNameB t = false
  · have HR := hid (show variantE t ll = 12 by simp [variantE, hn])
    have hc := fun w => (isName_call t w ht).mono (R' := fun e w' => e = .returned (.bool false) ∧ Below w.heap.size w w') (fun e w' h => ⟨h.1.trans (by rw [hn]), h.2⟩)
    have HC := hid hc; clear hc hn
    go_enter Tryz.func157, Tryz.ntmps157
    go_wp2_with (go_at_call 156; refine (HC.out _).mono ?_; rintro e w1 ⟨rfl, hb⟩)
    go_ret
    exact ⟨retI HR.out.symm, ((Below.refl _ w).alloc (Nat.le_refl _) _).trans (hb.mono (by simp))⟩
  · have hn' : isNameB t = true := by simpa using hn
    have hc := fun w => (isName_call t w ht).mono (R' := fun e w' => e = .returned (.bool true) ∧ Below w.heap.size w w') (fun e w' h => ⟨h.1.trans (by rw [hn']), h.2⟩)
    have HC := hid hc; clear hc
    by_cases h0 : ll = 0
    · have HR := hid (show variantE t ll = 4 by simp [variantE, hn', h0])
      clear hn hn'
      subst h0
      go_enter Tryz.func157, Tryz.ntmps157
      go_wp2_with (go_at_call 156; refine (HC.out _).mono ?_; rintro e w1 ⟨rfl, hb⟩; have hc4 : w1.cell? ⟨w.heap.size, 4, none⟩ = some (.slice la 0 lc) := cellOf (heapExt hb (heap_alloc_new w _)) 4)
      go_ret
      exact ⟨retI HR.out.symm, ((Below.refl _ w).alloc (Nat.le_refl _) _).trans (hb.mono (by simp))⟩
    · have HR := hid (show variantE t ll = sizeE ll 1 3 by simp [variantE, hn', h0])
      clear hn hn'
      have h0' : ((ll : Int) == 0) = false := by simp; omega
      go_enter Tryz.func157, Tryz.ntmps157
      go_wp2_with (first | (go_at_call 156; refine (HC.out _).mono ?_; rintro e w1 ⟨rfl, hb⟩; have hc4 : w1.cell? ⟨w.heap.size, 4, none⟩ = some (.slice la ll lc) := cellOf (heapExt hb (heap_alloc_new w _)) 4) | (go_at_call 149; refine (size_call _ _ _ _).mono ?_; rintro e w' ⟨rfl, rfl⟩))
      go_ret
      exact ⟨retI HR.out.symm, ((Below.refl _ w).alloc (Nat.le_refl _) _).trans (hb.mono (by simp))⟩

/-- value.first of two errors. -/
def first2 (a b : Int) : Int := if a ≠ 0 then a else b
theorem first_two (a b : Int) (g : Nat) (w : World) (h : w.heap[g]? = some (.cells #[.int .i64 a, .int .i64 b] 59 (0, 0))) : Calls Tryz.prog 147 #[.slice (some ⟨g, 0, none⟩) 2 2] w fun e w' => e = .returned (.int .i64 (first2 a b)) ∧ w = w' := by
  have c0 : w.cell? ⟨g, 0, none⟩ = some (.int .i64 a) := cellOf h 0
  have c1 : w.cell? ⟨g, 1, none⟩ = some (.int .i64 b) := cellOf h 1
  clear h
  by_cases ha : a = 0
  · by_cases hb : b = 0
    · subst ha; subst hb
      go_enter Tryz.func147, Tryz.ntmps147
      go_wp2
      refine wp_loop_rounds 3 ?_
      rw [rounds_succ]
      go_wp2
      rw [rounds_succ]
      go_wp2
      rw [rounds_succ]
      go_wp2
      go_ret
      exact ⟨retI (by simp [first2]), rfl⟩
    · subst ha
      have hb' : (b != 0) = true := by simpa using hb
      go_enter Tryz.func147, Tryz.ntmps147
      go_wp2
      refine wp_loop_rounds 2 ?_
      rw [rounds_succ]
      go_wp2
      rw [rounds_succ]
      go_wp2
      go_ret
      exact ⟨retI (by simp [first2]), rfl⟩
  · have ha' : (a != 0) = true := by simpa using ha
    go_enter Tryz.func147, Tryz.ntmps147
    go_wp2
    refine wp_loop_rounds 1 ?_
    rw [rounds_succ]
    go_wp2
    go_ret
    exact ⟨retI (by simp [first2, ha]), rfl⟩
end
end Go.Proofs.YthjlgpmajeafpaaGreatDoor
