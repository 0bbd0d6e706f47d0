/-
  What is asked of the library's tables (Tabs), and the rule of texts (value.rules). Condition: Tabs.
-/
import Derived.Test.YthjlgpmajeafpaaGreatDoorShelf
import Derived.Test.YthjlgpmajeafpaaGreatDoorShelf2
import Derived.Test.YthjlgpmajeafpaaGreatDoorRules2
namespace Go.Proofs.YthjlgpmajeafpaaGreatDoor
open Go Go.RowKit
set_option linter.unusedVariables false
set_option linter.unusedSimpArgs false

/-- The tables of unicode/utf8 and of internal/strconv hold what the library lays. -/
def Tabs (w : World) : Prop := Lib.Utf8Tabs (Tryz.laysValid_ren.g 3) (Tryz.laysValid_ren.g 4) w ∧ Lib.TabIs Tryz.prog w "internal/strconv.uint64pow10" .u64 Lib.pow10Tab
theorem gPow : Tryz.prog.globalNamed "internal/strconv.uint64pow10" = some 3 := by kernel_rfl
theorem Tabs.below {w w' : World} (h : Tabs w) (hb : Below w.heap.size w w') : Tabs w' := by
  refine ⟨Utf8Tabs_below h.1 hb, ?_⟩
  have hc := h.2.cell gPow 0 (by rw [Lib.pow10Tab_length]; omega)
  have hlt := World.block_lt_of_cell? w _ hc
  exact var?_below hb gPow hlt h.2

/-- The error of a text. -/
def textE (t : ByteArray) : Int := if sizeE t.size 1024 5 = 0 ∧ Lib.validD t.data.toList = false then 16 else sizeE t.size 1024 5
set_option maxRecDepth 100000 in
set_option maxHeartbeats 1000000 in
theorem rule4_call (k i s : Int) (t : ByteArray) (la : Option Addr) (ll lc : Nat) (fa : Option Addr) (fl fc : Nat) (w : World) (hT : Tabs w) (ht : t.size ≤ 140737488351232) :
    Calls Tryz.prog 148 #[vArg k i s t la ll lc fa fl fc] w fun e w' => e = .returned (.int .i64 (textE t)) ∧ Below w.heap.size w w' := by
  by_cases hs : (1024 : Int) < (t.size : Int)
  · have hsz : sizeE t.size 1024 5 = 5 := by rw [sizeE, if_pos hs]
    have HR := hid (show textE t = 5 by unfold textE; rw [hsz]; simp)
    have hc := fun w => (size_call t.size 1024 5 w).mono (R' := fun e w' => e = .returned (.int .i64 5) ∧ w = w') (fun e w' h => ⟨h.1.trans (by rw [hsz]), h.2⟩)
    have HC := hid hc
    clear hc hsz hT
    go_enter Tryz.func148, Tryz.ntmps148
    go_wp2_with (go_at_call 149; refine (HC.out _).mono ?_; rintro e w' ⟨rfl, rfl⟩)
    go_ret
    exact ⟨retI HR.out.symm, (Below.refl _ w).alloc (Nat.le_refl _) _⟩
  · have hsz : sizeE t.size 1024 5 = 0 := by rw [sizeE, if_neg hs]
    have hc := fun w => (size_call t.size 1024 5 w).mono (R' := fun e w' => e = .returned (.int .i64 0) ∧ w = w') (fun e w' h => ⟨h.1.trans (by rw [hsz]), h.2⟩)
    have HC := hid hc
    clear hc
    have hT1 : Tabs (w.alloc (.cells #[.int .i64 k, .int .i64 i, .int .i64 s, .string t, .slice la ll lc, .slice fa fl fc] 28)) := hT.below ((Below.refl _ w).alloc (Nat.le_refl _) _)
    by_cases hv : Lib.validD t.data.toList = true
    · have HR := hid (show textE t = 0 by unfold textE; rw [hsz, hv]; simp)
      have hc2 := (Tryz.utf8_ValidString t _ (by omega) hT1.1).mono (R' := fun e w' => e = .returned (.bool true) ∧ Below (w.heap.size + 1) _ w') (fun e w' h => ⟨h.1.trans (by rw [hv]), by simpa using h.2⟩)
      have HC2 := hid hc2
      clear hc2 hsz hv hT hT1 hs
      go_enter Tryz.func148, Tryz.ntmps148
      go_wp2_with (first | (go_at_call 149; refine (HC.out _).mono ?_; rintro e w' ⟨rfl, rfl⟩) | (go_at_call 150; refine HC2.out.mono ?_; rintro e w1 ⟨rfl, hb⟩))
      go_ret
      exact ⟨retI HR.out.symm, ((Below.refl _ w).alloc (Nat.le_refl _) _).trans (hb.mono (by omega))⟩
    · have hv' : Lib.validD t.data.toList = false := by simpa using hv
      have HR := hid (show textE t = 16 by unfold textE; rw [hsz, hv']; simp)
      have hc2 := (Tryz.utf8_ValidString t _ (by omega) hT1.1).mono (R' := fun e w' => e = .returned (.bool false) ∧ Below (w.heap.size + 1) _ w') (fun e w' h => ⟨h.1.trans (by rw [hv']), by simpa using h.2⟩)
      have HC2 := hid hc2
      clear hc2 hsz hv hv' hT hT1 hs
      go_enter Tryz.func148, Tryz.ntmps148
      go_wp2_with (first | (go_at_call 149; refine (HC.out _).mono ?_; rintro e w' ⟨rfl, rfl⟩) | (go_at_call 150; refine HC2.out.mono ?_; rintro e w1 ⟨rfl, hb⟩))
      go_ret
      exact ⟨retI HR.out.symm, ((Below.refl _ w).alloc (Nat.le_refl _) _).trans (hb.mono (by omega))⟩
end Go.Proofs.YthjlgpmajeafpaaGreatDoor
