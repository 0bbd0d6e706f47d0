/-
  literal.limited, and literal.text of an integer. Conditions: Itoa's table (in Tabs).
-/
import Derived.Test.YthjlgpmajeafpaaGreatDoorBase
import Derived.Test.YthjlgpmajeafpaaGreatDoorProg
import Derived.WalkKit
import Derived.Test.YthjlgpmajeafpaaGreatDoorShelf
namespace Go.Proofs.YthjlgpmajeafpaaGreatDoor
open Go Go.RowKit Go.Shelf
set_option linter.unusedVariables false
set_option linter.unusedSimpArgs false

theorem limited_call (s : ByteArray) (hs : s.size ≤ 65536) (w : World) : Calls Tryz.prog 136 #[.string s] w fun e w' => e = .returned (.tuple #[.string s, .int .i64 0]) ∧ w = w' := by
  have hs' : (s.size : Int) ≤ 65536 := by omega
  go_enter Tryz.func136, Tryz.ntmps136
  go_wp2
  exact bodyPost_ret (v := .tuple #[.string s, .int .i64 0]) (by simp [results, Tryz.results136, go_sem]) rfl ⟨rfl, rfl⟩
set_option maxRecDepth 100000 in
set_option maxHeartbeats 1000000 in
theorem textInt_call (i : Nat) (hi : i < 100) (s : Int) (t : ByteArray) (la : Option Addr) (ll lc : Nat) (fa : Option Addr) (fl fc : Nat) (w : World) :
    Calls Tryz.prog 137 #[.agg #[.int .i64 2, .int .i64 i, .int .i64 s, .string t, .slice la ll lc, .slice fa fl fc]] w fun e w' => e = .returned (.string ⟨(Lib.decDigits i).toArray⟩) ∧ Below w.heap.size w w' := by
  go_enter Tryz.func137, Tryz.ntmps137
  go_wp2_with (go_at_call 110; refine (Tryz.strconv_Itoa_small i hi _).mono ?_; rintro e w' ⟨rfl, rfl⟩)
  go_ret
  exact ⟨rfl, (Below.refl _ w).alloc (Nat.le_refl _) _⟩
theorem join_call (bk o c : Nat) (xs : List ByteArray) (w : World) (hcells : ∀ (j : Nat) x, xs[j]? = some x → w.cell? ⟨bk, o + j, none⟩ = some (.string x)) (hbk : bk < w.heap.size) (hN : xs.length ≤ 140737488355328) (hcap : xs.length ≤ c)
    (hlen : (Lib.join (xs.map (·.data.toList)) [44, 32]).length ≤ 140737488355328) :
    Calls Tryz.prog 172 #[.slice (some ⟨bk, o, none⟩) xs.length c] w fun e w' => e = .returned (.string ⟨(Lib.join (xs.map (·.data.toList)) [44, 32]).toArray⟩) ∧ Below w.heap.size w w' := by
  have HJ := hid (Tryz.strings_Join bk o c xs ⟨#[44, 32]⟩ w hcells hbk hN hcap hlen)
  clear hcells
  go_enter Tryz.func172, Tryz.ntmps172
  go_wp2_with (go_at_call 111; refine HJ.out.mono ?_; rintro e w' ⟨rfl, hb⟩)
  go_ret
  exact ⟨rfl, hb⟩
set_option maxRecDepth 100000 in
set_option maxHeartbeats 1000000 in
theorem textNull_call (s i : Int) (t : ByteArray) (la : Option Addr) (ll lc : Nat) (fa : Option Addr) (fl fc : Nat) (w : World) :
    Calls Tryz.prog 137 #[.agg #[.int .i64 0, .int .i64 i, .int .i64 s, .string t, .slice la ll lc, .slice fa fl fc]] w fun e w' => e = .returned (.string ⟨#[110, 117, 108, 108]⟩) ∧ Below w.heap.size w w' := by
  go_enter Tryz.func137, Tryz.ntmps137
  go_wp2
  go_ret
  exact ⟨rfl, (Below.refl _ w).alloc (Nat.le_refl _) _⟩
end Go.Proofs.YthjlgpmajeafpaaGreatDoor
