/-
  engine: word, doWords, doneWords, fields and ReplyText of the example of the law's gate. Conditions: Tabs; the value of the example can be read.
-/
import Derived.Test.YtkljbfaemahchaaGreatDoorRT8Mrg
import Derived.Test.YtkljbfaemahchaaGreatDoorRT5Mrg
import Derived.Test.YtkljbfaemahchaaGreatDoorRT17Mrg
import Derived.Deep.AppendLies
import Derived.Deep.RegionHeld3
namespace Go.Proofs.YtkljbfaemahchaaGreatDoor
set_option linter.unusedVariables false
set_option linter.unusedSimpArgs false
open Go Go.RowKit Go.Shelf
attribute [local go_sem ↓] Go.wp_at_zero Go.wp_at_succ
theorem word_call (b : Bool) (x y : ByteArray) (w : World) : Calls Tryz.prog 76 #[.bool b,.agg #[.string x,.string y]] w fun e w' => e = .returned (.string (if b then y else x)) ∧ Below w.heap.size w w':=by
 cases b
 all_goals go_enter Tryz.func76,Tryz.ntmps76
 all_goals go_wp2
 all_goals go_ret
 all_goals exact ⟨rfl,(Below.refl _ w).alloc (Nat.le_refl _) _⟩
theorem doWords_call (w : World) : Calls Tryz.prog 77 #[] w fun e w' => e = .returned (.agg #[.string ⟨#[100,111]⟩,.string ⟨#[117,110,100,111]⟩]) ∧ Below w.heap.size w w':=by
 go_enter Tryz.func77,Tryz.ntmps77
 go_wp2
 exact bodyPost_ret (v:=.agg #[.string ⟨#[100,111]⟩,.string ⟨#[117,110,100,111]⟩]) (by simp [results,Tryz.results77,go_sem]) rfl ⟨rfl,(Below.refl _ w).alloc (Nat.le_refl _) _⟩
theorem own_two {w : World} {b B : Nat} {x y : ByteArray} (h : w.heap[b]? = some (.cells #[.string x,.string y] 9)) (hb : B ≤ b) : w.ownsRow B 9 1 (.slice (some ⟨b,0,none⟩) 2 2) 2 [.string x,.string y] :=
 ⟨rfl,.inr ⟨b,2,_,rfl,hb,h,Nat.le_refl _,by decide,rfl,rfl⟩⟩
end Go.Proofs.YtkljbfaemahchaaGreatDoor
