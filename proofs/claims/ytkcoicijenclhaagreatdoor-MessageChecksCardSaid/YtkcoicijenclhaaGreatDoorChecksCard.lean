/-
  THE CARD of MessageChecks is proved: for every input the call returns true, and each argument reads afterwards as before. Condition: the listed tables of Go's library hold what the program's text lays (the card ties that).
-/
import Derived.Test.YtkcoicijenclhaaGreatDoorCards
import Derived.Test.YtkcoicijenclhaaGreatDoorChecksLift
import Derived.Test.YtkcoicijenclhaaGreatDoorChecksFacts
namespace Go.Proofs.YtkcoicijenclhaaGreatDoor
open Go Go.ChangeShapes Go.WideShapes Go.ChangeAt Go.RowKit

theorem nameChecks : Tryz.pinned.checked.prog.funcNamed Rows.messageChecksRow.func = some 7 := by kernel_rfl
theorem wrapChecks : Tryz.f7.isWrapper Tryz.pinned.checked.prog Rows.messageChecksRow.wrapper Rows.messageChecksRow.mainSum := by unfold Func.isWrapper; first | (rw [if_pos (by decide +kernel)]; kernel_rfl) | (rw [if_neg (by decide +kernel)]; exact ⟨rfl, rfl⟩)
theorem instChecks : Tryz.f7.isInstance Tryz.pinned.checked.prog Rows.messageChecksRow.origin Rows.messageChecksRow.targs := of_decide_eq_true (by kernel_rfl)
theorem saidChecks : Rows.MessageChecksSaid :=
  OpenClaim.holds_of_wide 7 Tryz.f7 rfl rfl rfl rfl rfl rfl rfl ⟨rfl, rfl, rfl, rfl, rfl⟩ rfl rfl rfl rfl rfl nameChecks Tryz.func7 factsChecks
    instChecks wrapChecks (fun os started H enc _ => liftedChecks os started H enc)
theorem looksChecks : true = Tryz.pinned.checked.prog.looks [] := by kernel_rfl
theorem plainChecks (f : FuncId) (fn : Func) (hf : Tryz.pinned.checked.prog.funcNamed "manifold/manifoldlaw29.MessageChecks" = some f) (hfn : Tryz.pinned.checked.prog.funcs[f]? = some fn) :
    true = Tryz.pinned.checked.prog.looks [] ∧ ∀ (j : Nat) t, fn.params[j]? = some t → Tryz.pinned.checked.prog.wantsStandIn t = false := by
  obtain rfl : f = 7 := Option.some.inj ((show Tryz.prog.funcNamed "manifold/manifoldlaw29.MessageChecks" = some 7 by kernel_rfl).symm.trans hf) |>.symm
  obtain rfl : fn = Tryz.f7 := (Option.some.inj (Tryz.func7.symm.trans hfn)).symm
  refine ⟨looksChecks, fun j t ht => ?_⟩
  rw [Tryz.params7] at ht
  have hm : t ∈ [31, 31] := by simpa using Array.mem_of_getElem? ht
  have hall : ([31, 31].all fun u => !Tryz.prog.wantsStandIn u) = true := by kernel_rfl
  exact (show Tryz.prog.wantsStandIn t = false by simpa using List.all_eq_true.1 hall t hm)
theorem messageChecks_holds : Rows.MessageChecksCardSaid :=
  Claim7.holds_tied_plain_at .later [] _ _ _ _ saidChecks (fun _ h => by cases h) (by kernel_rfl) (fun _ h => by cases h) messageChecks_row_tie rfl ⟨rfl, rfl⟩ (by kernel_rfl) rfl plainChecks (by kernel_rfl)
end Go.Proofs.YtkcoicijenclhaaGreatDoor
