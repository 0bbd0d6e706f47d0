/-
  THE CARD of ReplayCompares is proved: for every input the call returns true, and each argument reads afterwards as before. Condition: the listed tables of Go's library hold what the program's text lays (the card ties that).
-/
import Derived.Test.YtkljbfaemahchaaGreatDoorCards
import Derived.Test.YtkljbfaemahchaaGreatDoorRCRComparesLift
import Derived.Test.YtkljbfaemahchaaGreatDoorRCRComparesFacts
namespace Go.Proofs.YtkljbfaemahchaaGreatDoor
open Go Go.ChangeShapes Go.WideShapes Go.ChangeAt Go.RowKit

theorem nameRCompares : Tryz.pinned.checked.prog.funcNamed Rows.replayComparesRow.func = some 4 := by kernel_rfl
theorem wrapRCompares : Tryz.f4.isWrapper Tryz.pinned.checked.prog Rows.replayComparesRow.wrapper Rows.replayComparesRow.mainSum := by unfold Func.isWrapper; first | (rw [if_pos (by decide +kernel)]; kernel_rfl) | (rw [if_neg (by decide +kernel)]; exact ⟨rfl, rfl⟩)
theorem instRCompares : Tryz.f4.isInstance Tryz.pinned.checked.prog Rows.replayComparesRow.origin Rows.replayComparesRow.targs := of_decide_eq_true (by kernel_rfl)
theorem saidRCompares : Rows.ReplayComparesSaid :=
  OpenClaim.holds_of_wide 4 Tryz.f4 rfl rfl rfl rfl rfl rfl rfl ⟨rfl, rfl, rfl, rfl, rfl⟩ rfl rfl rfl rfl rfl nameRCompares Tryz.func4 factsRCompares
    instRCompares wrapRCompares (fun os started H enc _ => liftedRCompares os started H enc)
theorem looksRCompares : true = Tryz.pinned.checked.prog.looks [] := by kernel_rfl
theorem plainRCompares (f : FuncId) (fn : Func) (hf : Tryz.pinned.checked.prog.funcNamed "manifold/manifoldlaw54.ReplayCompares" = some f) (hfn : Tryz.pinned.checked.prog.funcs[f]? = some fn) :
    true = Tryz.pinned.checked.prog.looks [] ∧ ∀ (j : Nat) t, fn.params[j]? = some t → Tryz.pinned.checked.prog.wantsStandIn t = false := by
  obtain rfl : f = 4 := Option.some.inj ((show Tryz.prog.funcNamed "manifold/manifoldlaw54.ReplayCompares" = some 4 by kernel_rfl).symm.trans hf) |>.symm
  obtain rfl : fn = Tryz.f4 := (Option.some.inj (Tryz.func4.symm.trans hfn)).symm
  refine ⟨looksRCompares, fun j t ht => ?_⟩
  rw [Tryz.params4] at ht
  have hm : t ∈ [30, 30] := by simpa using Array.mem_of_getElem? ht
  have hall : ([30, 30].all fun u => !Tryz.prog.wantsStandIn u) = true := by kernel_rfl
  exact (show Tryz.prog.wantsStandIn t = false by simpa using List.all_eq_true.1 hall t hm)
theorem replayCompares_holds : Rows.ReplayComparesCardSaid :=
  Claim7.holds_tied_plain_at .later [] _ _ _ _ saidRCompares (fun _ h => by cases h) (by as_aux_lemma => kernel_rfl) (fun _ h => by cases h) replayCompares_row_tie rfl ⟨rfl, rfl⟩ (by as_aux_lemma => kernel_rfl) rfl plainRCompares (by as_aux_lemma => kernel_rfl)
end Go.Proofs.YtkljbfaemahchaaGreatDoor
