/-
  THE CARD of MessageParts is proved: for every input the call returns true, and each argument reads afterwards as before. Condition: the listed tables of Go's library hold what the program's text lays (the card ties that).
-/
import Derived.Test.YthjlgpmajeafpaaGreatDoorCards
import Derived.Test.YthjlgpmajeafpaaGreatDoorPartsLawLift
import Derived.Test.YthjlgpmajeafpaaGreatDoorPartsLawFacts
namespace Go.Proofs.YthjlgpmajeafpaaGreatDoor
open Go Go.ChangeShapes Go.WideShapes Go.ChangeAt Go.RowKit

theorem namePartsLaw : Tryz.pinned.checked.prog.funcNamed Rows.messagePartsRow.func = some 3 := by kernel_rfl
theorem wrapPartsLaw : Tryz.f3.isWrapper Tryz.pinned.checked.prog Rows.messagePartsRow.wrapper Rows.messagePartsRow.mainSum := by unfold Func.isWrapper; first | (rw [if_pos (by decide +kernel)]; kernel_rfl) | (rw [if_neg (by decide +kernel)]; exact ⟨rfl, rfl⟩)
theorem instPartsLaw : Tryz.f3.isInstance Tryz.pinned.checked.prog Rows.messagePartsRow.origin Rows.messagePartsRow.targs := of_decide_eq_true (by kernel_rfl)
theorem saidPartsLaw : Rows.MessagePartsSaid :=
  OpenClaim.holds_of_wide 3 Tryz.f3 rfl rfl rfl rfl rfl rfl rfl ⟨rfl, rfl, rfl, rfl, rfl⟩ rfl rfl rfl rfl rfl namePartsLaw Tryz.func3 factsPartsLaw
    instPartsLaw wrapPartsLaw (fun os started H enc _ => liftedPartsLaw os started H enc)
theorem looksPartsLaw : false = Tryz.pinned.checked.prog.looks [] := by kernel_rfl
theorem plainPartsLaw (f : FuncId) (fn : Func) (hf : Tryz.pinned.checked.prog.funcNamed "manifold/manifoldlaw29.MessageParts" = some f) (hfn : Tryz.pinned.checked.prog.funcs[f]? = some fn) :
    false = Tryz.pinned.checked.prog.looks [] ∧ ∀ (j : Nat) t, fn.params[j]? = some t → Tryz.pinned.checked.prog.wantsStandIn t = false := by
  obtain rfl : f = 3 := Option.some.inj ((show Tryz.prog.funcNamed "manifold/manifoldlaw29.MessageParts" = some 3 by kernel_rfl).symm.trans hf) |>.symm
  obtain rfl : fn = Tryz.f3 := (Option.some.inj (Tryz.func3.symm.trans hfn)).symm
  refine ⟨looksPartsLaw, fun j t ht => ?_⟩
  rw [Tryz.params3] at ht
  have hm : t ∈ [30, 5] := by simpa using Array.mem_of_getElem? ht
  have hall : ([30, 5].all fun u => !Tryz.prog.wantsStandIn u) = true := by kernel_rfl
  exact (show Tryz.prog.wantsStandIn t = false by simpa using List.all_eq_true.1 hall t hm)
theorem messageParts_holds : Rows.MessagePartsCardSaid :=
  Claim7.holds_tied_plain_at .later [] _ _ _ _ saidPartsLaw (fun _ h => by cases h) (by kernel_rfl) (fun _ h => by cases h) messageParts_row_tie rfl ⟨rfl, rfl⟩ (by kernel_rfl) rfl plainPartsLaw (by kernel_rfl)
end Go.Proofs.YthjlgpmajeafpaaGreatDoor
