/-
  THE CARD of MessageOrigins is proved: for every input the call returns true, and the arguments read afterwards as before. Condition: the listed tables of Go's library hold what the program's text lays (the card ties that).
-/
import Derived.Test.YtkcoicijenclhaaGreatDoorCards
import Derived.Test.YtkcoicijenclhaaGreatDoorOriginsLift
import Derived.Test.YtkcoicijenclhaaGreatDoorOriginsFacts
namespace Go.Proofs.YtkcoicijenclhaaGreatDoor
open Go.ChangeShapes Go.WideShapes Go.ChangeAt Go.RowKit

theorem hasName : Tryz.pinned.checked.prog.funcNamed Rows.messageOriginsRow.func = some 3 := by kernel_rfl
theorem hasWrap : Tryz.f3.isWrapper Tryz.pinned.checked.prog Rows.messageOriginsRow.wrapper Rows.messageOriginsRow.mainSum := by unfold Func.isWrapper; first | (rw [if_pos (by decide +kernel)]; kernel_rfl) | (rw [if_neg (by decide +kernel)]; exact ⟨rfl, rfl⟩)
theorem hasInst : Tryz.f3.isInstance Tryz.pinned.checked.prog Rows.messageOriginsRow.origin Rows.messageOriginsRow.targs := of_decide_eq_true (by kernel_rfl)
theorem said : Rows.MessageOriginsSaid :=
  OpenClaim.holds_of_wide 3 Tryz.f3 rfl rfl rfl rfl rfl rfl rfl ⟨rfl, rfl, rfl, rfl, rfl⟩ rfl rfl rfl rfl rfl hasName Tryz.func3 originsFacts
    hasInst hasWrap (fun os started H enc _ => lifted os started H enc)
theorem plain (f : FuncId) (fn : Func) (hf : Tryz.pinned.checked.prog.funcNamed "manifold/manifoldlaw29.MessageOrigins" = some f) (hfn : Tryz.pinned.checked.prog.funcs[f]? = some fn) :
    true = Tryz.pinned.checked.prog.looks [] ∧ ∀ (j : Nat) t, fn.params[j]? = some t → Tryz.pinned.checked.prog.wantsStandIn t = false := by
  obtain rfl : f = 3 := Option.some.inj ((show Tryz.prog.funcNamed "manifold/manifoldlaw29.MessageOrigins" = some 3 by kernel_rfl).symm.trans hf) |>.symm
  obtain rfl : fn = Tryz.f3 := (Option.some.inj (Tryz.func3.symm.trans hfn)).symm
  refine ⟨by kernel_rfl, fun j t ht => ?_⟩
  rw [Tryz.params3] at ht
  have hm : t ∈ [5, 22] := by simpa using Array.mem_of_getElem? ht
  have hall : ([5, 22].all fun u => !Tryz.prog.wantsStandIn u) = true := by kernel_rfl
  exact (show Tryz.prog.wantsStandIn t = false by simpa using List.all_eq_true.1 hall t hm)
theorem messageOrigins_holds : Rows.MessageOriginsCardSaid :=
  Claim7.holds_tied_plain_at .later [] _ _ _ _ said (fun _ h => by cases h) (by kernel_rfl) (fun _ h => by cases h) messageOrigins_row_tie rfl ⟨rfl, rfl⟩ (by kernel_rfl) rfl plain (by kernel_rfl)
end Go.Proofs.YtkcoicijenclhaaGreatDoor
