/-
  THE CARD of MessageMoves is proved: for every input the call returns true, and each argument reads afterwards as before. Condition: the listed tables of Go's library hold what the program's text lays (the card ties that).
-/
import Derived.Test.YtkcoicijenclhaaGreatDoorCards
import Derived.Test.YtkcoicijenclhaaGreatDoorMovesLift
import Derived.Test.YtkcoicijenclhaaGreatDoorMovesFacts
namespace Go.Proofs.YtkcoicijenclhaaGreatDoor
open Go Go.ChangeShapes Go.WideShapes Go.ChangeAt Go.RowKit

theorem nameMoves : Tryz.pinned.checked.prog.funcNamed Rows.messageMovesRow.func = some 6 := by kernel_rfl
theorem wrapMoves : Tryz.f6.isWrapper Tryz.pinned.checked.prog Rows.messageMovesRow.wrapper Rows.messageMovesRow.mainSum := by unfold Func.isWrapper; first | (rw [if_pos (by decide +kernel)]; kernel_rfl) | (rw [if_neg (by decide +kernel)]; exact ⟨rfl, rfl⟩)
theorem instMoves : Tryz.f6.isInstance Tryz.pinned.checked.prog Rows.messageMovesRow.origin Rows.messageMovesRow.targs := of_decide_eq_true (by kernel_rfl)
theorem saidMoves : Rows.MessageMovesSaid :=
  OpenClaim.holds_of_wide 6 Tryz.f6 rfl rfl rfl rfl rfl rfl rfl ⟨rfl, rfl, rfl, rfl, rfl⟩ rfl rfl rfl rfl rfl nameMoves Tryz.func6 factsMoves
    instMoves wrapMoves (fun os started H enc _ => liftedMoves os started H enc)
theorem looksMoves : true = Tryz.pinned.checked.prog.looks [] := by kernel_rfl
theorem plainMoves (f : FuncId) (fn : Func) (hf : Tryz.pinned.checked.prog.funcNamed "manifold/manifoldlaw29.MessageMoves" = some f) (hfn : Tryz.pinned.checked.prog.funcs[f]? = some fn) :
    true = Tryz.pinned.checked.prog.looks [] ∧ ∀ (j : Nat) t, fn.params[j]? = some t → Tryz.pinned.checked.prog.wantsStandIn t = false := by
  obtain rfl : f = 6 := Option.some.inj ((show Tryz.prog.funcNamed "manifold/manifoldlaw29.MessageMoves" = some 6 by kernel_rfl).symm.trans hf) |>.symm
  obtain rfl : fn = Tryz.f6 := (Option.some.inj (Tryz.func6.symm.trans hfn)).symm
  refine ⟨looksMoves, fun j t ht => ?_⟩
  rw [Tryz.params6] at ht
  have hm : t ∈ [31, 25, 3] := by simpa using Array.mem_of_getElem? ht
  have hall : ([31, 25, 3].all fun u => !Tryz.prog.wantsStandIn u) = true := by kernel_rfl
  exact (show Tryz.prog.wantsStandIn t = false by simpa using List.all_eq_true.1 hall t hm)
theorem messageMoves_holds : Rows.MessageMovesCardSaid :=
  Claim7.holds_tied_plain_at .later [] _ _ _ _ saidMoves (fun _ h => by cases h) (by kernel_rfl) (fun _ h => by cases h) messageMoves_row_tie rfl ⟨rfl, rfl⟩ (by kernel_rfl) rfl plainMoves (by kernel_rfl)
end Go.Proofs.YtkcoicijenclhaaGreatDoor
