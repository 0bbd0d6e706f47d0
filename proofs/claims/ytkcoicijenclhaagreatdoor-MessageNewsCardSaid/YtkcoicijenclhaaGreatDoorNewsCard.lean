/-
  THE CARD of MessageNews is proved: for every input the call returns true, and each argument reads afterwards as before. Condition: the listed tables of Go's library hold what the program's text lays (the card ties that).
-/
import Derived.Test.YtkcoicijenclhaaGreatDoorCards
import Derived.Test.YtkcoicijenclhaaGreatDoorNewsLift
import Derived.Test.YtkcoicijenclhaaGreatDoorNewsFacts
namespace Go.Proofs.YtkcoicijenclhaaGreatDoor
open Go Go.ChangeShapes Go.WideShapes Go.ChangeAt Go.RowKit

theorem nameNews : Tryz.pinned.checked.prog.funcNamed Rows.messageNewsRow.func = some 4 := by kernel_rfl
theorem wrapNews : Tryz.f4.isWrapper Tryz.pinned.checked.prog Rows.messageNewsRow.wrapper Rows.messageNewsRow.mainSum := by unfold Func.isWrapper; first | (rw [if_pos (by decide +kernel)]; kernel_rfl) | (rw [if_neg (by decide +kernel)]; exact ⟨rfl, rfl⟩)
theorem instNews : Tryz.f4.isInstance Tryz.pinned.checked.prog Rows.messageNewsRow.origin Rows.messageNewsRow.targs := of_decide_eq_true (by kernel_rfl)
theorem saidNews : Rows.MessageNewsSaid :=
  OpenClaim.holds_of_wide 4 Tryz.f4 rfl rfl rfl rfl rfl rfl rfl ⟨rfl, rfl, rfl, rfl, rfl⟩ rfl rfl rfl rfl rfl nameNews Tryz.func4 factsNews
    instNews wrapNews (fun os started H enc _ => liftedNews os started H enc)
theorem looksNews : true = Tryz.pinned.checked.prog.looks [] := by kernel_rfl
theorem plainNews (f : FuncId) (fn : Func) (hf : Tryz.pinned.checked.prog.funcNamed "manifold/manifoldlaw29.MessageNews" = some f) (hfn : Tryz.pinned.checked.prog.funcs[f]? = some fn) :
    true = Tryz.pinned.checked.prog.looks [] ∧ ∀ (j : Nat) t, fn.params[j]? = some t → Tryz.pinned.checked.prog.wantsStandIn t = false := by
  obtain rfl : f = 4 := Option.some.inj ((show Tryz.prog.funcNamed "manifold/manifoldlaw29.MessageNews" = some 4 by kernel_rfl).symm.trans hf) |>.symm
  obtain rfl : fn = Tryz.f4 := (Option.some.inj (Tryz.func4.symm.trans hfn)).symm
  refine ⟨looksNews, fun j t ht => ?_⟩
  rw [Tryz.params4] at ht
  have hm : t ∈ [3, 29] := by simpa using Array.mem_of_getElem? ht
  have hall : ([3, 29].all fun u => !Tryz.prog.wantsStandIn u) = true := by kernel_rfl
  exact (show Tryz.prog.wantsStandIn t = false by simpa using List.all_eq_true.1 hall t hm)
theorem messageNews_holds : Rows.MessageNewsCardSaid :=
  Claim7.holds_tied_plain_at .later [] _ _ _ _ saidNews (fun _ h => by cases h) (by kernel_rfl) (fun _ h => by cases h) messageNews_row_tie rfl ⟨rfl, rfl⟩ (by kernel_rfl) rfl plainNews (by kernel_rfl)
end Go.Proofs.YtkcoicijenclhaaGreatDoor
