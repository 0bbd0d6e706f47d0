/-
  THE CARD of ReplayTexts is proved: for every input the call returns true, and each argument reads afterwards as before. Condition: the listed tables of Go's library hold what the program's text lays (the card ties that).
-/
import Derived.Test.YtkljbfaemahchaaGreatDoorRT28Mrg
import Derived.Test.YtkljbfaemahchaaGreatDoorRT29Mrg
import Derived.Test.YtkljbfaemahchaaGreatDoorCards
namespace Go.Proofs.YtkljbfaemahchaaGreatDoor
set_option linter.unusedVariables false
set_option linter.unusedSimpArgs false
open Go Go.ChangeShapes Go.WideShapes Go.ChangeAt Go.RowKit
theorem nameRTexts : Tryz.pinned.checked.prog.funcNamed Rows.replayTextsRow.func = some 5:=by kernel_rfl
theorem wrapRTexts : Tryz.f5.isWrapper Tryz.pinned.checked.prog Rows.replayTextsRow.wrapper Rows.replayTextsRow.mainSum:=by unfold Func.isWrapper; first | (rw [if_pos (by decide +kernel)]; kernel_rfl) | (rw [if_neg (by decide +kernel)]; exact ⟨rfl,rfl⟩)
theorem instRTexts : Tryz.f5.isInstance Tryz.pinned.checked.prog Rows.replayTextsRow.origin Rows.replayTextsRow.targs:=of_decide_eq_true (by kernel_rfl)
theorem saidRTexts : Rows.ReplayTextsSaid :=
 OpenClaim.holds_of_wide 5 Tryz.f5 rfl rfl rfl rfl rfl rfl rfl ⟨rfl,rfl,rfl,rfl,rfl⟩ rfl rfl rfl rfl rfl nameRTexts Tryz.func5 factsRTexts
  instRTexts wrapRTexts (fun os started H enc _ => liftedRTexts os started H enc)
theorem looksRTexts : true = Tryz.pinned.checked.prog.looks []:=by kernel_rfl
theorem plainRTexts (f : FuncId) (fn : Func) (hf : Tryz.pinned.checked.prog.funcNamed "manifold/manifoldlaw54.ReplayTexts" = some f) (hfn : Tryz.pinned.checked.prog.funcs[f]? = some fn) :
 true = Tryz.pinned.checked.prog.looks [] ∧ ∀ (j : Nat) t,fn.params[j]? = some t → Tryz.pinned.checked.prog.wantsStandIn t = false:=by
 obtain rfl : f = 5:=Option.some.inj ((show Tryz.prog.funcNamed "manifold/manifoldlaw54.ReplayTexts" = some 5 by kernel_rfl).symm.trans hf) |>.symm
 obtain rfl : fn = Tryz.f5:=(Option.some.inj (Tryz.func5.symm.trans hfn)).symm
 refine ⟨looksRTexts,fun j t ht => ?_⟩
 rw [Tryz.params5] at ht
 have hm : t ∈ [30,9]:=by simpa using Array.mem_of_getElem? ht
 have hall : ([30,9].all fun u => !Tryz.prog.wantsStandIn u) = true:=by kernel_rfl
 exact (show Tryz.prog.wantsStandIn t = false by simpa using List.all_eq_true.1 hall t hm)
theorem replayTexts_holds : Rows.ReplayTextsCardSaid :=
 Claim7.holds_tied_plain_at .later [] _ _ _ _ saidRTexts (fun _ h => by cases h) (by as_aux_lemma => kernel_rfl) (fun _ h => by cases h) replayTexts_row_tie rfl ⟨rfl,rfl⟩ (by as_aux_lemma => kernel_rfl) rfl plainRTexts (by as_aux_lemma => kernel_rfl)
end Go.Proofs.YtkljbfaemahchaaGreatDoor
