/-
  JournalEncodes: the closed facts of her row, each by the kernel alone. No conditions.
-/
import Derived.Test.YtaofolgaiipcjaaGreatDoorTie
import Derived.ProofKit
import Derived.SevenTiedAt
import Derived.Stop.Joined
namespace Go.Proofs.YtaofolgaiipcjaaGreatDoor
set_option linter.unusedVariables false
set_option linter.unusedSimpArgs false
open Go Go.ChangeShapes Go.WideShapes Go.ChangeAt Go.RowKit
set_option maxHeartbeats 10000000 in
theorem factsJEncs : joinedFacts Tryz.pinned.checked.prog 3 Tryz.f3 Rows.journalEncodesSpec Rows.journalEncodesRow = true:=by
 unfold joinedFacts
 simp only [Bool.and_eq_true]
 repeat' apply And.intro
 all_goals (as_aux_lemma => kernel_rfl)
end Go.Proofs.YtaofolgaiipcjaaGreatDoor
