/-
  ReplayCompares: the closed facts of her row, each by the kernel alone. No conditions.
-/
import Derived.Test.YtkljbfaemahchaaGreatDoorTie
import Derived.ProofKit
import Derived.SevenTiedAt
import Derived.Stop.Joined
namespace Go.Proofs.YtkljbfaemahchaaGreatDoor
open Go Go.ChangeShapes Go.WideShapes Go.ChangeAt Go.RowKit
set_option maxHeartbeats 10000000 in
theorem factsRCompares : joinedFacts Tryz.pinned.checked.prog 4 Tryz.f4 Rows.replayComparesSpec Rows.replayComparesRow = true := by
  unfold joinedFacts
  simp only [Bool.and_eq_true]
  repeat' apply And.intro
  all_goals (as_aux_lemma => kernel_rfl)
end Go.Proofs.YtkljbfaemahchaaGreatDoor
