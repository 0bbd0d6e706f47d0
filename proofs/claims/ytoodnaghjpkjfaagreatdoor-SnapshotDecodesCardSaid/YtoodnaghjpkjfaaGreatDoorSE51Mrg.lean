/- A part. -/
import Derived.Test.YtoodnaghjpkjfaaGreatDoorTie
import Derived.ProofKit
import Derived.SevenTiedAt
import Derived.Stop.Joined
namespace Go.Proofs.YtoodnaghjpkjfaaGreatDoor
set_option linter.unusedVariables false
set_option maxRecDepth 100000
set_option maxHeartbeats 64000000
set_option linter.unusedSimpArgs false
open Go Go.ChangeShapes Go.WideShapes Go.ChangeAt Go.RowKit
theorem aHs:joinedFacts Tryz.pinned.checked.prog 3 Tryz.f3 Rows.snapshotDecodesSpec Rows.snapshotDecodesRow=true:=by
 unfold joinedFacts;simp only[Bool.and_eq_true]
 repeat' apply And.intro
 all_goals (as_aux_lemma=>kernel_rfl)
end Go.Proofs.YtoodnaghjpkjfaaGreatDoor
