/-
  value.Clone returns a copy of a value in memory of its own; what was there is as it was. Conditions: the value can be read as data (IsVal).
-/
import Derived.Test.YtbfcokcfabbklaaGreatDoorSN1Mrg
import Derived.Deep.AppendLies
import Derived.Deep.LoopGhost
namespace Go.Proofs.YtbfcokcfabbklaaGreatDoor
set_option linter.unusedVariables false
set_option linter.unusedSimpArgs false
open Go Go.RowKit
attribute [local go_sem ↓] Go.wp_at_zero Go.wp_at_succ
end Go.Proofs.YtbfcokcfabbklaaGreatDoor
