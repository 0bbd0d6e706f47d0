/-
  value.Record of one field. Conditions: the field lies in a block; its value can be read as data.
-/
import Derived.Test.YtkljbfaemahchaaGreatDoorRT2Mrg
import Derived.Test.YtkljbfaemahchaaGreatDoorRT16Mrg
import Derived.Test.YtkljbfaemahchaaGreatDoorRT1Mrg
namespace Go.Proofs.YtkljbfaemahchaaGreatDoor
set_option linter.unusedVariables false
set_option linter.unusedSimpArgs false
open Go Go.RowKit
end Go.Proofs.YtkljbfaemahchaaGreatDoor
