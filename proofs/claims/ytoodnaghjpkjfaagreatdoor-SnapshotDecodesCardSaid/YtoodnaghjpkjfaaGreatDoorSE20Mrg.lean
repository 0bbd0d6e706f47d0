/- A part. -/
import Derived.Test.YtoodnaghjpkjfaaGreatDoorSE8Mrg
import Derived.Test.YtoodnaghjpkjfaaGreatDoorSE16Mrg
namespace Go.Proofs.YtoodnaghjpkjfaaGreatDoor
set_option linter.unusedVariables false
set_option linter.unusedSimpArgs false
open Go Go.RowKit Go.Shelf
end Go.Proofs.YtoodnaghjpkjfaaGreatDoor
