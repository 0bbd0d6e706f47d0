/-
  decimal.Text of a number within its limits: the digits that TextLaw's decL says. Conditions: at most 15 digits, a scale from 0 to 12; Tabs.
-/
import Derived.Test.YtbfcokcfabbklaaGreatDoorSN8Mrg
namespace Go.Proofs.YtbfcokcfabbklaaGreatDoor
set_option linter.unusedVariables false
set_option linter.unusedSimpArgs false
open Go Go.RowKit Go.Shelf
end Go.Proofs.YtbfcokcfabbklaaGreatDoor
