/-
  A text cut at each instance of one byte: plain law. No program in sight.
-/
import Derived.Test.YtmgpghoamapfgaaGreatDoorJN6Mrg
import Derived.Lib.Split
import Derived.Lib.Join
import Derived.Below
import Derived.Lib.IndexBytes
import Derived.RangeFuncBox
namespace Go.Proofs.YtmgpghoamapfgaaGreatDoor
set_option linter.unusedVariables false
set_option linter.unusedSimpArgs false
section
open Go Go.RowKit
end
section
open Go Go.RowKit
end
section
open Go Go.RowKit
end
end Go.Proofs.YtmgpghoamapfgaaGreatDoor
