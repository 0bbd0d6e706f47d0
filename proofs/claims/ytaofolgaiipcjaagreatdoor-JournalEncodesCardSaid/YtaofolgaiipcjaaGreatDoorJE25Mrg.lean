/-
  A text cut at each instance of one byte: plain law. No program in sight.
-/
import Derived.Lib.Split
import Derived.Lib.Join
import Derived.Below
import Derived.Lib.IndexBytes
import Derived.Lib.ItoaNum
import Derived.Test.YtaofolgaiipcjaaGreatDoorProg
import Derived.Test.YtaofolgaiipcjaaGreatDoorJE7Mrg
import Derived.Test.YtaofolgaiipcjaaGreatDoorJE6Mrg
namespace Go.Proofs.YtaofolgaiipcjaaGreatDoor
set_option linter.unusedVariables false
set_option linter.unusedSimpArgs false
section
open Go Go.RowKit
end
section
open Go Go.RowKit
end
end Go.Proofs.YtaofolgaiipcjaaGreatDoor
