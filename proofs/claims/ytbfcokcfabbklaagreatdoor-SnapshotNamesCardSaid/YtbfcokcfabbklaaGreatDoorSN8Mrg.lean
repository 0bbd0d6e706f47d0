/-
  calendar: in, Leap, before, monthDays, Civil: what CalLaw's functions say. Conditions: years from 1 to 9999, months from 1 to 12, days in the calendar's limits.
-/
import Derived.Test.YtbfcokcfabbklaaGreatDoorSN6Mrg
import Derived.Lib.MinMax
import Derived.Lib.Repeat
namespace Go.Proofs.YtbfcokcfabbklaaGreatDoor
set_option linter.unusedVariables false
set_option linter.unusedSimpArgs false
section
open Go Go.RowKit
end
section
open Go Go.RowKit Go.Shelf
end
end Go.Proofs.YtbfcokcfabbklaaGreatDoor
