/-
  Plain: what a writer holds: its bytes and its first error. No program is stepped through here.
-/
import Derived.Test.YtbfcokcfabbklaaGreatDoorSN1Mrg
namespace Go.Proofs.YtbfcokcfabbklaaGreatDoor
set_option linter.unusedVariables false
set_option linter.unusedSimpArgs false
structure JW where
 b:List UInt8
 e:Int
end Go.Proofs.YtbfcokcfabbklaaGreatDoor
