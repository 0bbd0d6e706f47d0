/-
  charset.Valid, isPoint, Encode; literal.escape: what ParLaw's escF says. Conditions: the length fits; NumVars.
-/
import Derived.Test.YtmgpghoamapfgaaGreatDoorJN21Mrg
import Derived.Laws.Runes
namespace Go.Proofs.YtmgpghoamapfgaaGreatDoor
set_option linter.unusedVariables false
set_option linter.unusedSimpArgs false
section
open Go Go.RowKit Go.Shelf
end
section
open Go Go.RowKit Go.Shelf
end
section
open Go Go.RowKit Go.Shelf
attribute [local go_sem] putC_setCell putC_cell putC_cell_ne putC_frozen putC_frozen_ne size_putC
end
end Go.Proofs.YtmgpghoamapfgaaGreatDoor
