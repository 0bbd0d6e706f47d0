/-
  A map of slices of texts that a call has made itself: what it holds at each key, the look-up with the way back to a store, the keys. Conditions: laws on worlds, no function walked.
-/
import Derived.Test.YtmgpghoamapfgaaGreatDoorJN5Mrg
import Derived.Maps.OwnOps
import Derived.Maps.Ext
import Derived.Maps.Range
import Derived.Sort.KeysCollected
namespace Go.Proofs.YtmgpghoamapfgaaGreatDoor
set_option linter.unusedVariables false
set_option linter.unusedSimpArgs false
open Go Go.RowKit Go.Shelf Go.ChangeMaps Go.MapKept
open Go.WideElems (Fit rd rg pl rd_val rd_key rg_of)
open Go.Maps (Keyed)
end Go.Proofs.YtmgpghoamapfgaaGreatDoor
