/- A part. -/
import Derived.Test.YtoodnaghjpkjfaaGreatDoorSE19Mrg
namespace Go.Proofs.YtoodnaghjpkjfaaGreatDoor
set_option linter.unusedVariables false
set_option linter.unusedSimpArgs false
open Go Go.RowKit Go.Shelf
theorem bS (w:World) (xs:List ByteArray) (T:TypeId):∀(k:Nat) x,xs[k]?=some x->(w.alloc (.cells (xs.map Value.string).toArray T)).cell? ⟨w.heap.size,0+k,none⟩=some (Sv x):=by
 intro k x h;rw[ir,aA (ib w _)];simp[h]
end Go.Proofs.YtoodnaghjpkjfaaGreatDoor
