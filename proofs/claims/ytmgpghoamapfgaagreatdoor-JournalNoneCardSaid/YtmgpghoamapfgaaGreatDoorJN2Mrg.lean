/-
  value.Clone returns a copy of a value in memory of its own; what was there is as it was. Conditions: the value can be read as data (IsVal).
-/
import Derived.Test.YtmgpghoamapfgaaGreatDoorJN1Mrg
import Derived.Deep.AppendLies
import Derived.Deep.LoopGhost
namespace Go.Proofs.YtmgpghoamapfgaaGreatDoor
set_option linter.unusedVariables false
set_option linter.unusedSimpArgs false
open Go Go.RowKit
attribute [local go_sem ↓] Go.wp_at_zero Go.wp_at_succ
theorem infoValue:(Tryz.prog.info? 36).map (fun i=>(i.zero,i.size,i.bytes))=some (some (.agg #[.int .i64 0,.int .i64 0,.int .i64 0,.string ByteArray.empty,.slice none 0 0,.slice none 0 0]),6,88):=by kernel_rfl
end Go.Proofs.YtmgpghoamapfgaaGreatDoor
