/- A part. -/
import Derived.Test.YteladbdfiannjaaGreatDoorSX1Mrg
import Derived.Deep.AppendLies
import Derived.Deep.LoopGhost
namespace Go.Proofs.YteladbdfiannjaaGreatDoor
set_option linter.unusedVariables false
set_option linter.unusedSimpArgs false
open Go Go.RowKit
attribute [local go_sem ↓] Go.wp_at_zero Go.wp_at_succ
theorem lZ:(Tryz.prog.info? 66).map (fun i=>(i.zero,i.size,i.bytes))=some (some (.agg #[.int .i64 0,.int .i64 0,.int .i64 0,.string ByteArray.empty,.slice none 0 0,.slice none 0 0]),6,88):=by kernel_rfl
theorem aAi:(Tryz.prog.info? 208).map (fun i=>(i.zero,i.size,i.bytes))=some (some (.agg #[.string ByteArray.empty,.int .i64 0,.int .i64 0,.int .i64 0,.string ByteArray.empty,.slice none 0 0,.slice none 0 0]),7,104):=by kernel_rfl
def dW (w:World) (d:Val) (e:Ending) (w':World):Prop:=∃c':VC,e=.returned c'.v∧Below w.heap.size w w'∧IsVal (fun b=>w.heap.size≤b∧b<w'.heap.size) w' c' d
end Go.Proofs.YteladbdfiannjaaGreatDoor
