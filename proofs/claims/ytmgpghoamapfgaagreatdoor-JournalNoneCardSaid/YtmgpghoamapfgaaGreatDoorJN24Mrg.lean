/-
  strings.SplitN at a space, four and five pieces; whole structs loaded and stored. Conditions: at most 120000 bytes; the variables that the library reads.
-/
import Derived.Test.YtmgpghoamapfgaaGreatDoorJN23Mrg
namespace Go.Proofs.YtmgpghoamapfgaaGreatDoor
set_option linter.unusedVariables false
set_option linter.unusedSimpArgs false
open Go Go.RowKit Go.Shelf
theorem ldAll {P:Program} {w:World} {N:Nat} {vs:List Value} {t:TypeId} {fr:Nat × Nat} (h:w.heap[N]?=some (.cells vs.toArray t fr)):(loadCellsFrom ⟨N,0,none⟩ 0 vs.length #[]).run P w=.ok vs.toArray w:=by
 have:=run_loadCells_list (P:=P) w ⟨N,0,none⟩ vs (fun j v hv=>by
  rw[add_at,Nat.zero_add,cellOf h j];simpa using hv)
 exact this
theorem stNew (w:World) (t:TypeId) (z:Array Value) (vs:List Value) (hi:(Tryz.prog.info? t).map (·.size)=some vs.length) (hz:z.size=vs.length) (h1:∀v∈vs,v.oneCell'=true) :
 (storeCells ⟨w.heap.size,0,none⟩ vs 0).run Tryz.prog (w.alloc (.cells z t))=.ok () (w.alloc (.cells vs.toArray t)):=by
 have:=run_storeCells_new (P:=Tryz.prog) w t z vs.toArray (by rw[hi];rfl) (by rw[hz];rfl) (by
  rw[Array.all_eq_true_iff_forall_mem];intro v hv;exact h1 v (by simpa using hv))
 exact this
end Go.Proofs.YtmgpghoamapfgaaGreatDoor
