/-
  A region that draws its order split from its forced tail, where each operation of the tail waits for the one before it. No program in sight.
-/
import Derived.Test.YtaofolgaiipcjaaGreatDoorJE1Mrg
import Derived.Test.YtaofolgaiipcjaaGreatDoorJE22Mrg
import Derived.Test.YtaofolgaiipcjaaGreatDoorJE13Mrg
import Derived.Deep.DeepCutAuto
import Derived.Test.YtaofolgaiipcjaaGreatDoorJE20Mrg
import Derived.Laws.Tables
import Derived.Laws.CopyRow
namespace Go.Proofs.YtaofolgaiipcjaaGreatDoor
set_option linter.unusedVariables false
set_option linter.unusedSimpArgs false
section
open Go Go.RowKit
section
variable {P : Program} {ops : Array Oper} {Q : Exit → Act → World → Prop}
end
section
variable {P : Program} {l : List Oper} {Q : Exit → Act → World → Prop}
end
end
section
open Go Go.RowKit Go.Shelf
attribute [local go_sem] putC_setCell putC_cell putC_cell_ne putC_frozen putC_frozen_ne size_putC
def TB (w : World) (b : Nat) : Prop:=∃ w0,Tabs w0 ∧ NumVars w0 ∧ Below w0.heap.size w0 w ∧ w0.heap.size ≤ b
theorem TB.nums {w : World} {b : Nat} (h : TB w b) : NumVars w:=by
 obtain ⟨w0,_,h1,h2,_⟩:=h
 exact h1.below h2
theorem TB.grown {w w' : World} {b : Nat} {row : Option Nat} (h : TB w b) (hg : w.grownBy w' row) (hr : row = none ∨ row = some b) : TB w' b:=by
 obtain ⟨w0,h1,h2,h3,h4⟩:=h
 refine ⟨w0,h1,h2,⟨hg.os.trans h3.os,hg.tape.trans h3.tape,hg.output.trans h3.output,Nat.le_trans h3.size hg.size,fun i hi => ?_⟩,h4⟩
 rw [hg.block i (Nat.lt_of_lt_of_le hi h3.size) (by rcases hr with rfl | rfl <;> (intro e; cases e)  <;> omega)]
 exact h3.block i hi
theorem TB.below {w w' : World} {b : Nat} (h : TB w b) (hb : Below w.heap.size w w') : TB w' b:=h.grown (grownOf hb none) (.inl rfl)
end
section
open Go Go.RowKit Go.Shelf
attribute [local go_sem] putC_setCell putC_cell putC_cell_ne putC_frozen putC_frozen_ne size_putC
end
section
open Go Go.RowKit Go.Shelf
theorem add_at (b o j : Nat) : (⟨b,o,none⟩ : Addr).add j = ⟨b,o + j,none⟩:=by unfold Addr.add; split <;> simp_all
end
end Go.Proofs.YtaofolgaiipcjaaGreatDoor
