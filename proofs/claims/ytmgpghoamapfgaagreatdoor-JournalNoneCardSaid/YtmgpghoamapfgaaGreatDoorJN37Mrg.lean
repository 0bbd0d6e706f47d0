/-
  The reader's advance: what ParLaw's Rd.adv says. Conditions: the reader's block holds its cells; the text's length fits; the tables lie below the reader's block.
-/
import Derived.Test.YtmgpghoamapfgaaGreatDoorJN23Mrg
namespace Go.Proofs.YtmgpghoamapfgaaGreatDoor
set_option linter.unusedVariables false
set_option linter.unusedSimpArgs false
section
open Go Go.RowKit Go.Shelf
attribute [local go_sem] putC_setCell putC_cell putC_cell_ne putC_frozen putC_frozen_ne size_putC
section
attribute [-go_sem] loadCellsFrom storeCells
attribute [local go_sem] lcf0 lcf1 lcf2 lcf3 lcf4 lcf5 lcf6 lcf7 stc0 stc1
end
end
section
open Go Go.RowKit Go.Shelf
end
section
open Go Go.RowKit Go.Shelf
attribute [local go_sem] putC_setCell putC_cell putC_cell_ne putC_frozen putC_frozen_ne size_putC
section
attribute [-go_sem] loadCellsFrom storeCells
attribute [local go_sem] lcf0 lcf1 lcf2 lcf3 lcf4 lcf5 lcf6 lcf7 stc0 stc1
end
end
section
open Go Go.RowKit Go.Shelf
end
section
open Go Go.RowKit Go.Shelf
end
section
open Go Go.RowKit Go.Shelf
end
section
open Go Go.RowKit Go.Shelf
end
section
open Go Go.RowKit Go.Shelf
end
section
open Go Go.RowKit Go.Shelf
attribute [local go_sem] putC_setCell putC_cell putC_cell_ne putC_frozen putC_frozen_ne size_putC
section
attribute [-go_sem] loadCellsFrom storeCells
attribute [local go_sem] lcf0 lcf1 lcf2 lcf3 lcf4 lcf5 lcf6 lcf7 stc0 stc1
end
end
section
open Go Go.RowKit Go.Shelf
end
section
open Go Go.RowKit Go.Shelf
end
section
open Go Go.RowKit Go.Shelf
section
attribute [-go_sem] loadCellsFrom storeCells
attribute [local go_sem] lcf0 lcf1 lcf2 lcf3 lcf4 lcf5 stc0 stc1
end
end
section
open Go Go.RowKit Go.Shelf
theorem leaf_val {S:Nat→Prop} {w:World} (k v:Int) (hk:I64 k) (hv:I64 v):IsVal S w ⟨k,v,0,⟨#[]⟩,none,0,0,none,0,0⟩ (.mk k v 0 ⟨#[]⟩ [] [] []) :=
 ⟨⟨rfl,rfl,rfl,rfl,⟨hk,hv,by simp[I64],Nat.zero_le _,(show 0 * 88≤140737488351232 by decide),(show 0 * 104≤140737488351232 by decide),Nat.le_refl _,Nat.le_refl _⟩,rfl,rfl,rfl⟩,.inl rfl,.inl rfl⟩
section
attribute [-go_sem] loadCellsFrom storeCells
attribute [local go_sem] lcf0 lcf1 lcf2 lcf3 lcf4 lcf5 stc0 stc1
end
end
end Go.Proofs.YtmgpghoamapfgaaGreatDoor
