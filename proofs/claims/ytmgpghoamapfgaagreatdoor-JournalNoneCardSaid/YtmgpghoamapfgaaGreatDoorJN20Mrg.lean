/-
  Plain: effects as data and as cells, and slices of them; a row's argument that is such a list, opened. No program is stepped through here.
-/
import Derived.Test.YtmgpghoamapfgaaGreatDoorJN19Mrg
import Derived.Deep.WholeRow
import Derived.Laws.Cells
namespace Go.Proofs.YtmgpghoamapfgaaGreatDoor
set_option linter.unusedVariables false
set_option linter.unusedSimpArgs false
open Go Go.RowKit
/-! The load of a few cells unfolds,when the walk's own unfolding of loadCellsFrom is taken out (so that a load of 18 cells stands still). -/
theorem lcf0 (a:Addr) (i:Nat) (acc:Array Value):loadCellsFrom a i 0 acc=pure acc:=rfl
theorem lcf1 (a:Addr) (i:Nat) (acc:Array Value):loadCellsFrom a i 1 acc=(do let v ←load (a.add i);loadCellsFrom a (i+1) 0 (acc.push v)):=rfl
theorem lcf2 (a:Addr) (i:Nat) (acc:Array Value):loadCellsFrom a i 2 acc=(do let v ←load (a.add i);loadCellsFrom a (i+1) 1 (acc.push v)):=rfl
theorem lcf3 (a:Addr) (i:Nat) (acc:Array Value):loadCellsFrom a i 3 acc=(do let v ←load (a.add i);loadCellsFrom a (i+1) 2 (acc.push v)):=rfl
theorem lcf4 (a:Addr) (i:Nat) (acc:Array Value):loadCellsFrom a i 4 acc=(do let v ←load (a.add i);loadCellsFrom a (i+1) 3 (acc.push v)):=rfl
theorem lcf5 (a:Addr) (i:Nat) (acc:Array Value):loadCellsFrom a i 5 acc=(do let v ←load (a.add i);loadCellsFrom a (i+1) 4 (acc.push v)):=rfl
theorem lcf6 (a:Addr) (i:Nat) (acc:Array Value):loadCellsFrom a i 6 acc=(do let v ←load (a.add i);loadCellsFrom a (i+1) 5 (acc.push v)):=rfl
theorem lcf7 (a:Addr) (i:Nat) (acc:Array Value):loadCellsFrom a i 7 acc=(do let v ←load (a.add i);loadCellsFrom a (i+1) 6 (acc.push v)):=rfl
theorem stc0 (a:Addr) (i:Nat):storeCells a [] i=pure ():=rfl
theorem stc1 (a:Addr) (i:Nat) (v:Value):storeCells a [v] i=(do store (a.add i) v;storeCells a [] (i+1)):=rfl
end Go.Proofs.YtmgpghoamapfgaaGreatDoor
