/-
  Plain: a world in which one block of cells is as given (putC), the reader's block, and what of it the walk uses. No program is stepped through here.
-/
import Derived.Test.YtaofolgaiipcjaaGreatDoorJE8Mrg
import Derived.Test.YtaofolgaiipcjaaGreatDoorJE19Mrg
import Derived.Test.YtaofolgaiipcjaaGreatDoorProg
import Derived.Below
import Derived.Laws.AppendOwn
import Derived.Maps.Range
import Derived.Laws.NewBlocks
import Derived.Deep.WholeRow
import Derived.Laws.Cells
import Derived.Test.YtaofolgaiipcjaaGreatDoorJE16Mrg
import Derived.Test.YtaofolgaiipcjaaGreatDoorJE7Mrg
import Derived.Test.YtaofolgaiipcjaaGreatDoorJE0Mrg
import Derived.Test.YtaofolgaiipcjaaGreatDoorJE2Mrg
import Derived.Test.YtaofolgaiipcjaaGreatDoorJE15Mrg
import Derived.Lib.AtoiAllCases
namespace Go.Proofs.YtaofolgaiipcjaaGreatDoor
set_option linter.unusedVariables false
set_option linter.unusedSimpArgs false
section
open Go Go.RowKit
def putC (w : World) (b : Nat) (cs : Array Value) : World:={ w with heap:=w.heap.setIfInBounds b (.cells cs 276) }
theorem size_putC (w : World) (b : Nat) (cs : Array Value) : (putC w b cs).heap.size = w.heap.size:=by simp [putC]
theorem putC_self {w : World} {b : Nat} {cs : Array Value} (h : w.heap[b]? = some (.cells cs 276)) : putC w b cs = w:=by
 unfold putC
 have : w.heap.setIfInBounds b (.cells cs 276) = w.heap:=by
  apply Array.ext_getElem?
  intro i
  rw [Array.getElem?_setIfInBounds]
  split
  ·rename_i hi; subst hi
   have hb : b < w.heap.size:=by
    rcases Nat.lt_or_ge b w.heap.size with q | q
    ·exact q
    ·rw [Array.getElem?_eq_none q] at h; cases h
   rw [if_pos hb,h]
  ·rfl
 rw [this]
theorem putC_block (w : World) (b : Nat) (cs : Array Value) (hb : b < w.heap.size) : (putC w b cs).heap[b]? = some (.cells cs 276):=by
 unfold putC
 rw [Array.getElem?_setIfInBounds]
 simp [hb]
theorem putC_other (w : World) (b : Nat) (cs : Array Value) (i : Nat) (hi : i ≠ b) : (putC w b cs).heap[i]? = w.heap[i]?:=by
 unfold putC
 rw [Array.getElem?_setIfInBounds,if_neg (fun e => hi e.symm)]
theorem putC_cell (w : World) (b : Nat) (cs : Array Value) (i : Nat) (hb : b < w.heap.size) : (putC w b cs).cell? ⟨b,i,none⟩ = cs[i]?:=by
 unfold World.cell?
 rw [putC_block w b cs hb]
 simp
theorem putC_cell_ne (w : World) (b b' : Nat) (cs : Array Value) (i : Nat) (hb : b' ≠ b) : (putC w b cs).cell? ⟨b',i,none⟩ = w.cell? ⟨b',i,none⟩:=by
 unfold World.cell?
 rw [putC_other w b cs b' hb]
theorem putC_frozen (w : World) (b : Nat) (cs : Array Value) (i : Nat) : (putC w b cs).frozen? ⟨b,i,none⟩ = false:=by
 unfold World.frozen?
 by_cases hb : b < w.heap.size
 ·rw [putC_block w b cs hb]; simp
 ·have h : (putC w b cs).heap[b]? = none:=Array.getElem?_eq_none (by rw [size_putC]; omega)
  rw [h]
theorem putC_frozen_ne (w : World) (b b' : Nat) (cs : Array Value) (i : Nat) (hb : b' ≠ b) : (putC w b cs).frozen? ⟨b',i,none⟩ = w.frozen? ⟨b',i,none⟩:=by
 unfold World.frozen?
 rw [putC_other w b cs b' hb]
theorem putC_setCell (w : World) (b : Nat) (cs : Array Value) (i : Nat) (v : Value) : (putC w b cs).setCell ⟨b,i,none⟩ v = putC w b (cs.setIfInBounds i v):=by
 unfold World.setCell putC
 congr 1
 apply Array.ext_getElem?
 intro k
 simp only [Array.getElem?_modify,Array.getElem?_setIfInBounds]
 by_cases hk : b = k
 ·subst hk
  by_cases hb : b < w.heap.size <;> simp [hb]
 ·simp [hk]
abbrev rdA (s : ByteArray) (nx k p : Int) (t b : ByteArray) (n sc : Int) (d x : Bool) (e o : Int) : Array Value :=
 #[.string s,.int .i64 nx,.int .i64 k,.int .i64 p,.string t,.string b,.int .i64 n,.int .i64 sc,.bool d,.bool x,.int .i64 e,.int .i64 o]
structure IsRd (w : World) (b : Nat) (s : ByteArray) (r : Rd) : Prop where
 at_ : w.heap[b]? = some (.cells (rdA s r.nx r.k r.p r.t r.b r.n r.sc r.d r.x r.e r.o) 276)
 ok : r.Ok s
theorem IsRd.lt {w : World} {b : Nat} {s : ByteArray} {r : Rd} (h : IsRd w b s r) : b < w.heap.size:=by
 rcases Nat.lt_or_ge b w.heap.size with q | q
 ·exact q
 ·have:=h.at_; rw [Array.getElem?_eq_none q] at this; cases this
theorem IsRd.put {w : World} {b : Nat} {s : ByteArray} {r : Rd} (h : IsRd w b s r) : ∃ W,b < W.heap.size ∧ w = putC W b (rdA s r.nx r.k r.p r.t r.b r.n r.sc r.d r.x r.e r.o) :=
 ⟨w,h.lt,(putC_self h.at_).symm⟩
theorem IsRd.grown {w w' : World} {b : Nat} {s : ByteArray} {r : Rd} (h : IsRd w b s r) {row : Option Nat} (hg : w.grownBy w' row) (hr : some b ≠ row) : IsRd w' b s r :=
 ⟨(hg.block b h.lt hr).trans h.at_,h.ok⟩
theorem IsRd.alloc {w : World} {b : Nat} {s : ByteArray} {r : Rd} (h : IsRd w b s r) (o : Obj) : IsRd (w.alloc o) b s r :=
 h.grown (World.grownBy_alloc w o none) (by simp)
end
section
open Go Go.RowKit Go.Shelf
attribute [local go_sem] putC_setCell putC_cell putC_cell_ne putC_frozen putC_frozen_ne size_putC
end
section
open Go Go.RowKit Go.Shelf
theorem heap_alloc_old (w : World) (o : Obj) (i : Nat) (h : i < w.heap.size) : (w.alloc o).heap[i]? = w.heap[i]?:=by
 unfold World.alloc
 simp [Array.getElem?_push,Nat.ne_of_lt h]
end
section
open Go Go.RowKit Go.Shelf
attribute [local go_sem] putC_setCell putC_cell putC_cell_ne putC_frozen putC_frozen_ne size_putC
end
end Go.Proofs.YtaofolgaiipcjaaGreatDoor
