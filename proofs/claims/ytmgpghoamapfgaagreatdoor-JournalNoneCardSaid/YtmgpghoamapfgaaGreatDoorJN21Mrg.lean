/-
  Plain: a world in which one block of cells is as given (putC), the reader's block, and what of it the walk uses. No program is stepped through here.
-/
import Derived.Test.YtmgpghoamapfgaaGreatDoorJN19Mrg
import Derived.Test.YtmgpghoamapfgaaGreatDoorJN16Mrg
import Derived.Test.YtmgpghoamapfgaaGreatDoorJN11Mrg
import Derived.Test.YtmgpghoamapfgaaGreatDoorJN15Mrg
import Derived.Below
import Derived.Laws.AppendOwn
import Derived.Maps.Range
import Derived.Laws.NewBlocks
import Derived.Deep.WholeRow
import Derived.Laws.Cells
import Derived.Lib.AtoiAllCases
namespace Go.Proofs.YtmgpghoamapfgaaGreatDoor
set_option linter.unusedVariables false
set_option linter.unusedSimpArgs false
section
open Go Go.RowKit
def putC (w:World) (b:Nat) (cs:Array Value):World:={ w with heap:=w.heap.setIfInBounds b (.cells cs 225) }
theorem size_putC (w:World) (b:Nat) (cs:Array Value):(putC w b cs).heap.size=w.heap.size:=by simp[putC]
theorem putC_block (w:World) (b:Nat) (cs:Array Value) (hb:b<w.heap.size):(putC w b cs).heap[b]?=some (.cells cs 225):=by
 unfold putC
 rw[Array.getElem?_setIfInBounds]
 simp[hb]
theorem putC_other (w:World) (b:Nat) (cs:Array Value) (i:Nat) (hi:i≠b):(putC w b cs).heap[i]?=w.heap[i]?:=by
 unfold putC
 rw[Array.getElem?_setIfInBounds,if_neg (fun e=>hi e.symm)]
theorem putC_cell (w:World) (b:Nat) (cs:Array Value) (i:Nat) (hb:b<w.heap.size):(putC w b cs).cell? ⟨b,i,none⟩=cs[i]?:=by
 unfold World.cell?
 rw[putC_block w b cs hb]
 simp
theorem putC_cell_ne (w:World) (b b':Nat) (cs:Array Value) (i:Nat) (hb:b'≠b):(putC w b cs).cell? ⟨b',i,none⟩=w.cell? ⟨b',i,none⟩:=by
 unfold World.cell?
 rw[putC_other w b cs b' hb]
theorem putC_frozen (w:World) (b:Nat) (cs:Array Value) (i:Nat):(putC w b cs).frozen? ⟨b,i,none⟩=false:=by
 unfold World.frozen?
 by_cases hb:b<w.heap.size
 ·rw[putC_block w b cs hb];simp
 ·have h:(putC w b cs).heap[b]?=none:=Array.getElem?_eq_none (by rw[size_putC];omega)
  rw[h]
theorem putC_frozen_ne (w:World) (b b':Nat) (cs:Array Value) (i:Nat) (hb:b'≠b):(putC w b cs).frozen? ⟨b',i,none⟩=w.frozen? ⟨b',i,none⟩:=by
 unfold World.frozen?
 rw[putC_other w b cs b' hb]
theorem putC_setCell (w:World) (b:Nat) (cs:Array Value) (i:Nat) (v:Value):(putC w b cs).setCell ⟨b,i,none⟩ v=putC w b (cs.setIfInBounds i v):=by
 unfold World.setCell putC
 congr 1
 apply Array.ext_getElem?
 intro k
 simp only[Array.getElem?_modify,Array.getElem?_setIfInBounds]
 by_cases hk:b=k
 ·subst hk
  by_cases hb:b<w.heap.size<;>simp[hb]
 ·simp[hk]
end
section
open Go Go.RowKit Go.Shelf
attribute [local go_sem] putC_setCell putC_cell putC_cell_ne putC_frozen putC_frozen_ne size_putC
end
section
open Go Go.RowKit Go.Shelf
theorem atoi_call (s:ByteArray) (hs:s.size≤1000000) (w:World) (hN:NumVars w) :
 Calls Tryz.prog 148 #[.string s] w fun x w'=>∃ev,x=.returned (.tuple #[.int .i64 (atoiV s.data.toList),ev])∧((atoiOK s.data.toList=true∧ev=.nilIface)∨(atoiOK s.data.toList=false∧∃p,ev=.iface 311 p))∧Below w.heap.size w w':=by
 obtain⟨⟨e1,h1,k1⟩,⟨e2,h2,k2⟩,_⟩:=hN
 obtain⟨r,hr⟩:∃r,Lib.atoiAll s.data.toList=r:=⟨_,rfl⟩
 by_cases hok:∃v,r=.ok v
 ·obtain⟨v,rfl⟩:=hok
  refine(Tryz.strconv_Atoi_ok s (by omega) v hr w).mono ?_
  rintro e w1 ⟨rfl,hw1⟩
  refine⟨_,?_,.inl ⟨by unfold atoiOK;rw[hr],rfl⟩,hw1.elim (fun h=>h▸Below.refl _ _) (fun ⟨_,h⟩=>h▸Lib.bytesWorld_below _ _ _)⟩
  unfold atoiV;rw[hr]
 by_cases hra:r=.range
 ·subst hra
  refine(Tryz.strconv_Atoi_range s (by omega) hr e2 w h2 k2).mono ?_
  rintro e w1 ⟨N,rfl,_,_,hb1⟩
  have hx:atoiOK s.data.toList=false∧atoiV s.data.toList=Lib.atoiSat s.data.toList:=by
   unfold atoiOK atoiV
   rw[hr]
   exact⟨rfl,rfl⟩
  exact⟨.iface 311 (.pointer (some ⟨N,0,none⟩)),by rw[hx.2],.inr ⟨hx.1,_,rfl⟩,hb1⟩
 refine(atoi_bad s (by omega) (fun v h=>hok ⟨v,hr.symm.trans h⟩) (fun h=>hra (hr.symm.trans h)) e1 w h1 k1).mono ?_
 rintro e w1 ⟨N,rfl,_,_,hb1⟩
 have hx:atoiOK s.data.toList=false∧atoiV s.data.toList=0:=by
  unfold atoiOK atoiV
  rw[hr]
  cases r
  ·exact absurd ⟨_,rfl⟩ hok
  ·exact⟨rfl,rfl⟩
  ·exact absurd rfl hra
 exact⟨.iface 311 (.pointer (some ⟨N,0,none⟩)),by rw[hx.2],.inr ⟨hx.1,_,rfl⟩,hb1⟩
theorem heap_alloc_old (w:World) (o:Obj) (i:Nat) (h:i<w.heap.size):(w.alloc o).heap[i]?=w.heap[i]?:=by
 unfold World.alloc
 simp[Array.getElem?_push,Nat.ne_of_lt h]
end
section
open Go Go.RowKit Go.Shelf
attribute [local go_sem] putC_setCell putC_cell putC_cell_ne putC_frozen putC_frozen_ne size_putC
end
end Go.Proofs.YtmgpghoamapfgaaGreatDoor
