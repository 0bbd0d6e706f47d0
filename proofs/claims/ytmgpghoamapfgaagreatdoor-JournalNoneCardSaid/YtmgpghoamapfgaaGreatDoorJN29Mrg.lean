/-
  A range over a function whose iterator turns blocks of its own between two rounds: which blocks these are, is a set. The iterator's contract, for whatever it hands over, and what the caller owes. Conditions: the loop is an outermost one; the body ends normally or by a return.
-/
import Derived.Test.YtmgpghoamapfgaaGreatDoorJN25Mrg
namespace Go.Proofs.YtmgpghoamapfgaaGreatDoor
set_option linter.unusedVariables false
set_option linter.unusedSimpArgs false
open Go Go.RowKit
structure Turn (R:Nat→Prop) (X Y:World):Prop where
 os:Y.os=X.os
 tape:Y.tape=X.tape
 output:Y.output=X.output
 size:X.heap.size≤Y.heap.size
 block:∀k,k<X.heap.size→¬ R k→Y.heap[k]?=X.heap[k]?
theorem Turn.of_grown {R:Nat→Prop} {X Y:World} {row:Option Nat} (h:X.grownBy Y row) (hr:∀r,row=some r→R r):Turn R X Y :=
 ⟨h.os,h.tape,h.output,h.size,fun k hk hR=>h.block k hk (fun e=>hR (hr k e.symm))⟩
theorem Turn.of_below {R:Nat→Prop} {X Y:World} (h:Below X.heap.size X Y):Turn R X Y :=
 ⟨h.os,h.tape,h.output,h.size,fun k hk _=>h.block k hk⟩
theorem Turn.mono {R R':Nat→Prop} {X Y:World} (h:Turn R X Y) (hr:∀k,R k→R' k):Turn R' X Y :=
 ⟨h.os,h.tape,h.output,h.size,fun k hk hR=>h.block k hk (fun e=>hR (hr k e))⟩
theorem Turn.trans {R:Nat→Prop} {a b c:World} (h:Turn R a b) (k:Turn R b c):Turn R a c :=
 ⟨k.os.trans h.os,k.tape.trans h.tape,k.output.trans h.output,Nat.le_trans h.size k.size,fun i hi hR=>(k.block i (Nat.lt_of_lt_of_le hi h.size) hR).trans (h.block i hi hR)⟩
theorem Turn.setCell {R:Nat→Prop} {w:World} (a:Addr) (v:Value) (h:R a.block):Turn R w (w.setCell a v) :=
 ⟨rfl,rfl,rfl,by simp[World.setCell],fun k _ hR=>Below.heap_setCell _ _ _ _ (fun e=>hR (e▸h))⟩
theorem Turn.keep {R:Nat→Prop} {X Y:World} (h:Turn R X Y) {k:Nat} {o:Obj} (hk:X.heap[k]?=some o) (hR:¬ R k):Y.heap[k]?=some o:=(h.block k (Array.getElem?_eq_some_iff.1 hk).1 hR).trans hk
section
variable {α:Type}
end
end Go.Proofs.YtmgpghoamapfgaaGreatDoor
