/-
  A range over a function whose iterator turns blocks of its own between two rounds: which blocks these are, is a set. The iterator's contract, for whatever it hands over, and what the caller owes. Conditions: the loop is an outermost one; the body ends normally or by a return.
-/
import Derived.Test.YtbfcokcfabbklaaGreatDoorSN15Mrg
namespace Go.Proofs.YtbfcokcfabbklaaGreatDoor
set_option linter.unusedVariables false
set_option linter.unusedSimpArgs false
open Go Go.RowKit
structure Turn (R:Nat→Prop) (X Y:World):Prop where
 os:Y.os=X.os
 tape:Y.tape=X.tape
 output:Y.output=X.output
 size:X.heap.size≤Y.heap.size
 block:∀k,k<X.heap.size→¬ R k→Y.heap[k]?=X.heap[k]?
theorem Turn.of_grown {R:Nat→Prop} {X Y:World} {row:Option Nat} (h:X.grownBy Y row) (hr:∀r,row=some r→R r):Turn R X Y :=
 ⟨h.os,h.tape,h.output,h.size,fun k hk hR=>h.block k hk (fun e=>hR (hr k e.symm))⟩
theorem Turn.of_below {R:Nat→Prop} {X Y:World} (h:Below X.heap.size X Y):Turn R X Y :=
 ⟨h.os,h.tape,h.output,h.size,fun k hk _=>h.block k hk⟩
theorem Turn.mono {R R':Nat→Prop} {X Y:World} (h:Turn R X Y) (hr:∀k,R k→R' k):Turn R' X Y :=
 ⟨h.os,h.tape,h.output,h.size,fun k hk hR=>h.block k hk (fun e=>hR (hr k e))⟩
theorem Turn.refl (R:Nat→Prop) (w:World):Turn R w w:=⟨rfl,rfl,rfl,Nat.le_refl _,fun _ _ _=>rfl⟩
theorem Turn.trans {R:Nat→Prop} {a b c:World} (h:Turn R a b) (k:Turn R b c):Turn R a c :=
 ⟨k.os.trans h.os,k.tape.trans h.tape,k.output.trans h.output,Nat.le_trans h.size k.size,fun i hi hR=>(k.block i (Nat.lt_of_lt_of_le hi h.size) hR).trans (h.block i hi hR)⟩
theorem Turn.setCell {R:Nat→Prop} {w:World} (a:Addr) (v:Value) (h:R a.block):Turn R w (w.setCell a v) :=
 ⟨rfl,rfl,rfl,by simp[World.setCell],fun k _ hR=>Below.heap_setCell _ _ _ _ (fun e=>hR (e▸h))⟩
theorem Turn.keep {R:Nat→Prop} {X Y:World} (h:Turn R X Y) {k:Nat} {o:Obj} (hk:X.heap[k]?=some o) (hR:¬ R k):Y.heap[k]?=some o:=(h.block k (Array.getElem?_eq_some_iff.1 hk).1 hR).trans hk
section
variable {α:Type}
def AbT (R:Nat→Prop) (J:List α→World→Prop):Prop:=∀p X Y,J p X→Turn R X Y→J p Y
theorem AbT.put {R:Nat→Prop} {I:List α→World→Prop} (h:AbT R I) {p:List α} {W:World} {l:Nat} (o':Obj) (hs:I p W) (hl:R l):I p (W.putObj l o') :=
 h p W _ hs (Turn.of_grown (grownBy_putObj' W l o') fun r e=>by cases e;exact hl)
end
end Go.Proofs.YtbfcokcfabbklaaGreatDoor
