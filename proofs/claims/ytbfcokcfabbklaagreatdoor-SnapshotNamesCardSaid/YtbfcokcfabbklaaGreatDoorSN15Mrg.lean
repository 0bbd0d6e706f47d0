/-
  A range over a function whose iterator turns one block of cells of its own between two rounds (as strings.SplitSeq's does with its captured variable): the iterator's contract and what the caller owes. Conditions: the loop is an outermost one; the body ends normally or by a return.
-/
import Derived.RangeFuncBox
import Derived.RangeFuncLeaves
import Derived.RangeFuncCalls
namespace Go.Proofs.YtbfcokcfabbklaaGreatDoor
set_option linter.unusedVariables false
set_option linter.unusedSimpArgs false
open Go Go.RowKit
def AbFrom (bs B:Nat) (I:List ByteArray→World→Prop):Prop :=
 ∀p X Y row,I p X→X.grownBy Y row→(∀r,row=some r→r=bs∨(B≤r∧∃o:Obj,X.heap[r]?=some o∧o.isCells=false))→I p Y
theorem AbFrom.put {bs B:Nat} {I:List ByteArray→World→Prop} (h:AbFrom bs B I) {p:List ByteArray} {W:World} {l:Nat} {o:Obj} (o':Obj) (hs:I p W) (hB:B≤l) (hl:W.heap[l]?=some o) (ho:o.isCells=false):I p (W.putObj l o') :=
 h p W _ (some l) hs (grownBy_putObj' W l o') fun r e=>by cases e;exact .inr ⟨hB,o,hl,ho⟩
end Go.Proofs.YtbfcokcfabbklaaGreatDoor
