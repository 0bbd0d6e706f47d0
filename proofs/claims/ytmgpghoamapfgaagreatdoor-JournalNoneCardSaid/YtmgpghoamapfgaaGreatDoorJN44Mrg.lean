/-
  Plain: the law's own writing of an entry is the journal's. No program in sight.
-/
import Derived.Test.YtmgpghoamapfgaaGreatDoorJN28Mrg
namespace Go.Proofs.YtmgpghoamapfgaaGreatDoor
set_option linter.unusedVariables false
set_option linter.unusedSimpArgs false
open Go Go.RowKit Go.Shelf
theorem putF_size {n:Nat} (h:n≤mostN):(putF n).2=0:=by
 have h':n≤4611686018427387903:=h
 unfold putF
 rw[if_neg (by show ¬ ((n:Int)<0∨((4611686018427387903:Nat):Int)<(n:Int));omega)]
theorem num_ok {w:JW} {n:Int} (h:(putF n).2=0):w.num n=⟨w.b++(putF n).1.data.toList,w.e⟩:=by
 unfold JW.num JW.fail
 rw[h]
 dsimp only
 congr 1
 split
 ·rename_i h1;exact h1.symm
 ·rfl
theorem text_ok {w:JW} {s:ByteArray} (h:s.size≤mostN):w.text s=⟨w.b++((putF s.size).1.data.toList++s.data.toList),w.e⟩:=by
 unfold JW.text
 rw[num_ok (putF_size h)]
 dsimp only
 rw[List.append_assoc]
end Go.Proofs.YtmgpghoamapfgaaGreatDoor
