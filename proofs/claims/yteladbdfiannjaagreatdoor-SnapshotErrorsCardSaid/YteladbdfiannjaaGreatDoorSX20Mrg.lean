/- A part. -/
import Derived.Test.YteladbdfiannjaaGreatDoorSX18Mrg
namespace Go.Proofs.YteladbdfiannjaaGreatDoor
set_option linter.unusedVariables false
set_option linter.unusedSimpArgs false
section
open Go Go.RowKit Go.Shelf
end
section
open Go Go.RowKit Go.Shelf
end
section
open Go Go.RowKit
theorem aC8 (x:Int) (r:List Int):orL (x :: r)=0 ↔ x=0∧orL r=0:=by
 rw[orL]
 by_cases h:x=0
 ·simp[h]
 ·simp[h]
theorem qQ:∀{xs ys:List UInt8},Lib.compareBytes xs ys=0→xs=ys
 | [],[],_=>rfl
 | [],_ :: _,h=>by simp[Lib.compareBytes] at h
 | _ :: _,[],h=>by simp[Lib.compareBytes] at h
 | a :: r,b :: q,h=>by
   rw[Lib.compareBytes] at h
   split at h
   ·simp at h
   ·rename_i h1
    split at h
    ·simp at h
    ·rename_i h2
     have hab:a=b:=UInt8.le_antisymm (UInt8.not_lt.1 h2) (UInt8.not_lt.1 h1)
     rw[hab,qQ h]
end
end Go.Proofs.YteladbdfiannjaaGreatDoor
