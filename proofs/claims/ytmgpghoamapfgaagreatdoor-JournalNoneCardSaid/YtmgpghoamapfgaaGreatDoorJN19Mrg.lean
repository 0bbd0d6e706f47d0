/-
  Plain: slices of messages, read or built by appending. No program in sight.
-/
import Derived.Test.YtmgpghoamapfgaaGreatDoorJN1Mrg
namespace Go.Proofs.YtmgpghoamapfgaaGreatDoor
set_option linter.unusedVariables false
set_option linter.unusedSimpArgs false
section
open Go Go.RowKit
end
section
open Go Go.RowKit
structure Kit (C D:Type) where
 n:Nat
 by':Nat
 cs:C→List Value
 len:∀c,(cs c).length=n
 pos:0<n
 Is:(Nat→Prop)→World→C→D→Prop
 same:∀{S S':Nat→Prop} {w w':World} {c:C} {d:D},(∀b,S b→S' b∧w'.heap[b]?=w.heap[b]?)→Is S w c d→Is S' w' c d
section
variable {C D:Type} (K:Kit C D)
variable {K}
variable (K)
variable {K}
variable (K)
variable {K}
end
section
variable {C D:Type} {K:Kit C D}
end
end
end Go.Proofs.YtmgpghoamapfgaaGreatDoor
