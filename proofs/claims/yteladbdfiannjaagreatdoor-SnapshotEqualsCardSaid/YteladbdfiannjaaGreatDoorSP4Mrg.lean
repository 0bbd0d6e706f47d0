/-
  Rows of strings that the call builds; strconv.Itoa and strings.Join over them; stamp.Text returns the text of a stamp, or its error. Conditions: the stamp can be read as data; Tabs.
-/
import Derived.Test.YteladbdfiannjaaGreatDoorSP1Mrg
import Derived.Lib.ItoaLen
import Derived.Lib.AppendIntMem
import Derived.Maps.AppendAt
namespace Go.Proofs.YteladbdfiannjaaGreatDoor
set_option linter.unusedVariables false
set_option linter.unusedSimpArgs false
open Go Go.RowKit Go.Shelf
def itoaB (n:Int):ByteArray:=⟨(Lib.itoa n).toArray⟩
def joinB (xs:List ByteArray) (sep:ByteArray):ByteArray:=⟨(Lib.join (xs.map (·.data.toList)) sep.data.toList).toArray⟩
theorem itoa_call (n:Int) (h:I64 n) (w:World) (hT:Tabs w):Calls Tryz.prog 80 #[.int .i64 n] w fun e w'=>e=.returned (.string (itoaB n))∧Below w.heap.size w w' :=
 (Tryz.strconv_Itoa n h.1 h.2 w hT.2).mono fun e w' ⟨he,k,os,hw⟩=>⟨he,by rw[hw];exact Lib.below_grow _ w (Nat.le_refl _) k os⟩
end Go.Proofs.YteladbdfiannjaaGreatDoor
