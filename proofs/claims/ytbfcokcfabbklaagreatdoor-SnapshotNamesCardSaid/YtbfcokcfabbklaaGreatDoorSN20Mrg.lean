/-
  strings.Builder's copyCheck and WriteString at this program: the bytes go in behind, and every block that is not the builder's and is no row of bytes stays. Condition: the block holds a builder.
-/
import Derived.Test.YtbfcokcfabbklaaGreatDoorSN1Mrg
import Derived.Shelf.Strings.BuilderK
namespace Go.Proofs.YtbfcokcfabbklaaGreatDoor
set_option linter.unusedVariables false
set_option maxRecDepth 100000
set_option maxHeartbeats 16000000
set_option linter.unusedSimpArgs false
open Go Go.RowKit Go.Shelf
theorem sizeBld:(Tryz.prog.info? 147).map (·.size)=some 2:=by kernel_rfl
theorem cc_used (b:Nat) (w:World) (h0:w.cell? ⟨b,0,none⟩=some (.pointer (some ⟨b,0,none⟩))) :
 Calls Tryz.prog 157 #[.pointer (some ⟨b,0,none⟩)] w fun e w'=>e=.returned (.tuple #[])∧w'=w:=by
 obtain⟨j,hj,_⟩:=Option.map_eq_some_iff.1 sizeBld
 go_enter Tryz.func157,Tryz.ntmps157
 go_wp2
 rw[Lib.run_neq_ptr_same w _ Tryz.underlying144 hj]
 go_wp2
 go_end0
 exact⟨rfl,rfl⟩
theorem infoU8:(Tryz.prog.info? 5).map (fun i=>(i.zero,i.size,i.bytes))=some (some (.int .u8 0),1,1):=by kernel_rfl
end Go.Proofs.YtbfcokcfabbklaaGreatDoor
