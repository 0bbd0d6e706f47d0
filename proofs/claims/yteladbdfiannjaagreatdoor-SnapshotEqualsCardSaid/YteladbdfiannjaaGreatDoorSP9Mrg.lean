/-
  Plain: the names of the files of snapshots, and the entry of a name. No program is stepped through here.
-/
import Derived.Test.YteladbdfiannjaaGreatDoorSP8Mrg
import Derived.Lib.MinMax
import Derived.Lib.Repeat
import Derived.Lib.AtoiAllCases
namespace Go.Proofs.YteladbdfiannjaaGreatDoor
set_option linter.unusedVariables false
set_option linter.unusedSimpArgs false
section
open Go Go.RowKit Go.Shelf
def snPre:List UInt8:=[115,110,97,112,115,104,111,116,46]
def snName (v:Nat):ByteArray:=⟨(snPre++digZ v 6).toArray⟩
theorem snName_list (v:Nat):(snName v).data.toList=snPre++digZ v 6:=by unfold snName;simp
end
section
open Go Go.RowKit
end
section
open Go Go.RowKit Go.Shelf
end
section
open Go Go.RowKit Go.Shelf
end
section
open Go Go.RowKit Go.Shelf
theorem atoi_call (s:ByteArray) (hs:s.size≤1000000) (w:World) (hN:NumVars w) :
 Calls Tryz.prog 135 #[.string s] w fun x w'=>∃ev,x=.returned (.tuple #[.int .i64 (atoiV s.data.toList),ev])∧((atoiOK s.data.toList=true∧ev=.nilIface)∨(atoiOK s.data.toList=false∧∃p,ev=.iface 296 p))∧Below w.heap.size w w':=by
 obtain⟨⟨e1,h1,k1⟩,⟨e2,h2,k2⟩,_⟩:=hN
 obtain⟨r,hr⟩:∃r,Lib.atoiAll s.data.toList=r:=⟨_,rfl⟩
 by_cases hok:∃v,r=.ok v
 ·obtain⟨v,rfl⟩:=hok
  refine(Tryz.strconv_Atoi_ok s (by omega) v hr w).mono ?_
  rintro e w1 ⟨rfl,hw1⟩
  refine⟨_,?_,.inl ⟨by unfold atoiOK;rw[hr],rfl⟩,hw1.elim (fun h=>h▸Below.refl _ _) (fun ⟨_,h⟩=>h▸Lib.bytesWorld_below _ _ _)⟩
  unfold atoiV;rw[hr]
 by_cases hra:r=.range
 ·subst hra
  refine(Tryz.strconv_Atoi_range s (by omega) hr e2 w h2 k2).mono ?_
  rintro e w1 ⟨N,rfl,_,_,hb1⟩
  have hx:atoiOK s.data.toList=false∧atoiV s.data.toList=Lib.atoiSat s.data.toList:=by
   unfold atoiOK atoiV
   rw[hr]
   exact⟨rfl,rfl⟩
  exact⟨.iface 296 (.pointer (some ⟨N,0,none⟩)),by rw[hx.2],.inr ⟨hx.1,_,rfl⟩,hb1⟩
 refine(atoi_bad s (by omega) (fun v h=>hok ⟨v,hr.symm.trans h⟩) (fun h=>hra (hr.symm.trans h)) e1 w h1 k1).mono ?_
 rintro e w1 ⟨N,rfl,_,_,hb1⟩
 have hx:atoiOK s.data.toList=false∧atoiV s.data.toList=0:=by
  unfold atoiOK atoiV
  rw[hr]
  cases r
  ·exact absurd ⟨_,rfl⟩ hok
  ·exact⟨rfl,rfl⟩
  ·exact absurd rfl hra
 exact⟨.iface 296 (.pointer (some ⟨N,0,none⟩)),by rw[hx.2],.inr ⟨hx.1,_,rfl⟩,hb1⟩
end
end Go.Proofs.YteladbdfiannjaaGreatDoor
