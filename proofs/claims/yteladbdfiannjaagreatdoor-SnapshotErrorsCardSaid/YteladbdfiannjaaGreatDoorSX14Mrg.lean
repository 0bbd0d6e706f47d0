/- A part. -/
import Derived.Test.YteladbdfiannjaaGreatDoorSX13Mrg
import Derived.Test.YteladbdfiannjaaGreatDoorSX8Mrg
import Derived.Lib.AtoiAllCases
import Derived.Below
import Derived.Laws.AppendOwn
import Derived.Maps.Range
import Derived.Laws.NewBlocks
import Derived.Laws.Runes
import Derived.Deep.DeepCutAuto
import Derived.Laws.Tables
import Derived.Laws.CopyRow
namespace Go.Proofs.YteladbdfiannjaaGreatDoor
set_option linter.unusedVariables false
set_option linter.unusedSimpArgs false
section
open Go Go.RowKit Go.Shelf
theorem aBj (s:ByteArray) (hs:s.size≤1000000) (w:World) (hN:NumVars w) :
 Calls Tryz.prog 135 #[.string s] w fun x w'=>∃ev,x=.returned (.tuple #[.int .i64 (mM s.data.toList),ev])∧((gJ s.data.toList=true∧ev=.nilIface)∨(gJ s.data.toList=false∧∃p,ev=.iface 296 p))∧Below w.heap.size w w':=by
 obtain⟨⟨e1,h1,k1⟩,⟨e2,h2,k2⟩,_⟩:=hN
 obtain⟨r,hr⟩:∃r,Lib.atoiAll s.data.toList=r:=⟨_,rfl⟩
 by_cases hok:∃v,r=.ok v
 ·obtain⟨v,rfl⟩:=hok
  refine(Tryz.strconv_Atoi_ok s (by omega) v hr w).mono ?_
  rintro e w1 ⟨rfl,hw1⟩
  refine⟨_,?_,.inl ⟨by unfold gJ;rw[hr],rfl⟩,hw1.elim (fun h=>h▸Below.refl _ _) (fun ⟨_,h⟩=>h▸Lib.bytesWorld_below _ _ _)⟩
  unfold mM;rw[hr]
 by_cases hra:r=.range
 ·subst hra
  refine(Tryz.strconv_Atoi_range s (by omega) hr e2 w h2 k2).mono ?_
  rintro e w1 ⟨N,rfl,_,_,hb1⟩
  have hx:gJ s.data.toList=false∧mM s.data.toList=Lib.atoiSat s.data.toList:=by
   unfold gJ mM
   rw[hr]
   exact⟨rfl,rfl⟩
  exact⟨.iface 296 (.pointer (some ⟨N,0,none⟩)),by rw[hx.2],.inr ⟨hx.1,_,rfl⟩,hb1⟩
 refine(aDu s (by omega) (fun v h=>hok ⟨v,hr.symm.trans h⟩) (fun h=>hra (hr.symm.trans h)) e1 w h1 k1).mono ?_
 rintro e w1 ⟨N,rfl,_,_,hb1⟩
 have hx:gJ s.data.toList=false∧mM s.data.toList=0:=by
  unfold gJ mM
  rw[hr]
  cases r
  ·exact absurd ⟨_,rfl⟩ hok
  ·exact⟨rfl,rfl⟩
  ·exact absurd rfl hra
 exact⟨.iface 296 (.pointer (some ⟨N,0,none⟩)),by rw[hx.2],.inr ⟨hx.1,_,rfl⟩,hb1⟩
end
section
open Go Go.RowKit
def kY (w:World) (b:Nat) (cs:Array Value):World:={ w with heap:=w.heap.setIfInBounds b (.cells cs 272) }
theorem fT (w:World) (b:Nat) (cs:Array Value):(kY w b cs).heap.size=w.heap.size:=by simp[kY]
theorem nE (w:World) (b:Nat) (cs:Array Value) (hb:b<w.heap.size):(kY w b cs).heap[b]?=some (.cells cs 272):=by
 unfold kY
 rw[Array.getElem?_setIfInBounds]
 simp[hb]
theorem nD (w:World) (b:Nat) (cs:Array Value) (i:Nat) (hi:i≠b):(kY w b cs).heap[i]?=w.heap[i]?:=by
 unfold kY
 rw[Array.getElem?_setIfInBounds,if_neg (fun e=>hi e.symm)]
theorem iA (w:World) (b:Nat) (cs:Array Value) (i:Nat) (hb:b<w.heap.size):(kY w b cs).cell? ⟨b,i,none⟩=cs[i]?:=by
 unfold World.cell?
 rw[nE w b cs hb]
 simp
theorem eC (w:World) (b b':Nat) (cs:Array Value) (i:Nat) (hb:b'≠b):(kY w b cs).cell? ⟨b',i,none⟩=w.cell? ⟨b',i,none⟩:=by
 unfold World.cell?
 rw[nD w b cs b' hb]
theorem fC (w:World) (b:Nat) (cs:Array Value) (i:Nat):(kY w b cs).frozen? ⟨b,i,none⟩=false:=by
 unfold World.frozen?
 by_cases hb:b<w.heap.size
 ·rw[nE w b cs hb];simp
 ·have h:(kY w b cs).heap[b]?=none:=Array.getElem?_eq_none (by rw[fT];omega)
  rw[h]
theorem cU (w:World) (b b':Nat) (cs:Array Value) (i:Nat) (hb:b'≠b):(kY w b cs).frozen? ⟨b',i,none⟩=w.frozen? ⟨b',i,none⟩:=by
 unfold World.frozen?
 rw[nD w b cs b' hb]
theorem eB (w:World) (b:Nat) (cs:Array Value) (i:Nat) (v:Value):(kY w b cs).setCell ⟨b,i,none⟩ v=kY w b (cs.setIfInBounds i v):=by
 unfold World.setCell kY
 congr 1
 apply Array.ext_getElem?
 intro k
 simp only[Array.getElem?_modify,Array.getElem?_setIfInBounds]
 by_cases hk:b=k
 ·subst hk
  by_cases hb:b<w.heap.size<;>simp[hb]
 ·simp[hk]
end
section
open Go Go.RowKit Go.Shelf
attribute [local go_sem] eB iA eC fC cU fT
end
section
open Go Go.RowKit Go.Shelf
attribute [local go_sem] eB iA eC fC cU fT
end
section
open Go Go.RowKit Go.Shelf
end
section
open Go Go.RowKit Go.Shelf
end
section
open Go Go.RowKit Go.Shelf
attribute [local go_sem] eB iA eC fC cU fT
end
section
open Go Go.RowKit Go.Shelf
attribute [local go_sem] eB iA eC fC cU fT
end
section
open Go Go.RowKit Go.Shelf
attribute [local go_sem] eB iA eC fC cU fT
end
section
open Go Go.RowKit Go.Shelf
end
end Go.Proofs.YteladbdfiannjaaGreatDoor
