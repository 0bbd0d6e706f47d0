/-
  A value that is a leaf; whole structs loaded and stored. Conditions: its two numbers are 64-bit; the block is there.
-/
import Derived.Test.YtaofolgaiipcjaaGreatDoorJP1Mrg
import Derived.Test.YtaofolgaiipcjaaGreatDoorJP3Mrg
import Derived.Test.YtaofolgaiipcjaaGreatDoorJP4Mrg
import Derived.Test.YtaofolgaiipcjaaGreatDoorJP8Mrg
namespace Go.Proofs.YtaofolgaiipcjaaGreatDoor
set_option linter.unusedVariables false
set_option maxRecDepth 100000
set_option maxHeartbeats 16000000
set_option linter.unusedSimpArgs false
section
open Go Go.RowKit Go.Shelf
theorem leaf_val {S:Nat→Prop} {w:World} (k v:Int) (hk:I64 k) (hv:I64 v):IsVal S w ⟨k,v,0,⟨#[]⟩,none,0,0,none,0,0⟩ (.mk k v 0 ⟨#[]⟩ [] [] []) :=
 ⟨⟨rfl,rfl,rfl,rfl,⟨hk,hv,by simp[I64],Nat.zero_le _,(show 0 * 88≤140737488351232 by decide),(show 0 * 104≤140737488351232 by decide),Nat.le_refl _,Nat.le_refl _⟩,rfl,rfl,rfl⟩,.inl rfl,.inl rfl⟩
theorem add_at (b o j:Nat):(⟨b,o,none⟩:Addr).add j=⟨b,o+j,none⟩:=by unfold Addr.add;split<;>simp_all
end
section
open Go Go.RowKit Go.Shelf
theorem ldAll {P:Program} {w:World} {N:Nat} {vs:List Value} {t:TypeId} {fr:Nat × Nat} (h:w.heap[N]?=some (.cells vs.toArray t fr)):(loadCellsFrom ⟨N,0,none⟩ 0 vs.length #[]).run P w=.ok vs.toArray w:=by
 have:=run_loadCells_list (P:=P) w ⟨N,0,none⟩ vs (fun j v hv=>by
  rw[add_at,Nat.zero_add,cellOf h j];simpa using hv)
 exact this
theorem stOld {P:Program} {w:World} {N:Nat} {cur:Array Value} {t:TypeId} (vs:List Value) (h:w.heap[N]?=some (.cells cur t (0,0))) (hc:cur.size=vs.length) (h1:∀v∈vs,v.oneCell'=true) :
 (storeCells ⟨N,0,none⟩ vs 0).run P w=.ok () (w.setRow N vs.toArray):=by
 have:=run_storeCells_from (P:=P) N t vs 0 cur w h (by omega) h1
 have e:cur.toList.take 0++vs=vs:=rfl
 simpa [hc] using this
theorem stNew (w:World) (t:TypeId) (z:Array Value) (vs:List Value) (hi:(Tryz.prog.info? t).map (·.size)=some vs.length) (hz:z.size=vs.length) (h1:∀v∈vs,v.oneCell'=true) :
 (storeCells ⟨w.heap.size,0,none⟩ vs 0).run Tryz.prog (w.alloc (.cells z t))=.ok () (w.alloc (.cells vs.toArray t)):=by
 have:=run_storeCells_new (P:=Tryz.prog) w t z vs.toArray (by rw[hi];rfl) (by rw[hz];rfl) (by
  rw[Array.all_eq_true_iff_forall_mem];intro v hv;exact h1 v (by simpa using hv))
 exact this
theorem bList (a b:ByteArray):(a.toList==b.toList)=decide (a=b):=by
 rw[strEq]
 by_cases h:a=b
 ·subst h;simp
 ·rw[decide_eq_false h,decide_eq_false]
  intro e
  exact h (ByteArray.ext (Array.ext' e))
def pieces (k:Nat) (s:ByteArray):List ByteArray:=Lib.splitB ⟨#[32]⟩ 0 (min k (s.size+1)-1) s
end
end Go.Proofs.YtaofolgaiipcjaaGreatDoor
