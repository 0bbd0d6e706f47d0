/-
  value.parts returns the values of which a value consists directly, and leaves what was there as it was. Condition: the value can be read as data.
-/
import Derived.Test.YtbfcokcfabbklaaGreatDoorSN2Mrg
import Derived.RangeFuncNested
import Derived.RangeFuncBound
import Derived.Shelf.RegionOpen
import Derived.OwnWalkIn
import Derived.TacticsInMore
import Derived.LoopIn
namespace Go.Proofs.YtbfcokcfabbklaaGreatDoor
set_option linter.unusedVariables false
set_option linter.unusedSimpArgs false
section
open Go Go.RowKit
def kids:Val→List Val
 | .mk k _ _ _ l _ fs=>if k=8∨k=10 then l else if k=9 then fs else []
end
section
open Go Go.RowKit Go.Shelf
attribute [local go_sem] Oper.semAt_some
mutual
def preL (lvl:Int):Val→List (Int × Val)
 | .mk k i s t l ns fs=>(lvl,.mk k i s t l ns fs) :: (if k=8∨k=10 then preLs (wrap64 (lvl+1)) l else if k=9 then preLs (wrap64 (lvl+1)) fs else [])
def preLs (lvl:Int):List Val→List (Int × Val)
 | []=>[]
 | d :: l=>preL lvl d++preLs lvl l
end
theorem preL_eq (lvl:Int) (d:Val):preL lvl d=(lvl,d) :: preLs (wrap64 (lvl+1)) (kids d):=by
 obtain⟨k,i,s,t,l,ns,fs⟩:=d
 rw[preL,kids]
 split
 ·rfl
 ·split
  ·rfl
  ·rfl
def Kp (n₀ n₁:Nat) (W W':World):Prop:=Below n₀ W W'∧∀(b:Nat) (o:Obj),n₁≤b→W.heap[b]?=some o→o.isCells=true→W'.heap[b]?=some o
theorem Kp.refl (n₀ n₁:Nat) (W:World):Kp n₀ n₁ W W:=⟨Below.refl _ _,fun _ _ _ h _=>h⟩
theorem Kp.trans {n₀ n₁:Nat} {A B C:World} (h:Kp n₀ n₁ A B) (k:Kp n₀ n₁ B C):Kp n₀ n₁ A C:=⟨h.1.trans k.1,fun b o hb ho hc=>k.2 b o hb (h.2 b o hb ho hc) hc⟩
theorem Kp.ext {n₀ n₁:Nat} {A B:World} (h:Below A.heap.size A B) (hn:n₀≤A.heap.size):Kp n₀ n₁ A B:=⟨h.mono hn,fun b o _ ho _=>heapExt h ho⟩
theorem Kp.cells {n₀ n₁:Nat} {A B:World} (h:Kp n₀ n₁ A B) {b:Nat} {cs:Array Value} {t:TypeId} {fr:Nat × Nat} (hb:b<n₀∨n₁≤b) (hc:A.heap[b]?=some (.cells cs t fr)):B.heap[b]?=some (.cells cs t fr):=by
 rcases hb with hb | hb
 ·exact(h.1.block b hb).trans hc
 ·exact h.2 b _ hb hc rfl
theorem RoundIn.anyDepth {m m':Nat} {P:Program} {l:Nat} {f:FuncId} {tmps:Array Value} {assign body:Code} {w:World} {R:Ending→World→Prop}
 (h:RoundIn Fence.wide m P l f tmps assign body w R):RoundIn Fence.wide m' P l f tmps assign body w R:=⟨h.1,fun c cs _=>h.2 c cs (fun d h=>by cases h)⟩
theorem YieldAt.anyDepth {m:Nat} (m':Nat) {P:Program} {l:Nat} {args:Array Value} {W:World} {R:Ending→World→Prop} (h:YieldAt Fence.wide m P l args W R):YieldAt Fence.wide m' P l args W R:=by
 obtain⟨fn,tmps,assign,body,hy,hR⟩:=h
 exact⟨fn,tmps,assign,body,hy,RoundIn.anyDepth hR⟩
end
section
open Go Go.RowKit Go.Shelf
attribute [local go_sem] Oper.semAt_some
end
section
open Go Go.RowKit
end
section
open Go Go.RowKit Go.Shelf
attribute [local go_sem] Oper.semAt_some
def ruleE:Val→Int
 | .mk k i s t l ns fs=>if k=1 then betweenE i 0 1 else if k=2 then betweenE i (-999999999999999) 999999999999999
    else if k=3 then first2 (betweenE i (-999999999999999) 999999999999999) (betweenE s 0 12) else if k=4 then textE t else if k=5 then sizeE t.size 1024 5
    else if k=6 then betweenE i (-719162) 2932896 else if k=7 then betweenE i (-62135596800000) 253402300799999 else if k=8 then sizeE l.length 256 9
    else if k=9 then recordE ns else variantE t l.length
def kindV:Val→Int
 | .mk k _ _ _ _ _ _=>k
end
end Go.Proofs.YtbfcokcfabbklaaGreatDoor
