/-
  Plain: a call's own blocks from B on, some of which keep what they hold; rows of the call's own whose elements lead into memory below B. No program in sight.
-/
import Derived.Test.YteladbdfiannjaaGreatDoorSP2Mrg
import Derived.Test.YteladbdfiannjaaGreatDoorSP12Mrg
import Derived.OneCell
import Derived.OrdersIn
import Derived.TacticsIn
import Derived.Maps.OwnIn
namespace Go.Proofs.YteladbdfiannjaaGreatDoor
set_option linter.unusedVariables false
set_option linter.unusedSimpArgs false
section
open Go Go.RowKit
structure KeepB (B:Nat) (w:World) (l:List (Nat × Obj)) (w':World):Prop where
 b:Below B w w'
 n:B≤w'.heap.size
 at':∀p∈l,w'.heap[p.1]?=some p.2
theorem KeepB.at {B:Nat} {w w':World} {l:List (Nat × Obj)} (h:KeepB B w l w') (j:Nat) (hj:j<l.length):w'.heap[(l[j]).1]?=some (l[j]).2:=h.at' _ (List.getElem_mem hj)
theorem KeepB.ext {B:Nat} {w w' w'':World} {l:List (Nat × Obj)} (h:KeepB B w l w') (hb:Below w'.heap.size w' w''):KeepB B w l w'' :=
 ⟨h.b.trans (hb.mono h.n),Nat.le_trans h.n hb.size,fun p hp=>heapExt hb (h.at' p hp)⟩
theorem KeepB.cons {B:Nat} {w w':World} {l:List (Nat × Obj)} (h:KeepB B w l w') {b:Nat} {o:Obj} (hb:w'.heap[b]?=some o):KeepB B w ((b,o) :: l) w' :=
 ⟨h.b,h.n,fun p hp=>(List.mem_cons.1 hp).elim (fun e=>by rw[e];exact hb) (fun hp=>h.at' p hp)⟩
theorem KeepB.sub {B:Nat} {w w':World} {l l':List (Nat × Obj)} (h:KeepB B w l w') (hs:∀p∈l',p∈l):KeepB B w l' w':=⟨h.b,h.n,fun p hp=>h.at' p (hs p hp)⟩
theorem KeepB.grown {B:Nat} {w w' w'':World} {l:List (Nat × Obj)} {row:Option Nat} (h:KeepB B w l w') (hg:w'.grownBy w'' row) (hr:∀r,row=some r→B≤r∧∀p∈l,p.1≠r):KeepB B w l w'' :=
 ⟨h.b.grown hg h.n (fun r e=>(hr r e).1),Nat.le_trans h.n hg.size,fun p hp=>(hg.block _ (ltOf (h.at' p hp)) (fun e=>(hr p.1 e.symm).2 p hp rfl)).trans (h.at' p hp)⟩
theorem KeepB.set {B:Nat} {w w':World} {l:List (Nat × Obj)} {b o:Nat} {cs:Array Value} {t:TypeId} {fr:Nat × Nat} (v:Value) (h:KeepB B w ((b,.cells cs t fr) :: l) w') (hB:B≤b) (hne:∀p∈l,p.1≠b):KeepB B w ((b,.cells (cs.setIfInBounds o v) t fr) :: l) (w'.setCell ⟨b,o,none⟩ v) :=
 ⟨h.b.setCell (p:=⟨b,o,none⟩) hB v,by simpa [World.setCell] using h.n,fun p hp=>by
   rcases List.mem_cons.1 hp with rfl | hp
   ·exact heapSet v (h.at' _ (List.mem_cons_self ..))
   ·exact(Below.heap_setCell _ _ _ _ (hne p hp)).trans (h.at' p (List.mem_cons_of_mem _ hp))⟩
theorem KeepB.val {B:Nat} {w w':World} {l:List (Nat × Obj)} (h:KeepB B w l w'):∀b,b<B→b<w'.heap.size∧w'.heap[b]?=w.heap[b]?:=fun b hb=>⟨Nat.lt_of_lt_of_le hb h.n,h.b.block b hb⟩
section
variable {C D:Type} (K:Kit C D)
def Kept (T B:Nat) (w:World) (v:Value) (k:Nat) (l:List D):Prop :=
 ∃cs:List C,cs.length=k∧l.length=k∧w.ownsRow B T K.n v k (cs.flatMap K.cs)∧∀j (h:j<cs.length) (h':j<l.length),K.Is (· < B) w cs[j] l[j]
variable {K}
theorem Kept.nil (T B:Nat) (w:World):Kept K T B w (.slice none 0 0) 0 []:=⟨[],rfl,rfl,World.ownsRow_nil _ _ _ _,fun j h=>by simp at h⟩
theorem Kept.ext {T B:Nat} {w w':World} {v:Value} {k:Nat} {l:List D} (h:Kept K T B w v k l) (hn:B≤w.heap.size) (hb:Below w.heap.size w w'):Kept K T B w' v k l:=by
 obtain⟨cs,h1,h0,h2,h3⟩:=h
 exact⟨cs,h1,h0,ownExt h2 hb,fun j hj hj'=>K.same (fun b q=>⟨q,hb.block b (by omega)⟩) (h3 j hj hj')⟩
theorem Kept.own {T B:Nat} {w:World} {v:Value} {k:Nat} {l:List D} (h:Kept K T B w v k l):∀r,v.ownBlock=some r→B≤r∧r<w.heap.size:=by
 obtain⟨_,_,_,h2,_⟩:=h
 exact h2.lt
theorem Kept.shape {T B:Nat} {w:World} {v:Value} {k:Nat} {l:List D} (h:Kept K T B w v k l):∃a cap,v=.slice a k cap∧k≤cap:=by
 obtain⟨cs,h1,h0,h2,h3⟩:=h
 rcases h2.2 with ⟨rfl,rfl⟩ | ⟨g,cap,cur,rfl,hb,hg,hn,_⟩
 ·exact⟨none,0,rfl,Nat.le_refl _⟩
 ·exact⟨_,cap,rfl,hn⟩
theorem Kept.set {T B:Nat} {w:World} {v:Value} {k:Nat} {l:List D} (h:Kept K T B w v k l) (a:Addr) (u:Value) (hB:B≤a.block) (hne:v.ownBlock≠some a.block):Kept K T B (w.setCell a u) v k l:=by
 obtain⟨cs,h1,h0,h2,h3⟩:=h
 exact⟨cs,h1,h0,ownsRow_setCell_other h2 hne u,fun j hj hj'=>K.same (fun b q=>⟨q,Below.heap_setCell _ _ _ _ (by omega)⟩) (h3 j hj hj')⟩
theorem Kept.push {T B:Nat} {w1 w2:World} {v:Value} {k:Nat} {l:List D} {c:C} {d:D} {o:Obj} {g cap:Nat} {cs:List C} (hcs:cs.length=k) (hl:l.length=k)
 (hel:∀j (h:j<cs.length) (h':j<l.length),K.Is (· < B) w1 cs[j] l[j]) (hn:B≤w1.heap.size) (hc:K.Is (· < B) w1 c d) (hv:∀r,v.ownBlock=some r→B≤r)
 (hown:w2.ownsRow B T K.n (.slice (some ⟨g,0,none⟩) (k+1) cap) (k+1) (cs.flatMap K.cs++K.cs c)) (hgrow:(w1.alloc o).grownBy w2 v.ownBlock) :
 Kept K T B w2 (.slice (some ⟨g,0,none⟩) (k+1) cap) (k+1) (l++[d]):=by
 have hst:∀b,b<B→w2.heap[b]?=w1.heap[b]?:=fun b hb =>
  (hgrow.block b (by simp;omega) (fun e=>by have:=hv b e.symm;omega)).trans (Below.heap_alloc _ _ _ (by omega))
 refine⟨cs++[c],by simp[hcs],by simp[hl],by simpa using hown,fun j hj hj'=>?_⟩
 by_cases hjk:j<cs.length
 ·rw[List.getElem_append_left hjk,List.getElem_append_left (by omega)]
  exact K.same (fun b q=>⟨q,hst b q⟩) (hel j hjk (by omega))
 ·have e1:j=cs.length:=by simp at hj;omega
  rw[List.getElem_append_right (by omega),List.getElem_append_right (by omega)]
  simp only[e1,hcs,hl,Nat.sub_self,List.getElem_cons_zero]
  exact K.same (fun b q=>⟨q,hst b q⟩) hc
theorem Kept.row {T B:Nat} {w:World} {a:Option Addr} {k cap:Nat} {l:List D} (h:Kept K T B w (.slice a k cap) k l) (hn:B≤w.heap.size) (hbig:k * K.by'≤140737488351232):IsRow K (· < w.heap.size) w a k cap l:=by
 obtain⟨_,cap',hv,hcap⟩:=h.shape
 simp only[Value.slice.injEq] at hv
 obtain⟨rfl,_,rfl⟩:=hv
 obtain⟨cs,h1,h0,h2,h3⟩:=h
 refine⟨h0.symm,hcap,hbig,?_⟩
 rcases h2.2 with ⟨h4,h5⟩ | ⟨g,cap',cur,hv,hb,hg,_⟩
 ·exact .inl (List.eq_nil_of_length_eq_zero (by omega))
 ·simp only[Value.slice.injEq] at hv
  obtain⟨rfl,_,rfl⟩:=hv
  refine .inr ⟨g,0,rfl,ltOf hg,fun j hj=>⟨cs[j]'(by omega),?_,?_⟩⟩
  ·rw[Nat.zero_add];exact AtG.ofRow h2 j (by omega)
  ·exact K.same (fun b q=>⟨by omega,rfl⟩) (h3 j (by omega) hj)
end
end
section
open Go Go.RowKit Go.Shelf
end
section
open Go Go.RowKit Go.Shelf
end
section
open Go Go.RowKit Go.Shelf
attribute [local go_sem] Oper.semAt_some
end
section
open Go Go.RowKit
section
variable {P:Program} {l:List Oper} {Q:Exit→Act→World→Prop}
end
section
variable {P:Program} {ops:Array Oper} {Q:Exit→Act→World→Prop}
end
end
section
open Go Go.RowKit Go.Shelf
end
section
open Go Go.RowKit Go.Shelf
attribute [local go_sem] Oper.semAt_some
theorem infoMsg:(Tryz.prog.info? 68).map (fun i=>(i.zero,i.size,i.bytes))=some (some (.agg #[.int .i64 0,.slice none 0 0,.int .i64 0,.slice none 0 0,.int .i64 0,.int .i64 0,.int .i64 0,.string ByteArray.empty,.slice none 0 0,.slice none 0 0]),10,152):=by kernel_rfl
end
end Go.Proofs.YteladbdfiannjaaGreatDoor
