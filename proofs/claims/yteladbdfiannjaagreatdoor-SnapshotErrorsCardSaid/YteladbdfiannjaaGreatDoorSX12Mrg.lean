/- A part. -/
import Derived.Test.YteladbdfiannjaaGreatDoorSX7Mrg
import Derived.Test.YteladbdfiannjaaGreatDoorSX4Mrg
import Derived.OneCell
import Derived.OrdersIn
import Derived.TacticsIn
import Derived.Maps.OwnIn
namespace Go.Proofs.YteladbdfiannjaaGreatDoor
set_option linter.unusedVariables false
set_option linter.unusedSimpArgs false
section
open Go Go.RowKit
structure KeepB (B:Nat) (w:World) (l:List (Nat × Obj)) (w':World):Prop where
 b:Below B w w'
 n:B≤w'.heap.size
 at':∀p∈l,w'.heap[p.1]?=some p.2
theorem KeepB.at {B:Nat} {w w':World} {l:List (Nat × Obj)} (h:KeepB B w l w') (j:Nat) (hj:j<l.length):w'.heap[(l[j]).1]?=some (l[j]).2:=h.at' _ (List.getElem_mem hj)
theorem KeepB.ext {B:Nat} {w w' w'':World} {l:List (Nat × Obj)} (h:KeepB B w l w') (hb:Below w'.heap.size w' w''):KeepB B w l w'' :=
 ⟨h.b.trans (hb.mono h.n),Nat.le_trans h.n hb.size,fun p hp=>aB hb (h.at' p hp)⟩
theorem KeepB.cons {B:Nat} {w w':World} {l:List (Nat × Obj)} (h:KeepB B w l w') {b:Nat} {o:Obj} (hb:w'.heap[b]?=some o):KeepB B w ((b,o) :: l) w' :=
 ⟨h.b,h.n,fun p hp=>(List.mem_cons.1 hp).elim (fun e=>by rw[e];exact hb) (fun hp=>h.at' p hp)⟩
theorem KeepB.sub {B:Nat} {w w':World} {l l':List (Nat × Obj)} (h:KeepB B w l w') (hs:∀p∈l',p∈l):KeepB B w l' w':=⟨h.b,h.n,fun p hp=>h.at' p (hs p hp)⟩
theorem KeepB.grown {B:Nat} {w w' w'':World} {l:List (Nat × Obj)} {row:Option Nat} (h:KeepB B w l w') (hg:w'.grownBy w'' row) (hr:∀r,row=some r→B≤r∧∀p∈l,p.1≠r):KeepB B w l w'' :=
 ⟨h.b.grown hg h.n (fun r e=>(hr r e).1),Nat.le_trans h.n hg.size,fun p hp=>(hg.block _ (bT (h.at' p hp)) (fun e=>(hr p.1 e.symm).2 p hp rfl)).trans (h.at' p hp)⟩
theorem KeepB.set {B:Nat} {w w':World} {l:List (Nat × Obj)} {b o:Nat} {cs:Array Value} {t:TypeId} {fr:Nat × Nat} (v:Value) (h:KeepB B w ((b,.cells cs t fr) :: l) w') (hB:B≤b) (hne:∀p∈l,p.1≠b):KeepB B w ((b,.cells (cs.setIfInBounds o v) t fr) :: l) (w'.setCell ⟨b,o,none⟩ v) :=
 ⟨h.b.setCell (p:=⟨b,o,none⟩) hB v,by simpa [World.setCell] using h.n,fun p hp=>by
   rcases List.mem_cons.1 hp with rfl | hp
   ·exact aD v (h.at' _ (List.mem_cons_self ..))
   ·exact(Below.heap_setCell _ _ _ _ (hne p hp)).trans (h.at' p (List.mem_cons_of_mem _ hp))⟩
section
variable {C D:Type} (K:Kit C D)
def Kept (T B:Nat) (w:World) (v:Value) (k:Nat) (l:List D):Prop :=
 ∃cs:List C,cs.length=k∧l.length=k∧w.ownsRow B T K.n v k (cs.flatMap K.cs)∧∀j (h:j<cs.length) (h':j<l.length),K.Is (· < B) w cs[j] l[j]
variable {K}
theorem Kept.nil (T B:Nat) (w:World):Kept K T B w (.slice none 0 0) 0 []:=⟨[],rfl,rfl,World.ownsRow_nil _ _ _ _,fun j h=>by simp at h⟩
theorem Kept.ext {T B:Nat} {w w':World} {v:Value} {k:Nat} {l:List D} (h:Kept K T B w v k l) (hn:B≤w.heap.size) (hb:Below w.heap.size w w'):Kept K T B w' v k l:=by
 obtain⟨cs,h1,h0,h2,h3⟩:=h
 exact⟨cs,h1,h0,cW h2 hb,fun j hj hj'=>K.same (fun b q=>⟨q,hb.block b (by omega)⟩) (h3 j hj hj')⟩
theorem Kept.own {T B:Nat} {w:World} {v:Value} {k:Nat} {l:List D} (h:Kept K T B w v k l):∀r,v.ownBlock=some r→B≤r∧r<w.heap.size:=by
 obtain⟨_,_,_,h2,_⟩:=h
 exact h2.lt
theorem Kept.shape {T B:Nat} {w:World} {v:Value} {k:Nat} {l:List D} (h:Kept K T B w v k l):∃a cap,v=.slice a k cap∧k≤cap:=by
 obtain⟨cs,h1,h0,h2,h3⟩:=h
 rcases h2.2 with ⟨rfl,rfl⟩ | ⟨g,cap,cur,rfl,hb,hg,hn,_⟩
 ·exact⟨none,0,rfl,Nat.le_refl _⟩
 ·exact⟨_,cap,rfl,hn⟩
theorem Kept.set {T B:Nat} {w:World} {v:Value} {k:Nat} {l:List D} (h:Kept K T B w v k l) (a:Addr) (u:Value) (hB:B≤a.block) (hne:v.ownBlock≠some a.block):Kept K T B (w.setCell a u) v k l:=by
 obtain⟨cs,h1,h0,h2,h3⟩:=h
 exact⟨cs,h1,h0,ownsRow_setCell_other h2 hne u,fun j hj hj'=>K.same (fun b q=>⟨q,Below.heap_setCell _ _ _ _ (by omega)⟩) (h3 j hj hj')⟩
theorem Kept.push {T B:Nat} {w1 w2:World} {v:Value} {k:Nat} {l:List D} {c:C} {d:D} {o:Obj} {g cap:Nat} {cs:List C} (hcs:cs.length=k) (hl:l.length=k)
 (hel:∀j (h:j<cs.length) (h':j<l.length),K.Is (· < B) w1 cs[j] l[j]) (hn:B≤w1.heap.size) (hc:K.Is (· < B) w1 c d) (hv:∀r,v.ownBlock=some r→B≤r)
 (hown:w2.ownsRow B T K.n (.slice (some ⟨g,0,none⟩) (k+1) cap) (k+1) (cs.flatMap K.cs++K.cs c)) (hgrow:(w1.alloc o).grownBy w2 v.ownBlock) :
 Kept K T B w2 (.slice (some ⟨g,0,none⟩) (k+1) cap) (k+1) (l++[d]):=by
 have hst:∀b,b<B→w2.heap[b]?=w1.heap[b]?:=fun b hb =>
  (hgrow.block b (by simp;omega) (fun e=>by have:=hv b e.symm;omega)).trans (Below.heap_alloc _ _ _ (by omega))
 refine⟨cs++[c],by simp[hcs],by simp[hl],by simpa using hown,fun j hj hj'=>?_⟩
 by_cases hjk:j<cs.length
 ·rw[List.getElem_append_left hjk,List.getElem_append_left (by omega)]
  exact K.same (fun b q=>⟨q,hst b q⟩) (hel j hjk (by omega))
 ·have e1:j=cs.length:=by simp at hj;omega
  rw[List.getElem_append_right (by omega),List.getElem_append_right (by omega)]
  simp only[e1,hcs,hl,Nat.sub_self,List.getElem_cons_zero]
  exact K.same (fun b q=>⟨q,hst b q⟩) hc
theorem Kept.row {T B:Nat} {w:World} {a:Option Addr} {k cap:Nat} {l:List D} (h:Kept K T B w (.slice a k cap) k l) (hn:B≤w.heap.size) (hbig:k * K.by'≤140737488351232):IsRow K (· < w.heap.size) w a k cap l:=by
 obtain⟨_,cap',hv,hcap⟩:=h.shape
 simp only[Value.slice.injEq] at hv
 obtain⟨rfl,_,rfl⟩:=hv
 obtain⟨cs,h1,h0,h2,h3⟩:=h
 refine⟨h0.symm,hcap,hbig,?_⟩
 rcases h2.2 with ⟨h4,h5⟩ | ⟨g,cap',cur,hv,hb,hg,_⟩
 ·exact .inl (List.eq_nil_of_length_eq_zero (by omega))
 ·simp only[Value.slice.injEq] at hv
  obtain⟨rfl,_,rfl⟩:=hv
  refine .inr ⟨g,0,rfl,bT hg,fun j hj=>⟨cs[j]'(by omega),?_,?_⟩⟩
  ·rw[Nat.zero_add];exact AtG.ofRow h2 j (by omega)
  ·exact K.same (fun b q=>⟨by omega,rfl⟩) (h3 j (by omega) hj)
end
end
section
open Go Go.RowKit Go.Shelf
end
section
open Go Go.RowKit Go.Shelf
end
section
open Go Go.RowKit Go.Shelf
attribute [local go_sem] Oper.semAt_some
end
section
open Go Go.RowKit
section
variable {P:Program} {l:List Oper} {Q:Exit→Act→World→Prop}
end
section
variable {P:Program} {ops:Array Oper} {Q:Exit→Act→World→Prop}
end
end
section
open Go Go.RowKit Go.Shelf
end
section
open Go Go.RowKit Go.Shelf
attribute [local go_sem] Oper.semAt_some
theorem infoMsg:(Tryz.prog.info? 68).map (fun i=>(i.zero,i.size,i.bytes))=some (some (.agg #[.int .i64 0,.slice none 0 0,.int .i64 0,.slice none 0 0,.int .i64 0,.int .i64 0,.int .i64 0,.string ByteArray.empty,.slice none 0 0,.slice none 0 0]),10,152):=by kernel_rfl
end
section
open Go Go.RowKit
def jM (ops:Array Oper) (m:Nat):Bool:=(List.range ops.size).all fun j=>match ops[j]? with
 | none=>true
 | some o=>(o.after.all fun e=>decide (e.on<j))&&(decide (j<m)||(o.guard.isNone&&(((List.range j).all fun i=>o.after.any fun e=>Region.binds .any e&&e.on==i)||(decide (m<j)&&o.after.any fun e=>Region.binds .any e&&e.on==j-1))))
section
variable {P:Program} {ops:Array Oper} {Q:Exit→Act→World→Prop}
theorem eK {m j:Nat} {o:Oper} (h:jM ops m=true) (ho:ops[j]?=some o) :
 (∀e∈o.after,e.on<j)∧(m≤j→o.guard=none∧∀i<j,(∃e∈o.after,Region.binds .any e=true∧e.on=i)∨(m<j∧∃e∈o.after,Region.binds .any e=true∧e.on=j-1)):=by
 have hj:j<ops.size:=(Array.getElem?_eq_some_iff.1 ho).1
 simp only[jM,List.all_eq_true,List.mem_range] at h
 have h1:=h j hj
 simp only[ho,Bool.and_eq_true,Array.all_eq_true_iff_forall_mem,decide_eq_true_eq,Bool.or_eq_true,List.all_eq_true,List.mem_range] at h1
 refine⟨fun e he=>h1.1 e he,fun hm=>?_⟩
 rcases h1.2 with h2 | ⟨h2,h3⟩
 ·omega
 ·refine⟨by simpa using h2,fun i hi=>?_⟩
  rcases h3 with h3 | ⟨h4,h3⟩
  ·have:=h3 i hi
   simp only[Array.any_eq_true,Bool.and_eq_true,beq_iff_eq] at this
   obtain⟨k,hk,hb,hon⟩:=this
   exact .inl ⟨_,Array.getElem_mem hk,hb,hon⟩
  ·simp only[Array.any_eq_true,Bool.and_eq_true,beq_iff_eq] at h3
   obtain⟨k,hk,hb,hon⟩:=h3
   exact .inr ⟨h4,_,Array.getElem_mem hk,hb,hon⟩
theorem sZ {m:Nat} (hok:jM ops m=true):∀(k j:Nat) (listed:Array Bool) (a:Act) (w:World),m≤j→j+k=ops.size→listed.size=ops.size→(∀i,i<j→listed.getD i false=true)→(∀i,j≤i→i<ops.size→listed.getD i true=false) →
 wpOps P ops Q (List.range' j k) a w→wpAny P .any ops Q k listed a w:=by
 intro k
 induction k with
 | zero =>
   intro j listed a w hm hj hsz hyes hno h
   refine⟨?_,by simpa [wpOps] using h⟩
   refine List.eq_nil_iff_forall_not_mem.2 fun i hi=>?_
   obtain⟨h0,o,ho,_⟩:=mem_ready.1 hi
   have hi':i<ops.size:=(Array.getElem?_eq_some_iff.1 ho).1
   have h1:=hyes i (by omega)
   have hs:i<listed.size:=by omega
   simp only[Array.getD_eq_getD_getElem?,Array.getElem?_eq_getElem hs,Option.getD_some] at h0 h1
   rw[h0] at h1;cases h1
 | succ k ih =>
   intro j listed a w hm hj hsz hyes hno h
   have hjs:j<ops.size:=by omega
   have hready:Region.ready .any ops listed=[j]:=by
    have hmem:∀i,i∈Region.ready .any ops listed ↔ i=j:=by
     intro i
     constructor
     ·intro hi
      obtain⟨h0,o,ho,hall⟩:=mem_ready.1 hi
      have hi':i<ops.size:=(Array.getElem?_eq_some_iff.1 ho).1
      rcases Nat.lt_trichotomy i j with hlt | heq | hgt
      ·have h1:=hyes i hlt
       have hs:i<listed.size:=by omega
       simp only[Array.getD_eq_getD_getElem?,Array.getElem?_eq_getElem hs,Option.getD_some] at h0 h1
       rw[h0] at h1;cases h1
      ·exact heq
      ·obtain⟨t,htj,hti,e,he,hb,hon⟩:∃t,j≤t∧t<ops.size∧∃e∈o.after,Region.binds .any e=true∧e.on=t:=by
        rcases ((eK hok ho).2 (by omega)).2 j hgt with h | ⟨_,h⟩
        ·exact⟨j,Nat.le_refl _,hjs,h⟩
        ·exact⟨i-1,by omega,by omega,h⟩
       have h1:=hall e he hb
       have h2:=hno t htj hti
       rw[hon] at h1
       have hs:t<listed.size:=by omega
       simp only[Array.getD_eq_getD_getElem?,Array.getElem?_eq_getElem hs,Option.getD_some] at h1 h2
       rw[h2] at h1;cases h1
     ·rintro rfl
      refine mem_ready.2 ⟨hno i lr hjs,_,Array.getElem?_eq_getElem hjs,fun e he _=>hyes _ ((eK hok (Array.getElem?_eq_getElem hjs)).1 e he)⟩
    have hnd:(Region.ready .any ops listed).Nodup:=List.filter_sublist.nodup List.nodup_range
    cases hr:Region.ready .any ops listed with
    | nil=>have:=(hmem j).2 rfl;rw[hr] at this;cases this
    | cons x xs =>
      rw[hr] at hmem hnd
      obtain rfl:x=j:=(hmem x).1 (by simp)
      cases xs with
      | nil=>rfl
      | cons y ys =>
        obtain rfl:y=x:=(hmem y).1 (by simp)
        simp at hnd
   refine⟨fun h0=>(by rw[hready] at h0;cases h0),fun i hi=>?_⟩
   rw[hready] at hi
   obtain rfl:i=j:=by simpa using hi
   rw[List.range'_succ,wpOps_cons] at h
   refine wpOp_mono (fun a' w' h'=>ih (i+1) _ a' w' (by omega) (by omega) (by simp[hsz]) ?_ ?_ h') h
   ·intro t ht
    by_cases hti:i=t
    ·subst hti;simp[Array.getD_eq_getD_getElem?,hsz,hjs]
    ·rw[getD_set_ne false hti];exact hyes t (by omega)
   ·intro t ht hts
    rw[getD_set_ne true (by omega)];exact hno t (by omega) hts
end
section
variable {P:Program} {l:List Oper} {Q:Exit→Act→World→Prop}
theorem qZ {m:Nat} (hok:jM l.toArray m=true) (hgo:iC l m=true) (hm:m≤l.length):∀(fuel:Nat) (L1 L:Array Bool) (a:Act) (w:World),L1.size=m→L.size=l.length→(∀i,i<m→L[i]?=L1[i]?)→(∀i,m≤i→i<l.length→L.getD i true=false) →
 wpAny P .any (l.take m).toArray (fun e a w=>match e with | .normal=>wpOps P l.toArray Q (List.range' m (l.length-m)) a w | e=>Q e a w) fuel L1 a w→wpAny P .any l.toArray Q (fuel+(l.length-m)) L a w:=by
 have hback:∀(j:Nat) (o:Oper),(l.take m).toArray[j]?=some o→∀e∈o.after,e.on<j:=fun j o ho=>by
  have:l.toArray[j]?=some o:=by
   simp only[List.getElem?_toArray,List.getElem?_take] at ho ⊢
   split at ho
   ·exact ho
   ·cases ho
  exact(eK hok this).1
 have hguard:∀i,i<m→∀o,l[i]?=some o→∀g,o.guard=some g→g.1<m:=by
  intro i hi o ho g hg
  have hmem:o∈l.take m:=List.mem_of_getElem? (i:=i) (by simp[hi,ho])
  have:=List.all_eq_true.1 hgo o hmem
  simpa [hg] using this
 have hlen:(l.take m).toArray.size=m:=by simp;omega
 have stuck:∀(fuel:Nat) (L1 L:Array Bool) (a:Act) (w:World),L1.size=m→L.size=l.length→(∀i,i<m→L[i]?=L1[i]?)→(∀i,m≤i→i<l.length→L.getD i true=false) →
  Region.ready .any (l.take m).toArray L1=[]→wpOps P l.toArray Q (List.range' m (l.length-m)) a w→wpAny P .any l.toArray Q (l.length-m) L a w:=by
  intro fuel L1 L a w h1 h2 h3 h4 hr h
  refine sZ hok _ m L a w lr (by simp;omega) (by simpa using h2) ?_ ?_ h
  ·intro i hi
   have hi1:i<L1.size:=by omega
   by_cases hli:L1.getD i true=false
   ·exact absurd hr (iG hback (by omega) (by omega) hli)
   ·simp only[Array.getD_eq_getD_getElem?,h3 i hi,Array.getElem?_eq_getElem hi1,Option.getD_some] at hli ⊢
    simpa using hli
  ·intro i hi hi2
   exact h4 i hi (by simpa using hi2)
 have readyEq:∀(L1 L:Array Bool),L1.size=m→L.size=l.length→(∀i,i<m→L[i]?=L1[i]?)→(∀i,m≤i→i<l.length→L.getD i true=false)→Region.ready .any (l.take m).toArray L1≠[] →
  ∀i,i∈Region.ready .any l.toArray L→i<m∧i∈Region.ready .any (l.take m).toArray L1:=by
  intro L1 L h1 h2 h3 h4 hne i hi
  obtain⟨h0,o,ho,hall⟩:=mem_ready.1 hi
  have hil:i<l.length:=by have:=(Array.getElem?_eq_some_iff.1 ho).1;simpa using this
  have hD:∀(t:Nat) d,t<m→L.getD t d=L1.getD t d:=fun t d ht=>by simp only[Array.getD_eq_getD_getElem?,h3 t ht]
  by_cases him:i<m
  ·refine⟨him,mem_ready.2 ⟨by rw[←hD i true him];exact h0,o,?_,fun e he hb=>?_⟩⟩
   ·simp only[List.getElem?_toArray,List.getElem?_take,him,if_true] at ho ⊢;exact ho
   ·have hlt:=(eK hok ho).1 e he
    rw[←hD e.on false (by omega)];exact hall e he hb
  ·exfalso
   apply hne
   refine List.eq_nil_iff_forall_not_mem.2 fun t ht=>?_
   obtain⟨g0,ot,hot,_⟩:=mem_ready.1 ht
   have htm:t<m:=by have:=(Array.getElem?_eq_some_iff.1 hot).1;omega
   rcases ((eK hok ho).2 (by omega)).2 t (by omega) with ⟨e,he,hb,hon⟩ | ⟨hmi,e,he,hb,hon⟩
   ·have h5:=hall e he hb
    rw[hon,hD t false htm] at h5
    have hs:t<L1.size:=by omega
    simp only[Array.getD_eq_getD_getElem?,Array.getElem?_eq_getElem hs,Option.getD_some] at h5 g0
    rw[g0] at h5;cases h5
   ·have h5:=hall e he hb
    have h6:=h4 (i-1) (by omega) (by omega)
    rw[hon] at h5
    have hs:i-1<L.size:=by omega
    simp only[Array.getD_eq_getD_getElem?,Array.getElem?_eq_getElem hs,Option.getD_some] at h5 h6
    rw[h6] at h5;cases h5
 intro fuel
 induction fuel with
 | zero =>
   intro L1 L a w h1 h2 h3 h4 h
   rw[Nat.zero_add]
   exact stuck 0 L1 L a w h1 h2 h3 h4 h.1 h.2
 | succ fuel ih =>
   intro L1 L a w h1 h2 h3 h4 h
   by_cases hne:Region.ready .any (l.take m).toArray L1=[]
   ·have h5:=stuck 0 L1 L a w h1 h2 h3 h4 hne (h.1 hne)
    -- with more fuel than is wanted
    have more:∀(n k:Nat) (L:Array Bool) (a:Act) (w:World),wpAny P .any l.toArray Q n L a w→wpAny P .any l.toArray Q (n+k) L a w:=by
     intro n
     induction n with
     | zero =>
       intro k L a w h
       cases k with
       | zero=>exact h
       | succ k=>rw[Nat.zero_add];exact⟨fun _=>h.2,fun i hi=>by rw[h.1] at hi;cases hi⟩
     | succ n ihn =>
       intro k L a w h
       rw[show n+1+k=(n+k)+1 by omega]
       exact⟨h.1,fun i hi=>wpOp_mono (fun a' w' h'=>ihn k _ a' w' h') (h.2 i hi)⟩
    rw[show fuel+1+(l.length-m)=(l.length-m)+(fuel+1) by omega]
    exact more _ _ _ _ _ h5
   ·rw[show fuel+1+(l.length-m)=(fuel+(l.length-m))+1 by omega]
    have hreq:=readyEq L1 L h1 h2 h3 h4 hne
    refine⟨fun h0=>?_,fun i hi=>?_⟩
    ·-- something of the first part may come up here too
     exfalso
     obtain⟨t,ht⟩:=List.exists_mem_of_ne_nil _ hne
     obtain⟨g0,ot,hot,hall⟩:=mem_ready.1 ht
     have htm:t<m:=by have:=(Array.getElem?_eq_some_iff.1 hot).1;omega
     have hot':l.toArray[t]?=some ot:=by simp only[List.getElem?_toArray,List.getElem?_take,htm,if_true] at hot ⊢;exact hot
     have hD:∀(s:Nat) d,s<m→L.getD s d=L1.getD s d:=fun s d hs=>by simp only[Array.getD_eq_getD_getElem?,h3 s hs]
     have:t∈Region.ready .any l.toArray L:=mem_ready.2 ⟨by rw[hD t true htm];exact g0,ot,hot',fun e he hb=>by
      have hlt:=hback t ot hot e he
      rw[hD e.on false (by omega)];exact hall e he hb⟩
     rw[h0] at this;cases this
    ·obtain⟨him,hi1⟩:=hreq i hi
     have h6:=lR him (hguard i him) (Q:=fun e a w=>match e with | .normal=>wpOps P l.toArray Q (List.range' m (l.length-m)) a w | e=>Q e a w) (h.2 i hi1)
     have h7:wpOp P l.toArray Q i (wpAny P .any (l.take m).toArray (fun e a w=>match e with | .normal=>wpOps P l.toArray Q (List.range' m (l.length-m)) a w | e=>Q e a w) fuel (L1.setIfInBounds i true)) a w:=by
      unfold wpOp at h6 ⊢
      cases ho:l.toArray[i]? with
      | none=>simpa [ho] using h6
      | some o =>
        simp only[ho] at h6 ⊢
        split
        ·rename_i hw
         simp only[hw,if_true] at h6
         rcases h6 with h6 | ⟨h6,h8⟩
         ·refine .inl ?_
          unfold Oper.wp at h6 ⊢
          generalize (execOp a.eval o).run P w=r at h6 ⊢
          cases r with
          | ok n w' =>
            cases n<;>simp only[Oper.upon] at h6 ⊢ <;> first
             | exact h6
             | (refine Calls.mono h6 fun e w'' he=>?_
                cases e<;>first | exact he | (obtain⟨a0,w0,hq⟩:=he;exact⟨a0,w0,hq⟩))
          | halt x w'=>cases x<;>simp only[Oper.upon] at h6 ⊢ <;> exact h6
         ·exact .inr ⟨h6,h8⟩
        ·rename_i hw
         simp only[hw] at h6
         exact h6
     refine wpOp_mono (fun a' w' h8=>ih (L1.setIfInBounds i true) (L.setIfInBounds i true) a' w' (by simp[h1]) (by simp[h2]) ?_ ?_ h8) h7
     ·intro t ht
      by_cases hti:i=t
      ·subst hti
       have:i<L.size:=by omega
       simp[h1,him,this]
      ·simp[Array.getElem?_setIfInBounds_ne hti,h3 t ht]
     ·intro t ht htl
      rw[getD_set_ne true (by omega)];exact h4 t ht htl
theorem sX {m:Nat} (hok:jM l.toArray m=true) (k:Nat):∀(j:Nat) (a:Act) (w:World),wpOps P (l.drop m).toArray Q (List.range' j k) a w→wpOps P l.toArray Q (List.range' (m+j) k) a w:=by
 induction k with
 | zero=>intro j a w h;simpa [wpOps] using h
 | succ k ih =>
   intro j a w h
   rw[List.range'_succ,wpOps_cons] at h ⊢
   have he:(l.drop m).toArray[j]?=l.toArray[m+j]?:=by simp
   have h':wpOp P l.toArray Q (m+j) (wpOps P (l.drop m).toArray Q (List.range' (j+1) k)) a w:=by
    unfold wpOp at h ⊢
    rw[he] at h
    cases ho:l.toArray[m+j]? with
    | none=>simpa [ho] using h
    | some o =>
      simp only[ho] at h ⊢
      have hg:=((eK hok ho).2 (by omega)).1
      have hw:∀y,Region.wanted o y=true:=fun y=>by simp[Region.wanted,hg]
      simpa only[hw,if_true] using h
   refine wpOp_mono (fun a' w' h8=>?_) h'
   have:=ih (j+1) a' w' h8
   rwa[show m+(j+1)=m+j+1 by omega] at this
theorem bY {id:Nat} {a:Act} {w:World} (m:Nat) (S:World→Prop) (hP:P.follows .mixedOrders=true) (hok:jM l.toArray m=true) (hgo:iC l m=true) (hm:decide (m≤l.length)=true) (hS:S w.drew)
 (h:S w.drew→wpAnyH P .any (l.take m).toArray (fun e a w=>match e with | .normal=>wpList P (l.drop m).toArray Q (l.drop m) a w | e=>Q e a w) S m (Array.replicate m false) a w.drew):(Code.region id l.toArray true).wp P Q a w:=by
 have hm':m≤l.length:=of_decide_eq_true hm
 have h1:=wpAny_of_held _ _ _ _ (h hS)
 have mono:∀(fuel:Nat) (L:Array Bool) (a:Act) (w:World),wpAny P .any (l.take m).toArray (fun e a w=>match e with | .normal=>wpList P (l.drop m).toArray Q (l.drop m) a w | e=>Q e a w) fuel L a w →
  wpAny P .any (l.take m).toArray (fun e a w=>match e with | .normal=>wpOps P l.toArray Q (List.range' m (l.length-m)) a w | e=>Q e a w) fuel L a w:=by
  have hn:∀a w,wpList P (l.drop m).toArray Q (l.drop m) a w→wpOps P l.toArray Q (List.range' m (l.length-m)) a w:=fun a w h=>by
   have e:=wpOps_eq_wpList (P:=P) (Q:=Q) (ops:=(l.drop m).toArray) (l.drop m) 0 (fun j=>by simp)
   rw[←e] at h
   have:=sX hok _ 0 a w h
   simpa using this
  have step:∀{i:Nat} {K K':Act→World→Prop} {a:Act} {w:World},(∀a w,K a w→K' a w)→wpOp P (l.take m).toArray (fun e a w=>match e with | .normal=>wpList P (l.drop m).toArray Q (l.drop m) a w | e=>Q e a w) i K a w →
   wpOp P (l.take m).toArray (fun e a w=>match e with | .normal=>wpOps P l.toArray Q (List.range' m (l.length-m)) a w | e=>Q e a w) i K' a w:=by
   intro i K K' a w hk h6
   refine wpOp_mono hk ?_
   unfold wpOp at h6 ⊢
   cases ho:(l.take m).toArray[i]? with
   | none=>simpa [ho] using h6
   | some o =>
     simp only[ho] at h6 ⊢
     split
     ·rename_i hw
      simp only[hw,if_true] at h6
      rcases h6 with h6 | ⟨h6,h8⟩
      ·refine .inl ?_
       unfold Oper.wp at h6 ⊢
       generalize (execOp a.eval o).run P w=r at h6 ⊢
       cases r with
       | ok n w' =>
         cases n<;>simp only[Oper.upon] at h6 ⊢ <;> first
          | exact h6
          | (refine Calls.mono h6 fun e w'' he=>?_
             cases e<;>first | exact he | (obtain⟨a0,w0,hq⟩:=he;exact⟨a0,w0,hq⟩))
       | halt x w'=>cases x<;>simp only[Oper.upon] at h6 ⊢ <;> exact h6
      ·exact .inr ⟨h6,h8⟩
     ·rename_i hw
      simp only[hw] at h6
      exact h6
  intro fuel
  induction fuel with
  | zero=>intro L a w h;exact⟨h.1,hn _ _ h.2⟩
  | succ fuel ih=>intro L a w h;exact⟨fun h0=>hn _ _ (h.1 h0),fun i hi=>step (fun a w h=>ih _ a w h) (h.2 i hi)⟩
 refine wp_region_any hP ?_
 have h2:=qZ hok hgo hm' m (Array.replicate m false) (Array.replicate l.toArray.size false) a w.drew (by simp) (by simp) (fun i hi=>by rw[Array.getElem?_replicate,Array.getElem?_replicate,if_pos hi,if_pos (by simp;omega)]) (fun i _ hi=>by simp[Array.getD_eq_getD_getElem?,hi]) (mono _ _ _ _ h1)
 have e:m+(l.length-m)=l.toArray.size:=by simp;omega
 rw[e] at h2
 exact h2
end
end
section
open Go Go.RowKit
def aBk (ops:Array Oper):Nat→Nat→List Nat
 | 0,_=>[]
 | f+1,j=>match ops[j]? with
   | none=>[]
   | some o=>o.after.toList.flatMap fun e=>if Region.binds .any e=true then e.on :: aBk ops f e.on else []
def jL (ops:Array Oper) (m:Nat):Bool:=(List.range ops.size).all fun j=>match ops[j]? with
 | none=>true
 | some o=>(o.after.all fun e=>decide (e.on<j))&&(decide (j<m)||(o.guard.isNone&&(List.range j).all fun i=>(aBk ops ops.size j).contains i))
def Clo (ops:Array Oper) (L:Array Bool):Prop:=∀(j:Nat) (o:Oper),ops[j]?=some o→L.getD j false=true→∀e∈o.after,Region.binds .any e=true→L.getD e.on false=true
theorem kR {ops:Array Oper} {L:Array Bool} (hc:Clo ops L):∀(f j:Nat) (o:Oper),ops[j]?=some o→(∀e∈o.after,Region.binds .any e=true→L.getD e.on false=true)→∀i∈aBk ops f j,L.getD i false=true
 | 0,_,_,_,_,i,hi=>by simp[aBk] at hi
 | f+1,j,o,ho,hd,i,hi=>by
   simp only[aBk,ho,List.mem_flatMap] at hi
   obtain⟨e,he,hi⟩:=hi
   have he':e∈o.after:=by simpa using he
   split at hi
   ·rename_i hb
    have hl:=hd e he' hb
    rcases List.mem_cons.1 hi with rfl | hi
    ·exact hl
    ·cases ho2:ops[e.on]? with
     | none =>
       cases f with
       | zero=>simp[aBk] at hi
       | succ f=>simp[aBk,ho2] at hi
     | some o2=>exact kR hc f e.on o2 ho2 (hc e.on o2 ho2 hl) i hi
   ·cases hi
section
variable {P:Program} {ops:Array Oper} {Q:Exit→Act→World→Prop}
theorem dP {m j:Nat} {o:Oper} (h:jL ops m=true) (ho:ops[j]?=some o) :
 (∀e∈o.after,e.on<j)∧(m≤j→o.guard=none∧∀i<j,i∈aBk ops ops.size j):=by
 have hj:j<ops.size:=(Array.getElem?_eq_some_iff.1 ho).1
 simp only[jL,List.all_eq_true,List.mem_range] at h
 have h1:=h j hj
 simp only[ho,Bool.and_eq_true,Array.all_eq_true_iff_forall_mem,decide_eq_true_eq,Bool.or_eq_true,List.all_eq_true,List.mem_range] at h1
 refine⟨fun e he=>h1.1 e he,fun hm=>?_⟩
 rcases h1.2 with h2 | ⟨h2,h3⟩
 ·omega
 ·exact⟨by simpa using h2,fun i hi=>by have:=h3 i hi;simpa using this⟩
theorem sY {m:Nat} (hok:jL ops m=true):∀(k j:Nat) (listed:Array Bool) (a:Act) (w:World),m≤j→j+k=ops.size→listed.size=ops.size→(∀i,i<j→listed.getD i false=true)→(∀i,j≤i→i<ops.size→listed.getD i true=false) →
 wpOps P ops Q (List.range' j k) a w→wpAny P .any ops Q k listed a w:=by
 intro k
 induction k with
 | zero =>
   intro j listed a w hm hj hsz hyes hno h
   refine⟨?_,by simpa [wpOps] using h⟩
   refine List.eq_nil_iff_forall_not_mem.2 fun i hi=>?_
   obtain⟨h0,o,ho,_⟩:=mem_ready.1 hi
   have hi':i<ops.size:=(Array.getElem?_eq_some_iff.1 ho).1
   have h1:=hyes i (by omega)
   have hs:i<listed.size:=by omega
   simp only[Array.getD_eq_getD_getElem?,Array.getElem?_eq_getElem hs,Option.getD_some] at h0 h1
   rw[h0] at h1;cases h1
 | succ k ih =>
   intro j listed a w hm hj hsz hyes hno h
   have hjs:j<ops.size:=by omega
   have hready:Region.ready .any ops listed=[j]:=by
    have hmem:∀i,i∈Region.ready .any ops listed ↔ i=j:=by
     intro i
     constructor
     ·intro hi
      obtain⟨h0,o,ho,hall⟩:=mem_ready.1 hi
      have hi':i<ops.size:=(Array.getElem?_eq_some_iff.1 ho).1
      rcases Nat.lt_trichotomy i j with hlt | heq | hgt
      ·have h1:=hyes i hlt
       have hs:i<listed.size:=by omega
       simp only[Array.getD_eq_getD_getElem?,Array.getElem?_eq_getElem hs,Option.getD_some] at h0 h1
       rw[h0] at h1;cases h1
      ·exact heq
      ·have hcl:Clo ops listed:=fun t ot hot hl e he _=>by
        have htj:t<j:=by
         rcases Nat.lt_or_ge t j with h | h
         ·exact h
         ·have hts:t<ops.size:=(Array.getElem?_eq_some_iff.1 hot).1
          have h2:=hno t h hts
          have hs:t<listed.size:=by omega
          simp only[Array.getD_eq_getD_getElem?,Array.getElem?_eq_getElem hs,Option.getD_some] at hl h2
          rw[h2] at hl;cases hl
        exact hyes _ (Nat.lt_trans ((dP hok hot).1 e he) htj)
       have h1:=kR hcl _ i o ho hall j (((dP hok ho).2 (by omega)).2 j hgt)
       have h2:=hno j lr hjs
       have hs:j<listed.size:=by omega
       simp only[Array.getD_eq_getD_getElem?,Array.getElem?_eq_getElem hs,Option.getD_some] at h1 h2
       rw[h2] at h1;cases h1
     ·rintro rfl
      refine mem_ready.2 ⟨hno i lr hjs,_,Array.getElem?_eq_getElem hjs,fun e he _=>hyes _ ((dP hok (Array.getElem?_eq_getElem hjs)).1 e he)⟩
    have hnd:(Region.ready .any ops listed).Nodup:=List.filter_sublist.nodup List.nodup_range
    cases hr:Region.ready .any ops listed with
    | nil=>have:=(hmem j).2 rfl;rw[hr] at this;cases this
    | cons x xs =>
      rw[hr] at hmem hnd
      obtain rfl:x=j:=(hmem x).1 (by simp)
      cases xs with
      | nil=>rfl
      | cons y ys =>
        obtain rfl:y=x:=(hmem y).1 (by simp)
        simp at hnd
   refine⟨fun h0=>(by rw[hready] at h0;cases h0),fun i hi=>?_⟩
   rw[hready] at hi
   obtain rfl:i=j:=by simpa using hi
   rw[List.range'_succ,wpOps_cons] at h
   refine wpOp_mono (fun a' w' h'=>ih (i+1) _ a' w' (by omega) (by omega) (by simp[hsz]) ?_ ?_ h') h
   ·intro t ht
    by_cases hti:i=t
    ·subst hti;simp[Array.getD_eq_getD_getElem?,hsz,hjs]
    ·rw[getD_set_ne false hti];exact hyes t (by omega)
   ·intro t ht hts
    rw[getD_set_ne true (by omega)];exact hno t (by omega) hts
end
section
variable {P:Program} {l:List Oper} {Q:Exit→Act→World→Prop}
theorem qY {m:Nat} (hok:jL l.toArray m=true) (hgo:iC l m=true) (hm:m≤l.length):∀(fuel:Nat) (L1 L:Array Bool) (a:Act) (w:World),L1.size=m→L.size=l.length→(∀i,i<m→L[i]?=L1[i]?)→(∀i,m≤i→i<l.length→L.getD i true=false)→Clo l.toArray L →
 wpAny P .any (l.take m).toArray (fun e a w=>match e with | .normal=>wpOps P l.toArray Q (List.range' m (l.length-m)) a w | e=>Q e a w) fuel L1 a w→wpAny P .any l.toArray Q (fuel+(l.length-m)) L a w:=by
 have hback:∀(j:Nat) (o:Oper),(l.take m).toArray[j]?=some o→∀e∈o.after,e.on<j:=fun j o ho=>by
  have:l.toArray[j]?=some o:=by
   simp only[List.getElem?_toArray,List.getElem?_take] at ho ⊢
   split at ho
   ·exact ho
   ·cases ho
  exact(dP hok this).1
 have hguard:∀i,i<m→∀o,l[i]?=some o→∀g,o.guard=some g→g.1<m:=by
  intro i hi o ho g hg
  have hmem:o∈l.take m:=List.mem_of_getElem? (i:=i) (by simp[hi,ho])
  have:=List.all_eq_true.1 hgo o hmem
  simpa [hg] using this
 have hlen:(l.take m).toArray.size=m:=by simp;omega
 have stuck:∀(fuel:Nat) (L1 L:Array Bool) (a:Act) (w:World),L1.size=m→L.size=l.length→(∀i,i<m→L[i]?=L1[i]?)→(∀i,m≤i→i<l.length→L.getD i true=false) →
  Region.ready .any (l.take m).toArray L1=[]→wpOps P l.toArray Q (List.range' m (l.length-m)) a w→wpAny P .any l.toArray Q (l.length-m) L a w:=by
  intro fuel L1 L a w h1 h2 h3 h4 hr h
  refine sY hok _ m L a w lr (by simp;omega) (by simpa using h2) ?_ ?_ h
  ·intro i hi
   have hi1:i<L1.size:=by omega
   by_cases hli:L1.getD i true=false
   ·exact absurd hr (iG hback (by omega) (by omega) hli)
   ·simp only[Array.getD_eq_getD_getElem?,h3 i hi,Array.getElem?_eq_getElem hi1,Option.getD_some] at hli ⊢
    simpa using hli
  ·intro i hi hi2
   exact h4 i hi (by simpa using hi2)
 have readyEq:∀(L1 L:Array Bool),L1.size=m→L.size=l.length→(∀i,i<m→L[i]?=L1[i]?)→(∀i,m≤i→i<l.length→L.getD i true=false)→Clo l.toArray L→Region.ready .any (l.take m).toArray L1≠[] →
  ∀i,i∈Region.ready .any l.toArray L→i<m∧i∈Region.ready .any (l.take m).toArray L1:=by
  intro L1 L h1 h2 h3 h4 hclo hne i hi
  obtain⟨h0,o,ho,hall⟩:=mem_ready.1 hi
  have hil:i<l.length:=by have:=(Array.getElem?_eq_some_iff.1 ho).1;simpa using this
  have hD:∀(t:Nat) d,t<m→L.getD t d=L1.getD t d:=fun t d ht=>by simp only[Array.getD_eq_getD_getElem?,h3 t ht]
  by_cases him:i<m
  ·refine⟨him,mem_ready.2 ⟨by rw[←hD i true him];exact h0,o,?_,fun e he hb=>?_⟩⟩
   ·simp only[List.getElem?_toArray,List.getElem?_take,him,if_true] at ho ⊢;exact ho
   ·have hlt:=(dP hok ho).1 e he
    rw[←hD e.on false (by omega)];exact hall e he hb
  ·exfalso
   apply hne
   refine List.eq_nil_iff_forall_not_mem.2 fun t ht=>?_
   obtain⟨g0,ot,hot,_⟩:=mem_ready.1 ht
   have htm:t<m:=by have:=(Array.getElem?_eq_some_iff.1 hot).1;omega
   have h5:=kR hclo _ i o ho hall t (((dP hok ho).2 (by omega)).2 t (by omega))
   rw[hD t false htm] at h5
   have hs:t<L1.size:=by omega
   simp only[Array.getD_eq_getD_getElem?,Array.getElem?_eq_getElem hs,Option.getD_some] at h5 g0
   rw[g0] at h5;cases h5
 intro fuel
 induction fuel with
 | zero =>
   intro L1 L a w h1 h2 h3 h4 hclo h
   rw[Nat.zero_add]
   exact stuck 0 L1 L a w h1 h2 h3 h4 h.1 h.2
 | succ fuel ih =>
   intro L1 L a w h1 h2 h3 h4 hclo h
   by_cases hne:Region.ready .any (l.take m).toArray L1=[]
   ·have h5:=stuck 0 L1 L a w h1 h2 h3 h4 hne (h.1 hne)
    -- with more fuel than is wanted
    have more:∀(n k:Nat) (L:Array Bool) (a:Act) (w:World),wpAny P .any l.toArray Q n L a w→wpAny P .any l.toArray Q (n+k) L a w:=by
     intro n
     induction n with
     | zero =>
       intro k L a w h
       cases k with
       | zero=>exact h
       | succ k=>rw[Nat.zero_add];exact⟨fun _=>h.2,fun i hi=>by rw[h.1] at hi;cases hi⟩
     | succ n ihn =>
       intro k L a w h
       rw[show n+1+k=(n+k)+1 by omega]
       exact⟨h.1,fun i hi=>wpOp_mono (fun a' w' h'=>ihn k _ a' w' h') (h.2 i hi)⟩
    rw[show fuel+1+(l.length-m)=(l.length-m)+(fuel+1) by omega]
    exact more _ _ _ _ _ h5
   ·rw[show fuel+1+(l.length-m)=(fuel+(l.length-m))+1 by omega]
    have hreq:=readyEq L1 L h1 h2 h3 h4 hclo hne
    refine⟨fun h0=>?_,fun i hi=>?_⟩
    ·-- something of the first part may come up here too
     exfalso
     obtain⟨t,ht⟩:=List.exists_mem_of_ne_nil _ hne
     obtain⟨g0,ot,hot,hall⟩:=mem_ready.1 ht
     have htm:t<m:=by have:=(Array.getElem?_eq_some_iff.1 hot).1;omega
     have hot':l.toArray[t]?=some ot:=by simp only[List.getElem?_toArray,List.getElem?_take,htm,if_true] at hot ⊢;exact hot
     have hD:∀(s:Nat) d,s<m→L.getD s d=L1.getD s d:=fun s d hs=>by simp only[Array.getD_eq_getD_getElem?,h3 s hs]
     have:t∈Region.ready .any l.toArray L:=mem_ready.2 ⟨by rw[hD t true htm];exact g0,ot,hot',fun e he hb=>by
      have hlt:=hback t ot hot e he
      rw[hD e.on false (by omega)];exact hall e he hb⟩
     rw[h0] at this;cases this
    ·obtain⟨him,hi1⟩:=hreq i hi
     have h6:=lR him (hguard i him) (Q:=fun e a w=>match e with | .normal=>wpOps P l.toArray Q (List.range' m (l.length-m)) a w | e=>Q e a w) (h.2 i hi1)
     have h7:wpOp P l.toArray Q i (wpAny P .any (l.take m).toArray (fun e a w=>match e with | .normal=>wpOps P l.toArray Q (List.range' m (l.length-m)) a w | e=>Q e a w) fuel (L1.setIfInBounds i true)) a w:=by
      unfold wpOp at h6 ⊢
      cases ho:l.toArray[i]? with
      | none=>simpa [ho] using h6
      | some o =>
        simp only[ho] at h6 ⊢
        split
        ·rename_i hw
         simp only[hw,if_true] at h6
         rcases h6 with h6 | ⟨h6,h8⟩
         ·refine .inl ?_
          unfold Oper.wp at h6 ⊢
          generalize (execOp a.eval o).run P w=r at h6 ⊢
          cases r with
          | ok n w' =>
            cases n<;>simp only[Oper.upon] at h6 ⊢ <;> first
             | exact h6
             | (refine Calls.mono h6 fun e w'' he=>?_
                cases e<;>first | exact he | (obtain⟨a0,w0,hq⟩:=he;exact⟨a0,w0,hq⟩))
          | halt x w'=>cases x<;>simp only[Oper.upon] at h6 ⊢ <;> exact h6
         ·exact .inr ⟨h6,h8⟩
        ·rename_i hw
         simp only[hw] at h6
         exact h6
     refine wpOp_mono (fun a' w' h8=>ih (L1.setIfInBounds i true) (L.setIfInBounds i true) a' w' (by simp[h1]) (by simp[h2]) ?_ ?_ ?_ h8) h7
     ·intro t ht
      by_cases hti:i=t
      ·subst hti
       have:i<L.size:=by omega
       simp[h1,him,this]
      ·simp[Array.getElem?_setIfInBounds_ne hti,h3 t ht]
     ·intro t ht htl
      rw[getD_set_ne true (by omega)];exact h4 t ht htl
     ·intro t ot hot hl e he hb
      have hel:(L.setIfInBounds i true).getD e.on false=true ↔ (i=e.on∧i<L.size)∨L.getD e.on false=true:=by
       simp only[Array.getD_eq_getD_getElem?,Array.getElem?_setIfInBounds]
       by_cases hie:i=e.on
       ·by_cases hil:e.on<L.size
        ·simp[hie,hil]
        ·simp[hie,hil]
       ·simp[hie]
      rw[hel]
      by_cases hti:i=t
      ·subst hti
       obtain⟨_,o2,ho2,hall⟩:=mem_ready.1 hi
       obtain rfl:=Option.some.inj (ho2.symm.trans hot)
       exact .inr (hall e he hb)
      ·have hl':L.getD t false=true:=by
        simp only[Array.getD_eq_getD_getElem?,Array.getElem?_setIfInBounds,if_neg hti] at hl ⊢
        exact hl
       exact .inr (hclo t ot hot hl' e he hb)
theorem sW {m:Nat} (hok:jL l.toArray m=true) (k:Nat):∀(j:Nat) (a:Act) (w:World),wpOps P (l.drop m).toArray Q (List.range' j k) a w→wpOps P l.toArray Q (List.range' (m+j) k) a w:=by
 induction k with
 | zero=>intro j a w h;simpa [wpOps] using h
 | succ k ih =>
   intro j a w h
   rw[List.range'_succ,wpOps_cons] at h ⊢
   have he:(l.drop m).toArray[j]?=l.toArray[m+j]?:=by simp
   have h':wpOp P l.toArray Q (m+j) (wpOps P (l.drop m).toArray Q (List.range' (j+1) k)) a w:=by
    unfold wpOp at h ⊢
    rw[he] at h
    cases ho:l.toArray[m+j]? with
    | none=>simpa [ho] using h
    | some o =>
      simp only[ho] at h ⊢
      have hg:=((dP hok ho).2 (by omega)).1
      have hw:∀y,Region.wanted o y=true:=fun y=>by simp[Region.wanted,hg]
      simpa only[hw,if_true] using h
   refine wpOp_mono (fun a' w' h8=>?_) h'
   have:=ih (j+1) a' w' h8
   rwa[show m+(j+1)=m+j+1 by omega] at this
theorem lQ {id:Nat} {a:Act} {w:World} (m:Nat) (S:World→Prop) (hP:P.follows .mixedOrders=true) (hok:jL l.toArray m=true) (hgo:iC l m=true) (hm:decide (m≤l.length)=true) (hS:S w.drew)
 (h:S w.drew→wpAnyH P .any (l.take m).toArray (fun e a w=>match e with | .normal=>wpList P (l.drop m).toArray Q (l.drop m) a w | e=>Q e a w) S m (Array.replicate m false) a w.drew):(Code.region id l.toArray true).wp P Q a w:=by
 have hm':m≤l.length:=of_decide_eq_true hm
 have h1:=wpAny_of_held _ _ _ _ (h hS)
 have mono:∀(fuel:Nat) (L:Array Bool) (a:Act) (w:World),wpAny P .any (l.take m).toArray (fun e a w=>match e with | .normal=>wpList P (l.drop m).toArray Q (l.drop m) a w | e=>Q e a w) fuel L a w →
  wpAny P .any (l.take m).toArray (fun e a w=>match e with | .normal=>wpOps P l.toArray Q (List.range' m (l.length-m)) a w | e=>Q e a w) fuel L a w:=by
  have hn:∀a w,wpList P (l.drop m).toArray Q (l.drop m) a w→wpOps P l.toArray Q (List.range' m (l.length-m)) a w:=fun a w h=>by
   have e:=wpOps_eq_wpList (P:=P) (Q:=Q) (ops:=(l.drop m).toArray) (l.drop m) 0 (fun j=>by simp)
   rw[←e] at h
   have:=sW hok _ 0 a w h
   simpa using this
  have step:∀{i:Nat} {K K':Act→World→Prop} {a:Act} {w:World},(∀a w,K a w→K' a w)→wpOp P (l.take m).toArray (fun e a w=>match e with | .normal=>wpList P (l.drop m).toArray Q (l.drop m) a w | e=>Q e a w) i K a w →
   wpOp P (l.take m).toArray (fun e a w=>match e with | .normal=>wpOps P l.toArray Q (List.range' m (l.length-m)) a w | e=>Q e a w) i K' a w:=by
   intro i K K' a w hk h6
   refine wpOp_mono hk ?_
   unfold wpOp at h6 ⊢
   cases ho:(l.take m).toArray[i]? with
   | none=>simpa [ho] using h6
   | some o =>
     simp only[ho] at h6 ⊢
     split
     ·rename_i hw
      simp only[hw,if_true] at h6
      rcases h6 with h6 | ⟨h6,h8⟩
      ·refine .inl ?_
       unfold Oper.wp at h6 ⊢
       generalize (execOp a.eval o).run P w=r at h6 ⊢
       cases r with
       | ok n w' =>
         cases n<;>simp only[Oper.upon] at h6 ⊢ <;> first
          | exact h6
          | (refine Calls.mono h6 fun e w'' he=>?_
             cases e<;>first | exact he | (obtain⟨a0,w0,hq⟩:=he;exact⟨a0,w0,hq⟩))
       | halt x w'=>cases x<;>simp only[Oper.upon] at h6 ⊢ <;> exact h6
      ·exact .inr ⟨h6,h8⟩
     ·rename_i hw
      simp only[hw] at h6
      exact h6
  intro fuel
  induction fuel with
  | zero=>intro L a w h;exact⟨h.1,hn _ _ h.2⟩
  | succ fuel ih=>intro L a w h;exact⟨fun h0=>hn _ _ (h.1 h0),fun i hi=>step (fun a w h=>ih _ a w h) (h.2 i hi)⟩
 refine wp_region_any hP ?_
 have h2:=qY hok hgo hm' m (Array.replicate m false) (Array.replicate l.toArray.size false) a w.drew (by simp) (by simp) (fun i hi=>by rw[Array.getElem?_replicate,Array.getElem?_replicate,if_pos hi,if_pos (by simp;omega)]) (fun i _ hi=>by simp[Array.getD_eq_getD_getElem?,hi]) (fun j o ho hl=>by
  have hj:j<l.toArray.size:=(Array.getElem?_eq_some_iff.1 ho).1
  have hj2:j<l.length:=by simpa using hj
  simp[Array.getD_eq_getD_getElem?,Array.getElem?_replicate,hj2] at hl) (mono _ _ _ _ h1)
 have e:m+(l.length-m)=l.toArray.size:=by simp;omega
 rw[e] at h2
 exact h2
end
end
end Go.Proofs.YteladbdfiannjaaGreatDoor
