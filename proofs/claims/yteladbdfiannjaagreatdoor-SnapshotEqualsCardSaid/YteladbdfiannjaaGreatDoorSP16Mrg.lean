/-
  A region that draws its order split from its forced tail, where each operation of the tail waits for the one before it. No program in sight.
-/
import Derived.Test.YteladbdfiannjaaGreatDoorSP1Mrg
namespace Go.Proofs.YteladbdfiannjaaGreatDoor
set_option linter.unusedVariables false
set_option linter.unusedSimpArgs false
open Go Go.RowKit
def tailOk2 (ops:Array Oper) (m:Nat):Bool:=(List.range ops.size).all fun j=>match ops[j]? with
 | none=>true
 | some o=>(o.after.all fun e=>decide (e.on<j))&&(decide (j<m)||(o.guard.isNone&&(((List.range j).all fun i=>o.after.any fun e=>Region.binds .any e&&e.on==i)||(decide (m<j)&&o.after.any fun e=>Region.binds .any e&&e.on==j-1))))
section
variable {P:Program} {ops:Array Oper} {Q:Exit→Act→World→Prop}
theorem tailOk_at2 {m j:Nat} {o:Oper} (h:tailOk2 ops m=true) (ho:ops[j]?=some o) :
 (∀e∈o.after,e.on<j)∧(m≤j→o.guard=none∧∀i<j,(∃e∈o.after,Region.binds .any e=true∧e.on=i)∨(m<j∧∃e∈o.after,Region.binds .any e=true∧e.on=j-1)):=by
 have hj:j<ops.size:=(Array.getElem?_eq_some_iff.1 ho).1
 simp only[tailOk2,List.all_eq_true,List.mem_range] at h
 have h1:=h j hj
 simp only[ho,Bool.and_eq_true,Array.all_eq_true_iff_forall_mem,decide_eq_true_eq,Bool.or_eq_true,List.all_eq_true,List.mem_range] at h1
 refine⟨fun e he=>h1.1 e he,fun hm=>?_⟩
 rcases h1.2 with h2 | ⟨h2,h3⟩
 ·omega
 ·refine⟨by simpa using h2,fun i hi=>?_⟩
  rcases h3 with h3 | ⟨h4,h3⟩
  ·have:=h3 i hi
   simp only[Array.any_eq_true,Bool.and_eq_true,beq_iff_eq] at this
   obtain⟨k,hk,hb,hon⟩:=this
   exact .inl ⟨_,Array.getElem_mem hk,hb,hon⟩
  ·simp only[Array.any_eq_true,Bool.and_eq_true,beq_iff_eq] at h3
   obtain⟨k,hk,hb,hon⟩:=h3
   exact .inr ⟨h4,_,Array.getElem_mem hk,hb,hon⟩
theorem wpAny_tail2 {m:Nat} (hok:tailOk2 ops m=true):∀(k j:Nat) (listed:Array Bool) (a:Act) (w:World),m≤j→j+k=ops.size→listed.size=ops.size→(∀i,i<j→listed.getD i false=true)→(∀i,j≤i→i<ops.size→listed.getD i true=false) →
 wpOps P ops Q (List.range' j k) a w→wpAny P .any ops Q k listed a w:=by
 intro k
 induction k with
 | zero =>
   intro j listed a w hm hj hsz hyes hno h
   refine⟨?_,by simpa [wpOps] using h⟩
   refine List.eq_nil_iff_forall_not_mem.2 fun i hi=>?_
   obtain⟨h0,o,ho,_⟩:=mem_ready.1 hi
   have hi':i<ops.size:=(Array.getElem?_eq_some_iff.1 ho).1
   have h1:=hyes i (by omega)
   have hs:i<listed.size:=by omega
   simp only[Array.getD_eq_getD_getElem?,Array.getElem?_eq_getElem hs,Option.getD_some] at h0 h1
   rw[h0] at h1;cases h1
 | succ k ih =>
   intro j listed a w hm hj hsz hyes hno h
   have hjs:j<ops.size:=by omega
   have hready:Region.ready .any ops listed=[j]:=by
    have hmem:∀i,i∈Region.ready .any ops listed ↔ i=j:=by
     intro i
     constructor
     ·intro hi
      obtain⟨h0,o,ho,hall⟩:=mem_ready.1 hi
      have hi':i<ops.size:=(Array.getElem?_eq_some_iff.1 ho).1
      rcases Nat.lt_trichotomy i j with hlt | heq | hgt
      ·have h1:=hyes i hlt
       have hs:i<listed.size:=by omega
       simp only[Array.getD_eq_getD_getElem?,Array.getElem?_eq_getElem hs,Option.getD_some] at h0 h1
       rw[h0] at h1;cases h1
      ·exact heq
      ·obtain⟨t,htj,hti,e,he,hb,hon⟩:∃t,j≤t∧t<ops.size∧∃e∈o.after,Region.binds .any e=true∧e.on=t:=by
        rcases ((tailOk_at2 hok ho).2 (by omega)).2 j hgt with h | ⟨_,h⟩
        ·exact⟨j,Nat.le_refl _,hjs,h⟩
        ·exact⟨i-1,by omega,by omega,h⟩
       have h1:=hall e he hb
       have h2:=hno t htj hti
       rw[hon] at h1
       have hs:t<listed.size:=by omega
       simp only[Array.getD_eq_getD_getElem?,Array.getElem?_eq_getElem hs,Option.getD_some] at h1 h2
       rw[h2] at h1;cases h1
     ·rintro rfl
      refine mem_ready.2 ⟨hno i (Nat.le_refl _) hjs,_,Array.getElem?_eq_getElem hjs,fun e he _=>hyes _ ((tailOk_at2 hok (Array.getElem?_eq_getElem hjs)).1 e he)⟩
    have hnd:(Region.ready .any ops listed).Nodup:=List.filter_sublist.nodup List.nodup_range
    cases hr:Region.ready .any ops listed with
    | nil=>have:=(hmem j).2 rfl;rw[hr] at this;cases this
    | cons x xs =>
      rw[hr] at hmem hnd
      obtain rfl:x=j:=(hmem x).1 (by simp)
      cases xs with
      | nil=>rfl
      | cons y ys =>
        obtain rfl:y=x:=(hmem y).1 (by simp)
        simp at hnd
   refine⟨fun h0=>(by rw[hready] at h0;cases h0),fun i hi=>?_⟩
   rw[hready] at hi
   obtain rfl:i=j:=by simpa using hi
   rw[List.range'_succ,wpOps_cons] at h
   refine wpOp_mono (fun a' w' h'=>ih (i+1) _ a' w' (by omega) (by omega) (by simp[hsz]) ?_ ?_ h') h
   ·intro t ht
    by_cases hti:i=t
    ·subst hti;simp[Array.getD_eq_getD_getElem?,hsz,hjs]
    ·rw[getD_set_ne false hti];exact hyes t (by omega)
   ·intro t ht hts
    rw[getD_set_ne true (by omega)];exact hno t (by omega) hts
end
section
variable {P:Program} {l:List Oper} {Q:Exit→Act→World→Prop}
theorem wpAny_split2 {m:Nat} (hok:tailOk2 l.toArray m=true) (hgo:guardsOk l m=true) (hm:m≤l.length):∀(fuel:Nat) (L1 L:Array Bool) (a:Act) (w:World),L1.size=m→L.size=l.length→(∀i,i<m→L[i]?=L1[i]?)→(∀i,m≤i→i<l.length→L.getD i true=false) →
 wpAny P .any (l.take m).toArray (fun e a w=>match e with | .normal=>wpOps P l.toArray Q (List.range' m (l.length-m)) a w | e=>Q e a w) fuel L1 a w→wpAny P .any l.toArray Q (fuel+(l.length-m)) L a w:=by
 have hback:∀(j:Nat) (o:Oper),(l.take m).toArray[j]?=some o→∀e∈o.after,e.on<j:=fun j o ho=>by
  have:l.toArray[j]?=some o:=by
   simp only[List.getElem?_toArray,List.getElem?_take] at ho ⊢
   split at ho
   ·exact ho
   ·cases ho
  exact(tailOk_at2 hok this).1
 have hguard:∀i,i<m→∀o,l[i]?=some o→∀g,o.guard=some g→g.1<m:=by
  intro i hi o ho g hg
  have hmem:o∈l.take m:=List.mem_of_getElem? (i:=i) (by simp[hi,ho])
  have:=List.all_eq_true.1 hgo o hmem
  simpa [hg] using this
 have hlen:(l.take m).toArray.size=m:=by simp;omega
 have stuck:∀(fuel:Nat) (L1 L:Array Bool) (a:Act) (w:World),L1.size=m→L.size=l.length→(∀i,i<m→L[i]?=L1[i]?)→(∀i,m≤i→i<l.length→L.getD i true=false) →
  Region.ready .any (l.take m).toArray L1=[]→wpOps P l.toArray Q (List.range' m (l.length-m)) a w→wpAny P .any l.toArray Q (l.length-m) L a w:=by
  intro fuel L1 L a w h1 h2 h3 h4 hr h
  refine wpAny_tail2 hok _ m L a w (Nat.le_refl _) (by simp;omega) (by simpa using h2) ?_ ?_ h
  ·intro i hi
   have hi1:i<L1.size:=by omega
   by_cases hli:L1.getD i true=false
   ·exact absurd hr (ready_ne_nil hback (by omega) (by omega) hli)
   ·simp only[Array.getD_eq_getD_getElem?,h3 i hi,Array.getElem?_eq_getElem hi1,Option.getD_some] at hli ⊢
    simpa using hli
  ·intro i hi hi2
   exact h4 i hi (by simpa using hi2)
 have readyEq:∀(L1 L:Array Bool),L1.size=m→L.size=l.length→(∀i,i<m→L[i]?=L1[i]?)→(∀i,m≤i→i<l.length→L.getD i true=false)→Region.ready .any (l.take m).toArray L1≠[] →
  ∀i,i∈Region.ready .any l.toArray L→i<m∧i∈Region.ready .any (l.take m).toArray L1:=by
  intro L1 L h1 h2 h3 h4 hne i hi
  obtain⟨h0,o,ho,hall⟩:=mem_ready.1 hi
  have hil:i<l.length:=by have:=(Array.getElem?_eq_some_iff.1 ho).1;simpa using this
  have hD:∀(t:Nat) d,t<m→L.getD t d=L1.getD t d:=fun t d ht=>by simp only[Array.getD_eq_getD_getElem?,h3 t ht]
  by_cases him:i<m
  ·refine⟨him,mem_ready.2 ⟨by rw[←hD i true him];exact h0,o,?_,fun e he hb=>?_⟩⟩
   ·simp only[List.getElem?_toArray,List.getElem?_take,him,if_true] at ho ⊢;exact ho
   ·have hlt:=(tailOk_at2 hok ho).1 e he
    rw[←hD e.on false (by omega)];exact hall e he hb
  ·exfalso
   apply hne
   refine List.eq_nil_iff_forall_not_mem.2 fun t ht=>?_
   obtain⟨g0,ot,hot,_⟩:=mem_ready.1 ht
   have htm:t<m:=by have:=(Array.getElem?_eq_some_iff.1 hot).1;omega
   rcases ((tailOk_at2 hok ho).2 (by omega)).2 t (by omega) with ⟨e,he,hb,hon⟩ | ⟨hmi,e,he,hb,hon⟩
   ·have h5:=hall e he hb
    rw[hon,hD t false htm] at h5
    have hs:t<L1.size:=by omega
    simp only[Array.getD_eq_getD_getElem?,Array.getElem?_eq_getElem hs,Option.getD_some] at h5 g0
    rw[g0] at h5;cases h5
   ·have h5:=hall e he hb
    have h6:=h4 (i-1) (by omega) (by omega)
    rw[hon] at h5
    have hs:i-1<L.size:=by omega
    simp only[Array.getD_eq_getD_getElem?,Array.getElem?_eq_getElem hs,Option.getD_some] at h5 h6
    rw[h6] at h5;cases h5
 intro fuel
 induction fuel with
 | zero =>
   intro L1 L a w h1 h2 h3 h4 h
   rw[Nat.zero_add]
   exact stuck 0 L1 L a w h1 h2 h3 h4 h.1 h.2
 | succ fuel ih =>
   intro L1 L a w h1 h2 h3 h4 h
   by_cases hne:Region.ready .any (l.take m).toArray L1=[]
   ·have h5:=stuck 0 L1 L a w h1 h2 h3 h4 hne (h.1 hne)
    -- with more fuel than is wanted
    have more:∀(n k:Nat) (L:Array Bool) (a:Act) (w:World),wpAny P .any l.toArray Q n L a w→wpAny P .any l.toArray Q (n+k) L a w:=by
     intro n
     induction n with
     | zero =>
       intro k L a w h
       cases k with
       | zero=>exact h
       | succ k=>rw[Nat.zero_add];exact⟨fun _=>h.2,fun i hi=>by rw[h.1] at hi;cases hi⟩
     | succ n ihn =>
       intro k L a w h
       rw[show n+1+k=(n+k)+1 by omega]
       exact⟨h.1,fun i hi=>wpOp_mono (fun a' w' h'=>ihn k _ a' w' h') (h.2 i hi)⟩
    rw[show fuel+1+(l.length-m)=(l.length-m)+(fuel+1) by omega]
    exact more _ _ _ _ _ h5
   ·rw[show fuel+1+(l.length-m)=(fuel+(l.length-m))+1 by omega]
    have hreq:=readyEq L1 L h1 h2 h3 h4 hne
    refine⟨fun h0=>?_,fun i hi=>?_⟩
    ·-- something of the first part may come up here too
     exfalso
     obtain⟨t,ht⟩:=List.exists_mem_of_ne_nil _ hne
     obtain⟨g0,ot,hot,hall⟩:=mem_ready.1 ht
     have htm:t<m:=by have:=(Array.getElem?_eq_some_iff.1 hot).1;omega
     have hot':l.toArray[t]?=some ot:=by simp only[List.getElem?_toArray,List.getElem?_take,htm,if_true] at hot ⊢;exact hot
     have hD:∀(s:Nat) d,s<m→L.getD s d=L1.getD s d:=fun s d hs=>by simp only[Array.getD_eq_getD_getElem?,h3 s hs]
     have:t∈Region.ready .any l.toArray L:=mem_ready.2 ⟨by rw[hD t true htm];exact g0,ot,hot',fun e he hb=>by
      have hlt:=hback t ot hot e he
      rw[hD e.on false (by omega)];exact hall e he hb⟩
     rw[h0] at this;cases this
    ·obtain⟨him,hi1⟩:=hreq i hi
     have h6:=wpOp_take him (hguard i him) (Q:=fun e a w=>match e with | .normal=>wpOps P l.toArray Q (List.range' m (l.length-m)) a w | e=>Q e a w) (h.2 i hi1)
     have h7:wpOp P l.toArray Q i (wpAny P .any (l.take m).toArray (fun e a w=>match e with | .normal=>wpOps P l.toArray Q (List.range' m (l.length-m)) a w | e=>Q e a w) fuel (L1.setIfInBounds i true)) a w:=by
      unfold wpOp at h6 ⊢
      cases ho:l.toArray[i]? with
      | none=>simpa [ho] using h6
      | some o =>
        simp only[ho] at h6 ⊢
        split
        ·rename_i hw
         simp only[hw,if_true] at h6
         rcases h6 with h6 | ⟨h6,h8⟩
         ·refine .inl ?_
          unfold Oper.wp at h6 ⊢
          generalize (execOp a.eval o).run P w=r at h6 ⊢
          cases r with
          | ok n w' =>
            cases n<;>simp only[Oper.upon] at h6 ⊢ <;> first
             | exact h6
             | (refine Calls.mono h6 fun e w'' he=>?_
                cases e<;>first | exact he | (obtain⟨a0,w0,hq⟩:=he;exact⟨a0,w0,hq⟩))
          | halt x w'=>cases x<;>simp only[Oper.upon] at h6 ⊢ <;> exact h6
         ·exact .inr ⟨h6,h8⟩
        ·rename_i hw
         simp only[hw] at h6
         exact h6
     refine wpOp_mono (fun a' w' h8=>ih (L1.setIfInBounds i true) (L.setIfInBounds i true) a' w' (by simp[h1]) (by simp[h2]) ?_ ?_ h8) h7
     ·intro t ht
      by_cases hti:i=t
      ·subst hti
       have:i<L.size:=by omega
       simp[h1,him,this]
      ·simp[Array.getElem?_setIfInBounds_ne hti,h3 t ht]
     ·intro t ht htl
      rw[getD_set_ne true (by omega)];exact h4 t ht htl
theorem wpOps_drop2 {m:Nat} (hok:tailOk2 l.toArray m=true) (k:Nat):∀(j:Nat) (a:Act) (w:World),wpOps P (l.drop m).toArray Q (List.range' j k) a w→wpOps P l.toArray Q (List.range' (m+j) k) a w:=by
 induction k with
 | zero=>intro j a w h;simpa [wpOps] using h
 | succ k ih =>
   intro j a w h
   rw[List.range'_succ,wpOps_cons] at h ⊢
   have he:(l.drop m).toArray[j]?=l.toArray[m+j]?:=by simp
   have h':wpOp P l.toArray Q (m+j) (wpOps P (l.drop m).toArray Q (List.range' (j+1) k)) a w:=by
    unfold wpOp at h ⊢
    rw[he] at h
    cases ho:l.toArray[m+j]? with
    | none=>simpa [ho] using h
    | some o =>
      simp only[ho] at h ⊢
      have hg:=((tailOk_at2 hok ho).2 (by omega)).1
      have hw:∀y,Region.wanted o y=true:=fun y=>by simp[Region.wanted,hg]
      simpa only[hw,if_true] using h
   refine wpOp_mono (fun a' w' h8=>?_) h'
   have:=ih (j+1) a' w' h8
   rwa[show m+(j+1)=m+j+1 by omega] at this
theorem wp_region_split2 {id:Nat} {a:Act} {w:World} (m:Nat) (S:World→Prop) (hP:P.follows .mixedOrders=true) (hok:tailOk2 l.toArray m=true) (hgo:guardsOk l m=true) (hm:decide (m≤l.length)=true) (hS:S w.drew)
 (h:S w.drew→wpAnyH P .any (l.take m).toArray (fun e a w=>match e with | .normal=>wpList P (l.drop m).toArray Q (l.drop m) a w | e=>Q e a w) S m (Array.replicate m false) a w.drew):(Code.region id l.toArray true).wp P Q a w:=by
 have hm':m≤l.length:=of_decide_eq_true hm
 have h1:=wpAny_of_held _ _ _ _ (h hS)
 have mono:∀(fuel:Nat) (L:Array Bool) (a:Act) (w:World),wpAny P .any (l.take m).toArray (fun e a w=>match e with | .normal=>wpList P (l.drop m).toArray Q (l.drop m) a w | e=>Q e a w) fuel L a w →
  wpAny P .any (l.take m).toArray (fun e a w=>match e with | .normal=>wpOps P l.toArray Q (List.range' m (l.length-m)) a w | e=>Q e a w) fuel L a w:=by
  have hn:∀a w,wpList P (l.drop m).toArray Q (l.drop m) a w→wpOps P l.toArray Q (List.range' m (l.length-m)) a w:=fun a w h=>by
   have e:=wpOps_eq_wpList (P:=P) (Q:=Q) (ops:=(l.drop m).toArray) (l.drop m) 0 (fun j=>by simp)
   rw[←e] at h
   have:=wpOps_drop2 hok _ 0 a w h
   simpa using this
  have step:∀{i:Nat} {K K':Act→World→Prop} {a:Act} {w:World},(∀a w,K a w→K' a w)→wpOp P (l.take m).toArray (fun e a w=>match e with | .normal=>wpList P (l.drop m).toArray Q (l.drop m) a w | e=>Q e a w) i K a w →
   wpOp P (l.take m).toArray (fun e a w=>match e with | .normal=>wpOps P l.toArray Q (List.range' m (l.length-m)) a w | e=>Q e a w) i K' a w:=by
   intro i K K' a w hk h6
   refine wpOp_mono hk ?_
   unfold wpOp at h6 ⊢
   cases ho:(l.take m).toArray[i]? with
   | none=>simpa [ho] using h6
   | some o =>
     simp only[ho] at h6 ⊢
     split
     ·rename_i hw
      simp only[hw,if_true] at h6
      rcases h6 with h6 | ⟨h6,h8⟩
      ·refine .inl ?_
       unfold Oper.wp at h6 ⊢
       generalize (execOp a.eval o).run P w=r at h6 ⊢
       cases r with
       | ok n w' =>
         cases n<;>simp only[Oper.upon] at h6 ⊢ <;> first
          | exact h6
          | (refine Calls.mono h6 fun e w'' he=>?_
             cases e<;>first | exact he | (obtain⟨a0,w0,hq⟩:=he;exact⟨a0,w0,hq⟩))
       | halt x w'=>cases x<;>simp only[Oper.upon] at h6 ⊢ <;> exact h6
      ·exact .inr ⟨h6,h8⟩
     ·rename_i hw
      simp only[hw] at h6
      exact h6
  intro fuel
  induction fuel with
  | zero=>intro L a w h;exact⟨h.1,hn _ _ h.2⟩
  | succ fuel ih=>intro L a w h;exact⟨fun h0=>hn _ _ (h.1 h0),fun i hi=>step (fun a w h=>ih _ a w h) (h.2 i hi)⟩
 refine wp_region_any hP ?_
 have h2:=wpAny_split2 hok hgo hm' m (Array.replicate m false) (Array.replicate l.toArray.size false) a w.drew (by simp) (by simp) (fun i hi=>by rw[Array.getElem?_replicate,Array.getElem?_replicate,if_pos hi,if_pos (by simp;omega)]) (fun i _ hi=>by simp[Array.getD_eq_getD_getElem?,hi]) (mono _ _ _ _ h1)
 have e:m+(l.length-m)=l.toArray.size:=by simp;omega
 rw[e] at h2
 exact h2
end
end Go.Proofs.YteladbdfiannjaaGreatDoor
