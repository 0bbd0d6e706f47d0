/- A part. -/
import Derived.Test.YtmgpghoamapfgaaGreatDoorST19Mrg
import Derived.Test.YtmgpghoamapfgaaGreatDoorST12Mrg
import Derived.Deep.DeepCutAuto
import Derived.Laws.Tables
import Derived.Laws.CopyRow
namespace Go.Proofs.YtmgpghoamapfgaaGreatDoor
set_option linter.unusedVariables false
set_option maxRecDepth 100000
set_option maxHeartbeats 16000000
set_option linter.unusedSimpArgs false
section
open Go Go.RowKit
def nT (ops:Array Oper) (m:Nat):Bool:=(List.range ops.size).all fun j=>match ops[j]? with
 | none=>true
 | some o=>(o.after.all fun e=>decide (e.on<j))&&(decide (j<m)||(o.guard.isNone&&(((List.range j).all fun i=>o.after.any fun e=>Region.binds .any e&&e.on==i)||(decide (m<j)&&o.after.any fun e=>Region.binds .any e&&e.on==j-1))))
section
variable {P:Program} {ops:Array Oper} {Q:Exit->Act->World->Prop}
theorem gR {m j:Nat} {o:Oper} (h:nT ops m=true) (ho:ops[j]?=some o) :
 (∀e∈o.after,e.on<j)/\(m<=j->o.guard=none/\∀i<j,(∃e∈o.after,Region.binds .any e=true/\e.on=i)\/(m<j/\∃e∈o.after,Region.binds .any e=true/\e.on=j-1)):=by
 have hj:j<ops.size:=(Array.getElem?_eq_some_iff.1 ho).1;simp only[nT,List.all_eq_true,List.mem_range] at h;have h1:=h j hj;simp only[ho,Bool.and_eq_true,Array.all_eq_true_iff_forall_mem,decide_eq_true_eq,Bool.or_eq_true,List.all_eq_true,List.mem_range] at h1;refine⟨fun e he=>h1.1 e he,fun hm=>?_⟩;rcases h1.2 with h2 | ⟨h2,h3⟩
 ·omega
 ·refine⟨by simpa using h2,fun i hi=>?_⟩;rcases h3 with h3 | ⟨h4,h3⟩
  ·have:=h3 i hi;simp only[Array.any_eq_true,Bool.and_eq_true,beq_iff_eq] at this;obtain⟨k,hk,hb,hon⟩:=this;exact .inl ⟨_,Array.getElem_mem hk,hb,hon⟩
  ·simp only[Array.any_eq_true,Bool.and_eq_true,beq_iff_eq] at h3;obtain⟨k,hk,hb,hon⟩:=h3;exact .inr ⟨h4,_,Array.getElem_mem hk,hb,hon⟩
theorem aCl {m:Nat} (hok:nT ops m=true):∀(k j:Nat) (listed:Array Bool) (a:Act) (w:World),m<=j->j+k=ops.size->listed.size=ops.size->(∀i,i<j->listed.getD i false=true)->(∀i,j<=i->i<ops.size->listed.getD i true=false) ->
 wpOps P ops Q (List.range' j k) a w->wpAny P .any ops Q k listed a w:=by
 intro k
 induction k with
 | zero =>
   intro j listed a w hm hj hsz hyes hno h;refine⟨?_,by simpa [wpOps] using h⟩;refine List.eq_nil_iff_forall_not_mem.2 fun i hi=>?_;obtain⟨h0,o,ho,_⟩:=mem_ready.1 hi;have hi':i<ops.size:=(Array.getElem?_eq_some_iff.1 ho).1;have h1:=hyes i ga;have hs:i<listed.size:=by omega
   simp only[Array.getD_eq_getD_getElem?,Array.getElem?_eq_getElem hs,Option.getD_some] at h0 h1;rw[h0] at h1;cases h1
 | succ k ih =>
   intro j listed a w hm hj hsz hyes hno h;have hjs:j<ops.size:=by omega
   have hready:Region.ready .any ops listed=[j]:=by
    have hmem:∀i,i∈Region.ready .any ops listed ↔ i=j:=by
     intro i;constructor
     ·intro hi;obtain⟨h0,o,ho,hall⟩:=mem_ready.1 hi;have hi':i<ops.size:=(Array.getElem?_eq_some_iff.1 ho).1;rcases Nat.lt_trichotomy i j with hlt | heq | hgt
      ·have h1:=hyes i hlt;have hs:i<listed.size:=by omega
       simp only[Array.getD_eq_getD_getElem?,Array.getElem?_eq_getElem hs,Option.getD_some] at h0 h1;rw[h0] at h1;cases h1
      ·exact heq
      ·obtain⟨t,htj,hti,e,he,hb,hon⟩:∃t,j<=t/\t<ops.size/\∃e∈o.after,Region.binds .any e=true/\e.on=t:=by
        rcases ((gR hok ho).2 ga).2 j hgt with h | ⟨_,h⟩
        ·exact⟨j,Nat.le_refl _,hjs,h⟩
        ·exact⟨i-1,by omega,by omega,h⟩
       have h1:=hall e he hb;have h2:=hno t htj hti;rw[hon] at h1;have hs:t<listed.size:=by omega
       simp only[Array.getD_eq_getD_getElem?,Array.getElem?_eq_getElem hs,Option.getD_some] at h1 h2;rw[h2] at h1;cases h1
     ·rintro rfl;refine mem_ready.2 ⟨hno i lr hjs,_,Array.getElem?_eq_getElem hjs,fun e he _=>hyes _ ((gR hok (Array.getElem?_eq_getElem hjs)).1 e he)⟩
    have hnd:(Region.ready .any ops listed).Nodup:=List.filter_sublist.nodup List.nodup_range;cases hr:Region.ready .any ops listed with
    | nil=>have:=(hmem j).2 rfl;rw[hr] at this;cases this
    | cons x xs =>
      rw[hr] at hmem hnd;obtain rfl:x=j:=(hmem x).1 gd;cases xs with
      | nil=>rfl
      | cons y ys =>
        obtain rfl:y=x:=(hmem y).1 gd;simp at hnd
   refine⟨fun h0=>(by rw[hready] at h0;cases h0),fun i hi=>?_⟩;rw[hready] at hi;obtain rfl:i=j:=by simpa using hi
   rw[List.range'_succ,wpOps_cons] at h;refine wpOp_mono (fun a' w' h'=>ih (i+1) _ a' w' ga ga (by simp[hsz]) ?_ ?_ h') h
   ·intro t ht;by_cases hti:i=t
    ·subst hti;simp[Array.getD_eq_getD_getElem?,hsz,hjs]
    ·rw[getD_set_ne false hti];exact hyes t ga
   ·intro t ht hts;rw[getD_set_ne true ga];exact hno t ga hts
end
section
variable {P:Program} {l:List Oper} {Q:Exit->Act->World->Prop}
theorem aAh {m:Nat} (hok:nT l.toArray m=true) (hgo:lF l m=true) (hm:m<=l.length):∀(fuel:Nat) (L1 L:Array Bool) (a:Act) (w:World),L1.size=m->L.size=l.length->(∀i,i<m->L[i]?=L1[i]?)->(∀i,m<=i->i<l.length->L.getD i true=false) ->
 wpAny P .any (l.take m).toArray (fun e a w=>match e with | .normal=>wpOps P l.toArray Q (List.range' m (l.length-m)) a w | e=>Q e a w) fuel L1 a w->wpAny P .any l.toArray Q (fuel+(l.length-m)) L a w:=by
 have hback:∀(j:Nat) (o:Oper),(l.take m).toArray[j]?=some o->∀e∈o.after,e.on<j:=fun j o ho=>by
  have:l.toArray[j]?=some o:=by
   simp only[List.getElem?_toArray,List.getElem?_take] at ho ⊢;split at ho
   ·exact ho
   ·cases ho
  exact(gR hok this).1
 have hguard:∀i,i<m->∀o,l[i]?=some o->∀g,o.guard=some g->g.1<m:=by
  intro i hi o ho g hg;have hmem:o∈l.take m:=List.mem_of_getElem? (i:=i) (by simp[hi,ho]);have:=List.all_eq_true.1 hgo o hmem
  simpa [hg] using this
 have hlen:(l.take m).toArray.size=m:=by simp;omega
 have stuck:∀(fuel:Nat) (L1 L:Array Bool) (a:Act) (w:World),L1.size=m->L.size=l.length->(∀i,i<m->L[i]?=L1[i]?)->(∀i,m<=i->i<l.length->L.getD i true=false) ->
  Region.ready .any (l.take m).toArray L1=[]->wpOps P l.toArray Q (List.range' m (l.length-m)) a w->wpAny P .any l.toArray Q (l.length-m) L a w:=by
  intro fuel L1 L a w h1 h2 h3 h4 hr h;refine aCl hok _ m L a w lr gj (by simpa using h2) ?_ ?_ h
  ·intro i hi;have hi1:i<L1.size:=by omega
   by_cases hli:L1.getD i true=false
   ·exact absurd hr (lT hback ga ga hli)
   ·simp only[Array.getD_eq_getD_getElem?,h3 i hi,Array.getElem?_eq_getElem hi1,Option.getD_some] at hli ⊢
    simpa using hli
  ·intro i hi hi2;exact h4 i hi (by simpa using hi2)
 have readyEq:∀(L1 L:Array Bool),L1.size=m->L.size=l.length->(∀i,i<m->L[i]?=L1[i]?)->(∀i,m<=i->i<l.length->L.getD i true=false)->Region.ready .any (l.take m).toArray L1≠[] ->
  ∀i,i∈Region.ready .any l.toArray L->i<m/\i∈Region.ready .any (l.take m).toArray L1:=by
  intro L1 L h1 h2 h3 h4 hne i hi;obtain⟨h0,o,ho,hall⟩:=mem_ready.1 hi;have hil:i<l.length:=by have:=(Array.getElem?_eq_some_iff.1 ho).1;simpa using this
  have hD:∀(t:Nat) d,t<m->L.getD t d=L1.getD t d:=fun t d ht=>by simp only[Array.getD_eq_getD_getElem?,h3 t ht]
  by_cases him:i<m
  ·refine⟨him,mem_ready.2 ⟨by rw[<-hD i true him];exact h0,o,?_,fun e he hb=>?_⟩⟩
   ·simp only[List.getElem?_toArray,List.getElem?_take,him,if_true] at ho ⊢;exact ho
   ·have hlt:=(gR hok ho).1 e he;rw[<-hD e.on false ga];exact hall e he hb
  ·exfalso;apply hne;refine List.eq_nil_iff_forall_not_mem.2 fun t ht=>?_;obtain⟨g0,ot,hot,_⟩:=mem_ready.1 ht;have htm:t<m:=by have:=(Array.getElem?_eq_some_iff.1 hot).1;omega
   rcases ((gR hok ho).2 ga).2 t ga with ⟨e,he,hb,hon⟩ | ⟨hmi,e,he,hb,hon⟩
   ·have h5:=hall e he hb;rw[hon,hD t false htm] at h5;have hs:t<L1.size:=by omega
    simp only[Array.getD_eq_getD_getElem?,Array.getElem?_eq_getElem hs,Option.getD_some] at h5 g0;rw[g0] at h5;cases h5
   ·have h5:=hall e he hb;have h6:=h4 (i-1) ga ga;rw[hon] at h5;have hs:i-1<L.size:=by omega
    simp only[Array.getD_eq_getD_getElem?,Array.getElem?_eq_getElem hs,Option.getD_some] at h5 h6;rw[h6] at h5;cases h5
 intro fuel
 induction fuel with
 | zero =>
   intro L1 L a w h1 h2 h3 h4 h;rw[Nat.zero_add];exact stuck 0 L1 L a w h1 h2 h3 h4 h.1 h.2
 | succ fuel ih =>
   intro L1 L a w h1 h2 h3 h4 h;by_cases hne:Region.ready .any (l.take m).toArray L1=[]
   ·have h5:=stuck 0 L1 L a w h1 h2 h3 h4 hne (h.1 hne)
    -- with more fuel than is wanted
    have more:∀(n k:Nat) (L:Array Bool) (a:Act) (w:World),wpAny P .any l.toArray Q n L a w->wpAny P .any l.toArray Q (n+k) L a w:=by
     intro n
     induction n with
     | zero =>
       intro k L a w h;cases k with
       | zero=>exact h
       | succ k=>rw[Nat.zero_add];exact⟨fun _=>h.2,fun i hi=>by rw[h.1] at hi;cases hi⟩
     | succ n ihn =>
       intro k L a w h;rw[show n+1+k=(n+k)+1 by omega];exact⟨h.1,fun i hi=>wpOp_mono (fun a' w' h'=>ihn k _ a' w' h') (h.2 i hi)⟩
    rw[show fuel+1+(l.length-m)=(l.length-m)+(fuel+1) by omega];exact more _ _ _ _ _ h5
   ·rw[show fuel+1+(l.length-m)=(fuel+(l.length-m))+1 by omega];have hreq:=readyEq L1 L h1 h2 h3 h4 hne;refine⟨fun h0=>?_,fun i hi=>?_⟩
    ·-- something of the first part may come up here too
     exfalso;obtain⟨t,ht⟩:=List.exists_mem_of_ne_nil _ hne;obtain⟨g0,ot,hot,hall⟩:=mem_ready.1 ht;have htm:t<m:=by have:=(Array.getElem?_eq_some_iff.1 hot).1;omega
     have hot':l.toArray[t]?=some ot:=by simp only[List.getElem?_toArray,List.getElem?_take,htm,if_true] at hot ⊢;exact hot
     have hD:∀(s:Nat) d,s<m->L.getD s d=L1.getD s d:=fun s d hs=>by simp only[Array.getD_eq_getD_getElem?,h3 s hs]
     have:t∈Region.ready .any l.toArray L:=mem_ready.2 ⟨by rw[hD t true htm];exact g0,ot,hot',fun e he hb=>by
      have hlt:=hback t ot hot e he;rw[hD e.on false ga];exact hall e he hb⟩
     rw[h0] at this;cases this
    ·obtain⟨him,hi1⟩:=hreq i hi;have h6:=rD him (hguard i him) (Q:=fun e a w=>match e with | .normal=>wpOps P l.toArray Q (List.range' m (l.length-m)) a w | e=>Q e a w) (h.2 i hi1);have h7:wpOp P l.toArray Q i (wpAny P .any (l.take m).toArray (fun e a w=>match e with | .normal=>wpOps P l.toArray Q (List.range' m (l.length-m)) a w | e=>Q e a w) fuel (L1.setIfInBounds i true)) a w:=by
      unfold wpOp at h6 ⊢;cases ho:l.toArray[i]? with
      | none=>simpa [ho] using h6
      | some o =>
        simp only[ho] at h6 ⊢;split
        ·rename_i hw;simp only[hw,if_true] at h6;rcases h6 with h6 | ⟨h6,h8⟩
         ·refine .inl ?_;unfold Oper.wp at h6 ⊢;generalize (execOp a.eval o).run P w=r at h6 ⊢;cases r with
          | ok n w' =>
            cases n<;>simp only[Oper.upon] at h6 ⊢ <;> first
             | exact h6
             | (refine Calls.mono h6 fun e w'' he=>?_
                cases e<;>first | exact he | (obtain⟨a0,w0,hq⟩:=he;exact⟨a0,w0,hq⟩))
          | halt x w'=>cases x<;>simp only[Oper.upon] at h6 ⊢ <;> exact h6
         ·exact .inr ⟨h6,h8⟩
        ·rename_i hw;simp only[hw] at h6;exact h6
     refine wpOp_mono (fun a' w' h8=>ih (L1.setIfInBounds i true) (L.setIfInBounds i true) a' w' (by simp[h1]) (by simp[h2]) ?_ ?_ h8) h7
     ·intro t ht;by_cases hti:i=t
      ·subst hti;have:i<L.size:=by omega
       simp[h1,him,this]
      ·simp[Array.getElem?_setIfInBounds_ne hti,h3 t ht]
     ·intro t ht htl;rw[getD_set_ne true ga];exact h4 t ht htl
theorem aCj {m:Nat} (hok:nT l.toArray m=true) (k:Nat):∀(j:Nat) (a:Act) (w:World),wpOps P (l.drop m).toArray Q (List.range' j k) a w->wpOps P l.toArray Q (List.range' (m+j) k) a w:=by
 induction k with
 | zero=>intro j a w h;simpa [wpOps] using h
 | succ k ih =>
   intro j a w h;rw[List.range'_succ,wpOps_cons] at h ⊢;have he:(l.drop m).toArray[j]?=l.toArray[m+j]?:=by simp
   have h':wpOp P l.toArray Q (m+j) (wpOps P (l.drop m).toArray Q (List.range' (j+1) k)) a w:=by
    unfold wpOp at h ⊢;rw[he] at h;cases ho:l.toArray[m+j]? with
    | none=>simpa [ho] using h
    | some o =>
      simp only[ho] at h ⊢;have hg:=((gR hok ho).2 ga).1;have hw:∀y,Region.wanted o y=true:=fun y=>by simp[Region.wanted,hg]
      simpa only[hw,if_true] using h
   refine wpOp_mono (fun a' w' h8=>?_) h';have:=ih (j+1) a' w' h8;rwa[show m+(j+1)=m+j+1 by omega] at this
theorem dP {id:Nat} {a:Act} {w:World} (m:Nat) (S:World->Prop) (hP:P.follows .mixedOrders=true) (hok:nT l.toArray m=true) (hgo:lF l m=true) (hm:decide (m<=l.length)=true) (hS:S w.drew)
 (h:S w.drew->wpAnyH P .any (l.take m).toArray (fun e a w=>match e with | .normal=>wpList P (l.drop m).toArray Q (l.drop m) a w | e=>Q e a w) S m (Array.replicate m false) a w.drew):(Code.region id l.toArray true).wp P Q a w:=by
 have hm':m<=l.length:=of_decide_eq_true hm;have h1:=wpAny_of_held _ _ _ _ (h hS);have mono:∀(fuel:Nat) (L:Array Bool) (a:Act) (w:World),wpAny P .any (l.take m).toArray (fun e a w=>match e with | .normal=>wpList P (l.drop m).toArray Q (l.drop m) a w | e=>Q e a w) fuel L a w ->
  wpAny P .any (l.take m).toArray (fun e a w=>match e with | .normal=>wpOps P l.toArray Q (List.range' m (l.length-m)) a w | e=>Q e a w) fuel L a w:=by
  have hn:∀a w,wpList P (l.drop m).toArray Q (l.drop m) a w->wpOps P l.toArray Q (List.range' m (l.length-m)) a w:=fun a w h=>by
   have e:=wpOps_eq_wpList (P:=P) (Q:=Q) (ops:=(l.drop m).toArray) (l.drop m) 0 (fun j=>by simp);rw[<-e] at h;have:=aCj hok _ 0 a w h
   simpa using this
  have step:∀{i:Nat} {K K':Act->World->Prop} {a:Act} {w:World},(∀a w,K a w->K' a w)->wpOp P (l.take m).toArray (fun e a w=>match e with | .normal=>wpList P (l.drop m).toArray Q (l.drop m) a w | e=>Q e a w) i K a w ->
   wpOp P (l.take m).toArray (fun e a w=>match e with | .normal=>wpOps P l.toArray Q (List.range' m (l.length-m)) a w | e=>Q e a w) i K' a w:=by
   intro i K K' a w hk h6;refine wpOp_mono hk ?_;unfold wpOp at h6 ⊢;cases ho:(l.take m).toArray[i]? with
   | none=>simpa [ho] using h6
   | some o =>
     simp only[ho] at h6 ⊢;split
     ·rename_i hw;simp only[hw,if_true] at h6;rcases h6 with h6 | ⟨h6,h8⟩
      ·refine .inl ?_;unfold Oper.wp at h6 ⊢;generalize (execOp a.eval o).run P w=r at h6 ⊢;cases r with
       | ok n w' =>
         cases n<;>simp only[Oper.upon] at h6 ⊢ <;> first
          | exact h6
          | (refine Calls.mono h6 fun e w'' he=>?_
             cases e<;>first | exact he | (obtain⟨a0,w0,hq⟩:=he;exact⟨a0,w0,hq⟩))
       | halt x w'=>cases x<;>simp only[Oper.upon] at h6 ⊢ <;> exact h6
      ·exact .inr ⟨h6,h8⟩
     ·rename_i hw;simp only[hw] at h6;exact h6
  intro fuel
  induction fuel with
  | zero=>intro L a w h;exact⟨h.1,hn _ _ h.2⟩
  | succ fuel ih=>intro L a w h;exact⟨fun h0=>hn _ _ (h.1 h0),fun i hi=>step (fun a w h=>ih _ a w h) (h.2 i hi)⟩
 refine wp_region_any hP ?_;have h2:=aAh hok hgo hm' m (Array.replicate m false) (Array.replicate l.toArray.size false) a w.drew gd gd (fun i hi=>by rw[Array.getElem?_replicate,Array.getElem?_replicate,if_pos hi,if_pos gj]) (fun i _ hi=>by simp[Array.getD_eq_getD_getElem?,hi]) (mono _ _ _ _ h1);have e:m+(l.length-m)=l.toArray.size:=by simp;omega
 rw[e] at h2;exact h2
end
end
section
open Go Go.RowKit Go.Shelf
attribute [local go_sem] cJ eW cK dF bP bW
def TB (w:World) (b:Nat):Prop:=∃w0,Tabs w0/\NumVars w0/\BB w0 w/\w0.heap.size<=b
theorem TB.tabs {w:World} {b:Nat} (h:TB w b):Tabs w:=by
 obtain⟨w0,h1,_,h2,_⟩:=h;exact h1.below h2
theorem TB.nums {w:World} {b:Nat} (h:TB w b):NumVars w:=by
 obtain⟨w0,_,h1,h2,_⟩:=h;exact h1.below h2
theorem TB.grown {w w':World} {b:Nat} {row:Option Nat} (h:TB w b) (hg:w.grownBy w' row) (hr:row=none\/row=some b):TB w' b:=by
 obtain⟨w0,h1,h2,h3,h4⟩:=h;refine⟨w0,h1,h2,⟨hg.os.trans h3.os,hg.tape.trans h3.tape,hg.output.trans h3.output,Nat.le_trans h3.size hg.size,fun i hi=>?_⟩,h4⟩;rw[hg.block i (Nat.lt_of_lt_of_le hi h3.size) (by rcases hr with rfl | rfl<;>(intro e;cases e)  <;> omega)];exact h3.block i hi
theorem TB.below {w w':World} {b:Nat} (h:TB w b) (hb:BB w w'):TB w' b:=h.grown (aQ hb none) (.inl rfl)
theorem sW (b:Nat) (s:ByteArray) (r:Rd) (at_:Nat) (w:World) (h:IsRd w b s r) (hat:at_<s.size) (hs:s.size<=100000) (hdx:r.d=false/\r.x=false) (hTB:TB w b) :
 CP 292 #[.pointer (some ⟨b,0,none⟩),I6 at_] w fun x w'=>x=.returned (.tuple #[])/\IsRd w' b s (iN s.data.toList s at_ r)/\w.grownBy w' (some b):=by
 have hln:s.data.toList.length=s.size:=rfl;have HR:=hid h;have HTB:=hid hTB;have HDX:=hid hdx;have HOK:=hid h.ok;clear hTB hdx;obtain⟨W,hW,hw⟩:=h.put;have HW:=hid hw;have hat':(at_:Int)<(s.size:Int):=by omega
 have hat0:(0:Int)<=(at_:Int):=by omega
 have hg0:=jV s at_ hat
 obtain⟨m,hm⟩:=ez (decide (s[at_].toNat=45):Bool)
 obtain⟨f,hf⟩:=ez (if s.data.toList[at_]?=some 45 then at_+1 else at_)
 have hfm:f=if m=true then at_+1 else at_:=by
  rw[hf,hg0,hm];have:(some s[at_]=some (45:UInt8)) ↔ (decide (s[at_].toNat=45)=true):=by
   rw[decide_eq_true_eq,Option.some.injEq];exact⟨fun e=>by rw[e];rfl,fun e=>UInt8.toNat_inj.1 e⟩
  simp only[this]
 have hfz:f<=s.size:=by rw[hfm];split<;>omega
 have hm45:((s[at_].toNat:Int)==45)=m:=by rw[hm,Bool.eq_iff_iff];simp;omega
 have HRD:=hid (fun (w':World) (h':w'=w)=>yO b s r f w' (h'▸HR.out) hfz ga);obtain⟨tq,htq⟩:=ez (bL s.data.toList f bD)
 have htqf:f<=tq:=htq▸jD _ _ _;have htqz:tq<=s.size:=htq▸aB6 _ _ _ hfz;rw[<-htq] at HRD;have HF:=hid hf;have HFM:=hid hfm;have HTQ:=hid htq;clear hf hfm htq hg0 hm h;subst hw;go_enter Tryz.func292,Tryz.ntmps292
 go_upto_if 15 with (fail)
 go_cut [4] (fun v wz=>v=I6 f/\wz=(cL W b (rdA s r.nx r.k r.p r.t r.b r.n r.sc r.d r.x r.e r.o)))
 case first =>
  cases m
  ·have e1:f=at_:=HFM.out;go_wp2
   go_meet
   exact⟨by rw[e1],rfl⟩
  ·have e1:f=at_+1:=HFM.out;go_wp2
   go_meet
   exact⟨by rw[e1];go_num,rfl⟩
 case rest =>
 obtain⟨rfl,hwc⟩:=hcut;obtain⟨wb,hwb⟩:=ez wc
 rw[<-hwb] at hwc ⊢;clear hwb;subst hwc;have HRD:=hid (HRD.out _ rfl);clear hm45 HFM;by_cases heq:tq=f
 ·have heq':((tq:Int)==(f:Int))=true:=by simp;omega
  have HFL:=hid (bC b s r at_ 13 _ HR.out);have HEQ:=hid heq;clear heq;go_wp2_with (first
   | (go_at_call 232;refine HFL.out.mono ?_;rintro e w2 ⟨rfl,h2,hg2⟩;have H2R:=hid h2;have HG2:=hid hg2;clear h2 hg2)
   | (go_at_call 284;refine HRD.out.mono ?_;rintro e w2 ⟨rfl,rfl⟩))
  refine bodyPost_ret (results_none rfl _ _ _) rfl ?_;refine⟨rfl,?_,HG2.out⟩;unfold iN;dsimp only;rw[<-HF.out,<-HTQ.out,if_pos HEQ.out];exact H2R.out
 have heq':((tq:Int)==(f:Int))=false:=by simp;omega
 have HNE:=hid heq;clear heq;obtain⟨dot,hdot⟩:=ez (decide (s.data.toList[tq]?=some 46/\(s.data.toList[tq+1]?.any bD)=true):Bool)
 have HDOT:=hid hdot;clear hdot;go_upto_region 7 with (go_at_call 284;refine HRD.out.mono ?_;rintro e w2 ⟨rfl,rfl⟩)
 go_cut [57] (fun v wz=>v=.bool dot/\wz=(cL W b (rdA s (tq:Int) r.k r.p r.t r.b r.n r.sc r.d r.x r.e r.o)))
 case first =>
  have hdd:=HDOT.out;by_cases h1:tq+1<s.size
  ·have h1':(tq:Int)+1<(s.size:Int):=by omega
   have h2':(tq:Int)<(s.size:Int):=by omega
   have h0':(0:Int)<=(tq:Int):=by omega
   have h01:(0:Int)<=(tq:Int)+1:=by omega
   have g1:=jV s tq ga;have g2:=jV s (tq+1) h1;rw[g1,g2] at hdd;by_cases h46:s[tq].toNat=46
   ·have q46:((s[tq].toNat:Int)==46)=true:=by simp;omega
    have hde:dot=bD s[tq+1]:=by
     rw[hdd];have:(some s[tq]=some (46:UInt8)):=by rw[Option.some.injEq];exact UInt8.toNat_inj.1 h46
     simp[this]
    have HDC:=hid (fun w'=>mH s[tq+1] w');rw[<-hde] at HDC;clear hdd hde h46 g1 g2;go_wp2_with (go_at_call 291;refine(HDC.out _).mono ?_;rintro e w2 ⟨rfl,hw2⟩;obtain rfl:=hw2.symm)
    go_meet
    exact⟨rfl,rfl⟩
   ·have q46:((s[tq].toNat:Int)==46)=false:=by simp;omega
    have hde:dot=false:=by
     rw[hdd];have:¬ (some s[tq]=some (46:UInt8)):=by rw[Option.some.injEq];exact fun e=>h46 (by rw[e];rfl)
     simp[this]
    clear hdd g1 g2;go_wp2
    go_meet
    exact⟨by rw[hde],rfl⟩
  ·have h1':¬ (tq:Int)+1<(s.size:Int):=by omega
   have hde:dot=false:=by
    rw[hdd,List.getElem?_eq_none (i:=tq+1) ga];simp
   clear hdd;go_wp2
   go_meet
   exact⟨by rw[hde],rfl⟩
 case rest =>
 obtain⟨rfl,hwc⟩:=hcut;obtain⟨wb,hwb⟩:=ez wc
 rw[<-hwb] at hwc ⊢;clear hwb;subst hwc;have hr1:IsRd (cL W b (rdA s (tq:Int) r.k r.p r.t r.b r.n r.sc r.d r.x r.e r.o)) b s { r with nx:=tq }:=dH W b s { r with nx:=tq } hW ⟨HOK.out.t0,htqz,HOK.out.p⟩ _ rfl;have HR1:=hid hr1;have HTZ:=hid htqz;clear hr1 HRD;obtain⟨q1,q2,q3,hq⟩:∃(q1:Nat) (q2 q3:Bool),(q1,q2,q3)=if dot=true then (bL s.data.toList (tq+1) bD,true,false) else if s.data.toList[tq]?=some 100 then (tq+1,true,true) else (tq,false,false):=⟨_,_,_,rfl⟩
 have HQ:=hid hq;have hq1z:q1<=s.size:=by
  cases dot
  ·rw[if_neg gc] at hq;split at hq
   ·rename_i h;cases hq
    obtain⟨h1,_⟩:=List.getElem?_eq_some_iff.1 h;exact h1
   ·cases hq;exact htqz
  ·rw[if_pos rfl] at hq;cases hq
   have hd:=HDOT.out.symm;rw[decide_eq_true_eq] at hd;have h2:tq+1<s.data.toList.length:=by
    rcases Nat.lt_or_ge (tq+1) s.data.toList.length with h | h
    ·exact h
    ·rw[List.getElem?_eq_none h] at hd;exact absurd hd.2 gd
   exact aB6 _ _ _ ga
 clear hq
 go_upto_if 57 with (fail)
 go_cut [] (fun wz=>wz=cL W b (rdA s q1 r.k r.p r.t r.b r.n r.sc q2 q3 r.e r.o))
 case first =>
  have hd1:r.d=false:=HDX.out.1;have hx1:r.x=false:=HDX.out.2;cases dot
  ·have hq:=HQ.out;rw[if_neg gc] at hq;by_cases hlt:tq<s.size
   ·have h2':(tq:Int)<(s.size:Int):=by omega
    have h0':(0:Int)<=(tq:Int):=by omega
    have g1:=jV s tq hlt;rw[g1] at hq;by_cases h100:s[tq].toNat=100
    ·have q100:((s[tq].toNat:Int)==100)=true:=by simp;omega
     have:(some s[tq]=some (100:UInt8)):=by rw[Option.some.injEq];exact UInt8.toNat_inj.1 h100
     rw[if_pos this] at hq;clear this h100 g1;have HQQ:=hid hq;clear hq hd1 hx1;go_wp2
     go_meet
     have hq:=HQQ.out;cases hq
     rfl
    ·have q100:((s[tq].toNat:Int)==100)=false:=by simp;omega
     have:¬ (some s[tq]=some (100:UInt8)):=by rw[Option.some.injEq];exact fun e=>h100 (by rw[e];rfl)
     rw[if_neg this] at hq;clear this g1;have HQQ:=hid hq;clear hq;have HD1:=hid hd1;have HX1:=hid hx1;clear hd1 hx1;go_wp2
     go_meet
     have hq:=HQQ.out;cases hq
     rw[HD1.out,HX1.out]
   ·have h2':¬ (tq:Int)<(s.size:Int):=by omega
    rw[List.getElem?_eq_none (i:=tq) ga,if_neg gd] at hq;have HQQ:=hid hq;clear hq;have HD1:=hid hd1;have HX1:=hid hx1;clear hd1 hx1;go_wp2
    go_meet
    have hq:=HQQ.out;cases hq
    rw[HD1.out,HX1.out]
  ·have hq:=HQ.out;rw[if_pos rfl] at hq;have hd:=HDOT.out.symm;rw[decide_eq_true_eq] at hd;have h2:tq+1<=s.size:=by
    rcases Nat.lt_or_ge (tq+1) s.data.toList.length with h | h
    ·omega
    ·rw[List.getElem?_eq_none h] at hd;exact absurd hd.2 gd
   have hrr:=yO b s _ (tq+1) _ HR1.out h2 ga;rw[show bL s.data.toList (tq+1) bD=q1 by cases hq;rfl] at hrr;have hqq:q2=true/\q3=false:=by cases hq;exact⟨rfl,rfl⟩
   have HRR:=hid hrr;have HQQ:=hid hqq;have HX1:=hid hx1;clear hq hd hrr hqq hd1 hx1;go_wp2_with (go_at_call 284;refine HRR.out.mono ?_;rintro e w2 ⟨rfl,rfl⟩)
   go_meet
   rw[HQQ.out.1,HQQ.out.2,HX1.out]
 case rest =>
 obtain⟨wR,hwR⟩:=ez wc
 rw[<-hwR] at hcut ⊢;clear hwR;have HRR:=hid (show IsRd wR b s { r with nx:=q1,d:=q2,x:=q3 } from hcut▸dH W b s { r with nx:=q1,d:=q2,x:=q3 } hW ⟨HOK.out.t0,hq1z,HOK.out.p⟩ _ rfl);have HGR:=hid (show((cL W b (rdA s r.nx r.k r.p r.t r.b r.n r.sc r.d r.x r.e r.o))).grownBy wR (some b) from hcut▸bM _ _ _ _);have hq1g:tq<=q1:=by
  have hq:=HQ.out;cases dot
  ·rw[if_neg gc] at hq;split at hq<;>(cases hq;omega)
  ·rw[if_pos rfl] at hq;cases hq
   have:=jD s.data.toList (tq+1) bD;omega
 have hfat:at_<=f:=by rw[HF.out];split<;>omega
 have HQS:=hid (show(q1,q2,q3)=if s.data.toList[tq]?=some 46/\(s.data.toList[tq+1]?.any bD)=true then (bL s.data.toList (tq+1) bD,true,false) else if s.data.toList[tq]?=some 100 then (tq+1,true,true) else (tq,false,false) by
  rw[HQ.out,HDOT.out];simp only[decide_eq_true_eq])
 clear hcut HQ HDOT HR1 HTZ;have HGB:=hid (show b<wR.heap.size from HRR.out.lt);have HC:=hid (fun (w':World) (h:BB wR w')=>(show Ce w' b 0 (.string s)/\Ce w' b 1 (I6 q1) from⟨aA ((h.block b HGB.out).trans HRR.out.at_) 0,aA ((h.block b HGB.out).trans HRR.out.at_) 1⟩));have hs1:(at_:Int)<=(q1:Int):=by omega
 have hs2:(q1:Int)<=(s.size:Int):=by omega
 have hs0:(0:Int)<=(q1:Int):=by omega
 obtain⟨tx,htx⟩:=ez (s.extract at_ q1)
 have htxz:tx.size<=s.size:=by rw[htx,ByteArray.size_extract];omega
 have hts:=fun w'=>Tryz.strings_TrimSuffix tx ⟨#[100]⟩ w' ga;rw[show(⟨#[100]⟩:ByteArray).data.toList=[100] from rfl] at hts;obtain⟨st,hst⟩:=ez (⟨(Lib.trimSuffix tx.data.toList [100]).toArray⟩:ByteArray)
 have hstz:st.size<=s.size:=by
  rw[hst,aU];have h1:tx.data.toList.length=tx.size:=rfl;unfold Lib.trimSuffix;split
  ·rw[List.length_take];omega
  ·omega
 rw[<-hst] at hts;obtain⟨z1,z2,z3,hz⟩:∃(z1:Int) (z2:Nat) (z3:Int),(z1,z2,z3)=kF st.data.toList:=⟨_,_,_,rfl⟩
 have hdp:=fun (w':World) (h:BB wR w')=>aKp st ga w' ((HTB.out.grown HGR.out (.inr rfl)).below h).tabs ((HTB.out.grown HGR.out (.inr rfl)).below h).nums;rw[<-hz] at hdp;dsimp only at hdp;have HZS:=hid (show(z1,z2,z3)=kF (Lib.trimSuffix (s.extract at_ q1).data.toList [100]) by rw[hz,hst,htx]);have HTS:=hid hts;have HDP:=hid hdp;have HTX:=hid htx;have htx2:=htx.symm;have hqe:=HQS.out;clear hz hst hts hdp htxz hstz htx hqe hfat hq1g htqf htqz hfz hq1z;go_upto_region 13 with (fail)
 go_cut [6,7] (fun pv ev wz=>∃N:Nat,pv=.pointer (some ⟨N,0,none⟩)/\ev=I6 z3/\wR.heap.size<=N/\wz.heap[N]?=some (.cells #[I6 z1,I6 (z2:Int)] 221)/\BB wR wz)
 case first =>
  refine wp_region_held_drew (S:=(fun w'=>BB wR w')) ge ((Below.refl _ _).drew) (fun hS=>?_);refine tc 0 HC ?_;refine tc 1 HC ?_;refine tc 2 HC ?_;refine tc 3 HC ?_;refine tc 4 HC ?_;refine tc 5 HC ?_;refine tc 6 HC ?_;refine tc 7 HC ?_;refine tc 8 HC ?_;refine tc 9 HC ?_;refine ry [10,15] ?_;refine AllReadyH.cons (o:=_) rfl (fun K hK=>?_) ?_
  ·go_simp;go_at_call 82;refine(HTS.out _).mono ?_;rintro e w1 ⟨rfl,hw1⟩;obtain rfl:=hw1.symm;refine hK.out _ _ (hS) (fun hS=>?_);clear hK K
   (try simp only[Act.put,pq])
   refine ry [11,15] ?_;refine AllReadyH.cons (o:=_) rfl (fun K hK=>?_) ?_
   ·go_simp;go_at_call 330;refine(HDP.out _ hS).mono ?_;rintro e w2 ⟨rfl,hb2⟩;refine hK.out _ _ (hS.trans (hb2.mono hS.size)) (fun hS=>?_);clear hK K
    (try simp only[Act.put,pq])
    refine tc 12 HC ?_;refine tc 13 HC ?_;refine tc 14 HC ?_;refine yr 15 fun K hK=>?_;go_simp;refine hK.out _ _ (hS.trans (((Below.refl _ _).alloc lr _).mono hS.size)) (fun hS=>?_);clear hK K
    (try simp only[Act.put,pq])
    refine yr 16 fun K hK=>?_;go_simp;refine hK.out _ _ (((Below.refl wR.heap.size wR).drew).trans (hb2.alloc hb2.size _)) (fun hS=>?_);clear hK K
    (try simp only[Act.put,pq])
    refine tc 17 HC ?_;refine wpAnyH_done ge ?_ _
    (try dsimp only)
    have HS2:=hid hS;clear hS;go_wp2
    go_meet
    refine⟨_,rfl,rfl,hb2.size,heap_alloc_new _ _,HS2.out⟩
   refine arQ fun K hK=>?_;go_simp;refine hK.out _ _ (hS.trans (((Below.refl _ _).alloc lr _).mono hS.size)) (fun hS=>?_);clear hK K
   (try simp only[Act.put,pq])
   refine yr 11 fun K hK=>?_;go_simp;go_at_call 330;refine(HDP.out _ hS).mono ?_;rintro e w2 ⟨rfl,hb2⟩;refine hK.out _ _ (hS.trans (hb2.mono hS.size)) (fun hS=>?_);clear hK K
   (try simp only[Act.put,pq])
   refine tc 12 HC ?_;refine tc 13 HC ?_;refine tc 14 HC ?_;refine yr 16 fun K hK=>?_;have hB:w2.heap[wR.heap.size]?=some (.cells #[I6 0,I6 0] 221):=aB hb2 (heap_alloc_new wR.drew _);have z0:=aA hB 0;have z1':=aA hB 1;have y0:=aC hB 0;have y1:=aC hB 1
   (try dsimp only at z0 z1')
   have HB:=hid hB;clear hB;go_simp;refine hK.out _ _ ((hS.setCell (p:=⟨wR.heap.size,0,none⟩) lr _).setCell (p:=⟨wR.heap.size,1,none⟩) lr _) (fun hS=>?_);clear hK K
   (try simp only[Act.put,pq])
   refine tc 17 HC ?_;refine wpAnyH_done ge ?_ _
   (try dsimp only)
   have HS2:=hid hS;clear hS;go_wp2
   go_meet
   exact⟨_,rfl,rfl,Nat.le_refl _,aE (o:=1) (I6 (z2:Int)) (aE (o:=0) (I6 z1) HB.out),HS2.out⟩
  refine arQ fun K hK=>?_;go_simp;refine hK.out _ _ (hS.trans (((Below.refl _ _).alloc lr _).mono hS.size)) (fun hS=>?_);clear hK K
  (try simp only[Act.put,pq])
  refine yr 10 fun K hK=>?_;go_simp;go_at_call 82;refine(HTS.out _).mono ?_;rintro e w1 ⟨rfl,hw1⟩;obtain rfl:=hw1.symm;refine hK.out _ _ (hS) (fun hS=>?_);clear hK K
  (try simp only[Act.put,pq])
  refine yr 11 fun K hK=>?_;go_simp;go_at_call 330;refine(HDP.out _ hS).mono ?_;rintro e w2 ⟨rfl,hb2⟩;refine hK.out _ _ (hS.trans (hb2.mono hS.size)) (fun hS=>?_);clear hK K
  (try simp only[Act.put,pq])
  refine tc 12 HC ?_;refine tc 13 HC ?_;refine tc 14 HC ?_;refine yr 16 fun K hK=>?_;have hB:w2.heap[wR.heap.size]?=some (.cells #[I6 0,I6 0] 221):=aB hb2 (heap_alloc_new wR.drew _);have z0:=aA hB 0;have z1':=aA hB 1;have y0:=aC hB 0;have y1:=aC hB 1
  (try dsimp only at z0 z1')
  have HB:=hid hB;clear hB;go_simp;refine hK.out _ _ ((hS.setCell (p:=⟨wR.heap.size,0,none⟩) lr _).setCell (p:=⟨wR.heap.size,1,none⟩) lr _) (fun hS=>?_);clear hK K
  (try simp only[Act.put,pq])
  refine tc 17 HC ?_;refine wpAnyH_done ge ?_ _
  (try dsimp only)
  have HS2:=hid hS;clear hS;go_wp2
  go_meet
  exact⟨_,rfl,rfl,Nat.le_refl _,aE (o:=1) (I6 (z2:Int)) (aE (o:=0) (I6 z1) HB.out),HS2.out⟩
 case rest =>
 obtain⟨N,rfl,rfl,hNge,hN6,hb6⟩:=hcut;obtain⟨w6,hw6⟩:=ez wc
 rw[<-hw6] at hN6 hb6 ⊢;clear hw6;have HR6:=hid (HRR.out.grown (aQ hb6 none) gd);have HG6:=hid (HGR.out.trans (aQ hb6 (some b)));have hNb:N≠b:=by have:=HGB.out;omega
 have HNB:=hid hNb;have HN6:=hid hN6;have HNL:=hid (show N<w6.heap.size by
  rcases Nat.lt_or_ge N w6.heap.size with q | q
  ·exact q
  ·rw[Array.getElem?_eq_none q] at hN6;cases hN6)
 clear hNge hN6 hb6 hNb HTS HDP HC;by_cases h3:z3=0
 ·subst h3;go_upto_region 16 with (fail)
  have HR7:=HR6;have HG7:=HG6;have HN7:=HN6;have HNL7:=HNL;clear HR6 HG6 HN6 HNL;obtain⟨r2,hr2⟩:=ez ({ r with nx:=q1,d:=q2,x:=q3 }:Rd)
  rw[<-hr2] at HR7;have HSP:=hid (show iN s.data.toList s at_ r={ r2 with k:=2,n:=z1,sc:=z2 } by
   rw[hr2];unfold iN;dsimp only;rw[<-HF.out,<-HTQ.out,if_neg HNE.out,<-HQS.out];dsimp only;rw[<-HZS.out];dsimp only;rw[if_neg gd])
  clear hr2;obtain⟨W2,hW2,hw2⟩:=HR7.out.put;subst hw2;have HC16:=hid (fun (w':World) (h:w'.heap[N]?=some (.cells #[I6 z1,I6 (z2:Int)] 221))=>(show Ce w' N 0 (I6 z1)/\Ce w' N 1 (I6 (z2:Int)) from⟨aA h 0,aA h 1⟩));refine wp_region_held_drew (S:=(fun w'=>w'.heap[N]?=some (.cells #[I6 z1,I6 (z2:Int)] 221))) ge (HN7.out) (fun hS=>?_);refine tc 0 HC16 ?_;refine tc 1 HC16 ?_;refine tc 2 HC16 ?_;refine tc 3 HC16 ?_;refine tc 4 HC16 ?_;refine tc 5 HC16 ?_;refine yr 6 fun K hK=>?_;go_simp;refine hK.out _ _ ((aI W2 b _ N HNB.out).trans ((aI W2 b _ N HNB.out).symm.trans HN7.out)) (fun hS=>?_);clear hK K
  (try simp only[Act.put,pq])
  refine tc 7 HC16 ?_;refine tc 8 HC16 ?_;refine tc 9 HC16 ?_;refine yr 10 fun K hK=>?_;go_simp;refine hK.out _ _ ((aI W2 b _ N HNB.out).trans ((aI W2 b _ N HNB.out).symm.trans HN7.out)) (fun hS=>?_);clear hK K
  (try simp only[Act.put,pq])
  refine wpAnyH_done ge ?_ _
  (try dsimp only)
  clear hS;go_wp2;refine bodyPost_end (results_none rfl _ _ _) rfl ?_;refine⟨rfl,?_,HG7.out.trans ((bM _ _ _ _).trans ⟨rfl,rfl,rfl,Nat.le_refl _,fun _ _ _=>rfl⟩)⟩;rw[HSP.out];exact(dH W2 b s { r2 with k:=2,n:=z1,sc:=z2 } hW2 ⟨(fun e=>nomatch e),HR7.out.ok.nx,HR7.out.ok.p⟩ _ rfl).grown (row:=none) ⟨rfl,rfl,rfl,Nat.le_refl _,fun _ _ _=>rfl⟩ gd
 ·have HFL:=hid (bC b s _ at_ z3 w6 HR6.out);go_upto_region 16 with (go_at_call 232;refine HFL.out.mono ?_;rintro e w7 ⟨rfl,h7,hg7⟩;have HR7:=hid h7;have HG7:=hid (HG6.out.trans hg7);have HN7:=hid ((hg7.block N HNL.out (by intro e;cases e;exact HNB.out rfl)).trans HN6.out);have HNL7:=hid (Nat.lt_of_lt_of_le HNL.out hg7.size);clear h7 hg7)
  have HH3:=hid h3;clear h3;obtain⟨r2,hr2⟩:=ez (Rd.fail { r with nx:=q1,d:=q2,x:=q3 } at_ z3:Rd)
  rw[<-hr2] at HR7;have HSP:=hid (show iN s.data.toList s at_ r={ r2 with k:=2,n:=z1,sc:=z2 } by
   rw[hr2];unfold iN;dsimp only;rw[<-HF.out,<-HTQ.out,if_neg HNE.out,<-HQS.out];dsimp only;rw[<-HZS.out];dsimp only;rw[if_pos HH3.out])
  clear hr2;obtain⟨W2,hW2,hw2⟩:=HR7.out.put;subst hw2;have HC16:=hid (fun (w':World) (h:w'.heap[N]?=some (.cells #[I6 z1,I6 (z2:Int)] 221))=>(show Ce w' N 0 (I6 z1)/\Ce w' N 1 (I6 (z2:Int)) from⟨aA h 0,aA h 1⟩));refine wp_region_held_drew (S:=(fun w'=>w'.heap[N]?=some (.cells #[I6 z1,I6 (z2:Int)] 221))) ge (HN7.out) (fun hS=>?_);refine tc 0 HC16 ?_;refine tc 1 HC16 ?_;refine tc 2 HC16 ?_;refine tc 3 HC16 ?_;refine tc 4 HC16 ?_;refine tc 5 HC16 ?_;refine yr 6 fun K hK=>?_;go_simp;refine hK.out _ _ ((aI W2 b _ N HNB.out).trans ((aI W2 b _ N HNB.out).symm.trans HN7.out)) (fun hS=>?_);clear hK K
  (try simp only[Act.put,pq])
  refine tc 7 HC16 ?_;refine tc 8 HC16 ?_;refine tc 9 HC16 ?_;refine yr 10 fun K hK=>?_;go_simp;refine hK.out _ _ ((aI W2 b _ N HNB.out).trans ((aI W2 b _ N HNB.out).symm.trans HN7.out)) (fun hS=>?_);clear hK K
  (try simp only[Act.put,pq])
  refine wpAnyH_done ge ?_ _
  (try dsimp only)
  clear hS;go_wp2;refine bodyPost_end (results_none rfl _ _ _) rfl ?_;refine⟨rfl,?_,HG7.out.trans ((bM _ _ _ _).trans ⟨rfl,rfl,rfl,Nat.le_refl _,fun _ _ _=>rfl⟩)⟩;rw[HSP.out];exact(dH W2 b s { r2 with k:=2,n:=z1,sc:=z2 } hW2 ⟨(fun e=>nomatch e),HR7.out.ok.nx,HR7.out.ok.p⟩ _ rfl).grown (row:=none) ⟨rfl,rfl,rfl,Nat.le_refl _,fun _ _ _=>rfl⟩ gd
end
section
open Go Go.RowKit Go.Shelf
attribute [local go_sem] cJ eW cK dF bP bW
abbrev tokV (r:Rd):Value:=.agg #[I6 r.k,I6 r.p,.string r.t,.string r.b,I6 r.n,I6 r.sc,.bool r.d,.bool r.x]
theorem adv_bad (b:Nat) (s:ByteArray) (r:Rd) (w:World) (h:IsRd w b s r) (he:r.e≠0) :
 CP 233 #[.pointer (some ⟨b,0,none⟩)] w fun x w'=>x=.returned (tokV r)/\IsRd w' b s (r.adv s)/\w.grownBy w' (some b):=by
 have HS:=hid (show r.adv s=r by unfold Rd.adv;rw[if_pos he]);have HR:=hid h;obtain⟨W,hW,hw⟩:=h.put;clear h;subst hw;go_enter Tryz.func233,Tryz.ntmps233
 go_wp2;refine bodyPost_ret (v:=tokV r) (by simp[results,Tryz.results233,go_sem]) rfl ?_;refine⟨rfl,?_,?_⟩
 ·rw[HS.out];exact(HR.out.alloc _).alloc _
 ·exact(World.grownBy_alloc _ _ _).trans (World.grownBy_alloc _ _ _)
end
section
open Go Go.RowKit Go.Shelf
abbrev tokA (r:Rd):Array Value:=#[I6 r.k,I6 r.p,.string r.t,.string r.b,I6 r.n,I6 r.sc,.bool r.d,.bool r.x]
abbrev tokO (r:Rd):Obj:=.cells (tokA r) 223
abbrev tokZ:Obj:=.cells #[I6 0,I6 0,.string ⟨#[]⟩,.string ⟨#[]⟩,I6 0,I6 0,.bool false,.bool false] 223
theorem aCe (b o j:Nat):(⟨b,o,none⟩:Addr).add j=⟨b,o+j,none⟩:=by unfold Addr.add;split<;>simp_all
theorem kV {w:World} {N:Nat} {r:Rd} {t:TypeId} {fr:Nat × Nat} (h:w.heap[N]?=some (.cells (tokA r) t fr)):(loadCellsFrom ⟨N,0,none⟩ 0 8 #[]).run Tryz.prog w=.ok (tokA r) w:=by
 have:=run_loadCells_list (P:=Tryz.prog) w ⟨N,0,none⟩ (tokA r).toList (fun j v hv=>by
  rw[aCe,Nat.zero_add,aA h j];simpa using hv)
 exact this
theorem ld_rd {w:World} {b:Nat} {s:ByteArray} {r:Rd} (h:IsRd w b s r):(loadCellsFrom ⟨b,2,none⟩ 0 8 #[]).run Tryz.prog w=.ok (tokA r) w:=by
 have:=run_loadCells_list (P:=Tryz.prog) w ⟨b,2,none⟩ (tokA r).toList (fun j v hv=>by
  have hj:j<8:=(List.getElem?_eq_some_iff.1 hv).1;rw[aCe,aA h.at_ (2+j),<-hv];have:j=0\/j=1\/j=2\/j=3\/j=4\/j=5\/j=6\/j=7:=by omega
  rcases this with rfl | rfl | rfl | rfl | rfl | rfl | rfl | rfl<;>rfl)
 exact this
theorem aAu {w:World} {N:Nat} {cur:Array Value} (h:w.heap[N]?=some (.cells cur 223 (0,0))) (hc:cur.size=8) (r:Rd) :
 (storeCells ⟨N,0,none⟩ [I6 r.k,I6 r.p,.string r.t,.string r.b,I6 r.n,I6 r.sc,.bool r.d,.bool r.x] 0).run Tryz.prog w=.ok () (w.setRow N (tokA r)):=by
 have:=run_storeCells_from (P:=Tryz.prog) N 223 [I6 r.k,I6 r.p,.string r.t,.string r.b,I6 r.n,I6 r.sc,.bool r.d,.bool r.x] 0 cur w h (by rw[hc];rfl) gm
 simpa using this
theorem infoTok:(Tryz.prog.info? 223).map (·.size)=some 8:=by kernel_rfl
theorem lB (w:World) (z:Array Value) (hz:z.size=8) (r:Rd) :
 (storeCells ⟨w.heap.size,0,none⟩ [I6 r.k,I6 r.p,.string r.t,.string r.b,I6 r.n,I6 r.sc,.bool r.d,.bool r.x] 0).run Tryz.prog (w.alloc (.cells z 223))=.ok () (w.alloc (tokO r)):=by
 have:=run_storeCells_new (P:=Tryz.prog) w 223 z (tokA r) (by rw[infoTok];rfl) (by rw[hz];rfl) gm;exact this
theorem aD6 (w:World) (b:Nat) (cs cs':Array Value):(cL w b cs).setRow b cs'=cL w b cs':=by
 unfold World.setRow cL;congr 1;apply Array.ext_getElem?;intro k;simp only[Array.getElem?_modify,Array.getElem?_setIfInBounds];by_cases hk:b=k
 ·subst hk;by_cases hb:b<w.heap.size<;>simp[hb]
 ·simp[hk]
theorem st_rd {W:World} {b:Nat} (hb:b<W.heap.size) (s:ByteArray) (nx k0 p0:Int) (t0 b0:ByteArray) (n0 sc0:Int) (d0 x0:Bool) (e o:Int) (k p:Int) (t q:ByteArray) (n sc:Int) (d x:Bool) :
 (storeCells ⟨b,2,none⟩ [I6 k,I6 p,.string t,.string q,I6 n,I6 sc,.bool d,.bool x] 0).run Tryz.prog (cL W b (rdA s nx k0 p0 t0 b0 n0 sc0 d0 x0 e o))=.ok () (cL W b (rdA s nx k p t q n sc d x e o)):=by
 have:=run_storeCells_at (P:=Tryz.prog) b 2 225 [I6 k,I6 p,.string t,.string q,I6 n,I6 sc,.bool d,.bool x] 0 (rdA s nx k0 p0 t0 b0 n0 sc0 d0 x0 e o) (cL W b (rdA s nx k0 p0 t0 b0 n0 sc0 d0 x0 e o)) (lV W b _ hb) gd gm;rw[this,aD6];rfl
/-! ### the next token,by its first byte -/
def r1F (a:Nat) (o:Nat):Rd:=⟨a,0,a,⟨#[]⟩,⟨#[]⟩,0,0,false,false,0,o⟩
def jZ (s:ByteArray) (a o:Nat) (c:UInt8):Rd :=
 if c.toNat=34 then gQ s.data.toList a (r1F a o) else if c.toNat=120/\Lib.hasPrefix (s.data.toList.drop a) [120,34]=true then iZ s.data.toList a (r1F a o) else if mP c then { r1F a o with nx:=bL s.data.toList a lN,k:=1 }
  else if bD c||c.toNat==45 then iN s.data.toList s a (r1F a o) else if Lib.hasPrefix (s.data.toList.drop a) [46,46] then { r1F a o with nx:=a+2,k:=5 } else if symL.contains c then { r1F a o with nx:=a+1,k:=5 } else (r1F a o).fail a 13
def kX (s:ByteArray) (a:Nat) (r2:Rd):Rd:=if r2.e=0 then { r2 with t:=s.extract a r2.nx } else r2
theorem oI {s:ByteArray} {r:Rd} (he:r.e=0) (h:s.data.toList[bL s.data.toList r.nx spC]?=none):r.adv s=r1F (bL s.data.toList r.nx spC) r.o:=by
 unfold Rd.adv;rw[if_neg (by simp[he])];dsimp only;rw[h];rfl
theorem oH {s:ByteArray} {r:Rd} {c:UInt8} (he:r.e=0) (h:s.data.toList[bL s.data.toList r.nx spC]?=some c):r.adv s=kX s (bL s.data.toList r.nx spC) (jZ s (bL s.data.toList r.nx spC) r.o c):=by
 unfold Rd.adv;rw[if_neg (by simp[he])];dsimp only;rw[h];rfl
def aAd (s:ByteArray) (a:Nat) (r2:Rd):Prop:=a<=r2.nx/\(r2.e=0->r2.k≠0)
theorem mF (r:Rd) (p:Nat) (e:Int):(r.fail p e).nx=r.nx:=by unfold Rd.fail;split<;>rfl
theorem nU:∀(f:Nat) (l:List UInt8) (i:Nat) (acc:List UInt8) (j:Nat) (e:Int),cE f l i acc=.inr (some (j,e))->e≠0
 | 0,_,_,_,_,_,h=>by simp[cE] at h
 | _+1,[],_,_,_,_,h=>by simp[cE] at h
 | f+1,c :: l,i,acc,j,e,h=>by
   unfold cE at h;split at h
   ·cases h
   split at h
   ·cases h;decide
   split at h
   ·exact nU f _ _ _ _ _ h
   split at h
   ·cases h
   dsimp only at h;split at h
   ·rename_i hne;cases h;exact hne
   ·exact nU f _ _ _ _ _ h
theorem aI5 (s:ByteArray) (a o:Nat):aAd s a (gQ s.data.toList a (r1F a o)):=by
 unfold gQ;split
 ·rename_i i b h;have:=pS _ _ _ _ _ _ h;exact⟨by dsimp only;omega,fun _=>by simp⟩
 ·rename_i i e h;refine⟨by rw[mF];exact Nat.le_refl _,fun he=>?_⟩;have hne:e≠0:=nU _ _ _ _ _ _ h;exact absurd he (Rd.fail_e _ _ _ hne)
 ·refine⟨by rw[mF];exact Nat.le_refl _,fun he=>absurd he (Rd.fail_e _ _ _ gc)⟩
theorem aI7 (s:ByteArray) (a o:Nat):aAd s a (iZ s.data.toList a (r1F a o)):=by
 unfold iZ;split
 ·rename_i i b h;have:=(qX _ _ _ _ _ _ h).1;exact⟨by dsimp only;omega,fun _=>by simp⟩
 ·refine⟨by rw[mF];exact Nat.le_refl _,fun he=>absurd he (Rd.fail_e _ _ _ gc)⟩
 ·refine⟨by rw[mF];exact Nat.le_refl _,fun he=>absurd he (Rd.fail_e _ _ _ gc)⟩
theorem aI6 (s:ByteArray) (a o:Nat):aAd s a (iN s.data.toList s a (r1F a o)):=by
 unfold iN;dsimp only;have h1:a<=(if s.data.toList[a]?=some 45 then a+1 else a):=by split<;>omega
 obtain⟨f,hf⟩:=ez ((if s.data.toList[a]?=some 45 then a+1 else a))
 rw[<-hf] at h1 ⊢;have h2:=jD s.data.toList f bD;obtain⟨tq,htq⟩:=ez (bL s.data.toList f bD)
 rw[<-htq] at h2 ⊢;have h3:=jD s.data.toList (tq+1) bD;split
 ·exact⟨by rw[mF];exact Nat.le_refl _,fun he=>absurd he (Rd.fail_e _ _ _ gc)⟩
 ·obtain⟨q,hq⟩:=ez ((if s.data.toList[tq]?=some 46/\(s.data.toList[tq+1]?.any bD)=true then (bL s.data.toList (tq+1) bD,true,false) else if s.data.toList[tq]?=some 100 then (tq+1,true,true) else (tq,false,false)))
  rw[<-hq];have h4:tq<=q.1:=by
   rw[hq];split
   ·dsimp only;omega
   ·split<;>dsimp only<;>omega
  refine⟨?_,fun _=>by simp⟩;dsimp only;split
  ·rw[mF];dsimp only;omega
  ·dsimp only;omega
theorem fin_ok {s:ByteArray} {a:Nat} {r2:Rd} (h:r2.Ok s) (hm:aAd s a r2):(kX s a r2).Ok s:=by
 unfold kX;split
 ·rename_i he;exact⟨fun hk=>absurd hk (hm.2 he),h.nx,h.p⟩
 ·exact h
end
end Go.Proofs.YtmgpghoamapfgaaGreatDoor
