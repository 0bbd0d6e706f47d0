/- A part. -/
import Derived.Test.YtoodnaghjpkjfaaGreatDoorSE8Mrg
import Derived.Test.YtoodnaghjpkjfaaGreatDoorSE3Mrg
import Derived.OneCell
import Derived.OrdersIn
import Derived.TacticsIn
import Derived.Maps.OwnIn
namespace Go.Proofs.YtoodnaghjpkjfaaGreatDoor
set_option linter.unusedVariables false
set_option linter.unusedSimpArgs false
open Go Go.RowKit Go.Shelf
section
def aM7 (ops:Array Oper):Nat->Nat->List Nat
 | 0,_=>[]
 | f+1,j=>match ops[j]? with
   | none=>[]
   | some o=>o.after.toList.flatMap λe=>if Region.binds .any e=true then e.on :: aM7 ops f e.on else []
def oT (ops:Array Oper) (m:Nat):Bool:=(List.range ops.size).all λj=>match ops[j]? with
 | none=>true
 | some o=>(o.after.all λe=>decide (e.on<j))&&(decide (j<m)||(o.guard.isNone&&(List.range j).all λi=>(aM7 ops ops.size j).contains i))
def Clo (ops:Array Oper) (L:Array Bool):Prop:=∀(j:Nat) (o:Oper),ops[j]?=some o->L.getD j false=true->∀e∈o.after,Region.binds .any e=true->L.getD e.on false=true
theorem qY {ops:Array Oper} {L:Array Bool} (hc:Clo ops L):∀(f j:Nat) (o:Oper),ops[j]?=some o->(∀e∈o.after,Region.binds .any e=true->L.getD e.on false=true)->∀i∈aM7 ops f j,L.getD i false=true
 | 0,_,_,_,_,i,hi=>by simp[aM7] at hi
 | f+1,j,o,ho,hd,i,hi=>by
   simp only[aM7,ho,List.mem_flatMap] at hi;obtain⟨e,he,hi⟩:=hi;have ab:e∈o.after:=by simpa using he
   split at hi
   ·rename_i hb;have hl:=hd e ab hb;rcases List.mem_cons.1 hi with rfl|hi
    ·exact hl
    ·cases aa:ops[e.on]? with
     | none =>
       cases f with
       | zero=>simp[aM7] at hi
       | succ f=>simp[aM7,aa] at hi
     | some o2=>exact qY hc f e.on o2 aa (hc e.on o2 aa hl) i hi
   ·cases hi
section
variable {P:Program} {ops:Array Oper} {Q:Exit->Act->World->Prop}
theorem fP {m j:Nat} {o:Oper} (h:oT ops m=true) (ho:ops[j]?=some o) :
 (∀e∈o.after,e.on<j)/\(m<=j->o.guard=none/\∀i<j,i∈aM7 ops ops.size j):=by
 have hj:j<ops.size:=(Array.getElem?_eq_some_iff.1 ho).1;simp only[oT,oc,List.mem_range] at h;have h1:=h j hj;simp only[ho,kg,qo,jw,o6,oc,List.mem_range] at h1;refine⟨λe he=>h1.1 e he,λhm=>?_⟩;rcases h1.2 with h2|⟨h2,h3⟩
 ·omega
 ·exact⟨by simpa using h2,λi hi=>by have:=h3 i hi;simpa using this⟩
theorem aDe {m:Nat} (ah:oT ops m=true):∀(k j:Nat) (aa:Array Bool) (a:Act) (w:World),m<=j->j+k=ops.size->aa.size=ops.size->(∀i,i<j->aa.getD i false=true)->(∀i,j<=i->i<ops.size->aa.getD i true=false) ->
 wpOps P ops Q (List.range' j k) a w->wpAny P .any ops Q k aa a w:=by
 intro k
 induction k with
 | zero =>
   intro j aa a w hm hj ag ab ae h;refine⟨?_,by simpa [wpOps] using h⟩;refine List.eq_nil_iff_forall_not_mem.2 λi hi=>?_;obtain⟨h0,o,ho,_⟩:=mem_ready.1 hi;have an:i<ops.size:=(Array.getElem?_eq_some_iff.1 ho).1;have h1:=ab i ga;have hs:i<aa.size:=ga
   simp only[jf,jc hs,kq] at h0 h1;rw[h0] at h1;cases h1
 | succ k ih =>
   intro j aa a w hm hj ag ab ae h;have af:j<ops.size:=ga
   have ac:Region.ready .any ops aa=[j]:=by
    have ad:∀i,i∈Region.ready .any ops aa ↔ i=j:=by
     intro i;constructor
     ·intro hi;obtain⟨h0,o,ho,aj⟩:=mem_ready.1 hi;have an:i<ops.size:=(Array.getElem?_eq_some_iff.1 ho).1;rcases Nat.lt_trichotomy i j with hlt|heq|hgt
      ·have h1:=ab i hlt;have hs:i<aa.size:=ga
       simp only[jf,jc hs,kq] at h0 h1;rw[h0] at h1;cases h1
      ·exact heq
      ·have am:Clo ops aa:=λt ot hot hl e he _=>by
        have ao:t<j:=by
         rcases mf t j with h|h
         ·exact h
         ·have ai:t<ops.size:=(Array.getElem?_eq_some_iff.1 hot).1;have h2:=ae t h ai;have hs:t<aa.size:=ga
          simp only[jf,jc hs,kq] at hl h2;rw[h2] at hl;cases hl
        exact ab _ (Nat.lt_trans ((fP ah hot).1 e he) ao)
       have h1:=qY am _ i o ho aj j (((fP ah ho).2 ga).2 j hgt);have h2:=ae j lr af;have hs:j<aa.size:=ga
       simp only[jf,jc hs,kq] at h1 h2;rw[h2] at h1;cases h1
     ·rintro rfl;refine mem_ready.2 ⟨ae i lr af,_,jc af,λe he _=>ab _ ((fP ah (jc af)).1 e he)⟩
    have ak:(Region.ready .any ops aa).Nodup:=List.filter_sublist.nodup List.nodup_range;cases hr:Region.ready .any ops aa with
    | nil=>have:=(ad j).2 rfl;rw[hr] at this;cases this
    | cons x xs =>
      rw[hr] at ad ak;obtain rfl:x=j:=(ad x).1 ge;cases xs with
      | nil=>rfl
      | cons y ys =>
        obtain rfl:y=x:=(ad y).1 ge;simp at ak
   refine⟨λh0=>(by rw[ac] at h0;cases h0),λi hi=>?_⟩;rw[ac] at hi;obtain rfl:i=j:=by simpa using hi
   rw[List.range'_succ,wpOps_cons] at h;refine lh (λa' w' h'=>ih (i+1) _ a' w' ga ga (by simp[ag]) ?_ ?_ h') h
   ·intro t ht;by_cases al:i=t
    ·subst al;simp[jf,ag,af]
    ·rw[nt false al];exact ab t ga
   ·intro t ht ai;rw[nt true ga];exact ae t ga ai
end
section
variable {P:Program} {l:List Oper} {Q:Exit->Act->World->Prop}
theorem aBp {m:Nat} (am:oT l.toArray m=true) (ay:mI l m=true) (hm:m<=l.length):∀(aa:Nat) (L1 L:Array Bool) (a:Act) (w:World),L1.size=m->L.size=l.length->(∀i,i<m->L[i]?=L1[i]?)->(∀i,m<=i->i<l.length->L.getD i true=false)->Clo l.toArray L ->
 wpAny P .any (l.take m).toArray (λe a w=>match e with | .normal=>wpOps P l.toArray Q (List.range' m (l.length-m)) a w|e=>Q e a w) aa L1 a w->wpAny P .any l.toArray Q (aa+(l.length-m)) L a w:=by
 have ag:∀(j:Nat) (o:Oper),(l.take m).toArray[j]?=some o->∀e∈o.after,e.on<j:=λj o ho=>by
  have:l.toArray[j]?=some o:=by
   simp only[nf,mw] at ho ⊢;split at ho
   ·exact ho
   ·cases ho
  exact(fP am this).1
 have ai:∀i,i<m->∀o,l[i]?=some o->∀g,o.guard=some g->g.1<m:=by
  intro i hi o ho g hg;have ap:o∈l.take m:=List.mem_of_getElem? (i:=i) (by simp[hi,ho]);have:=List.all_eq_true.1 ay o ap
  simpa [hg] using this
 have a4:(l.take m).toArray.size=m:=by simp;omega
 have af:∀(aa:Nat) (L1 L:Array Bool) (a:Act) (w:World),L1.size=m->L.size=l.length->(∀i,i<m->L[i]?=L1[i]?)->(∀i,m<=i->i<l.length->L.getD i true=false) ->
  Region.ready .any (l.take m).toArray L1=[]->wpOps P l.toArray Q (List.range' m (l.length-m)) a w->wpAny P .any l.toArray Q (l.length-m) L a w:=by
  intro aa L1 L a w h1 h2 h3 h4 hr h;refine aDe am _ m L a w lr gi (by simpa using h2) ?_ ?_ h
  ·intro i hi;have an:i<L1.size:=ga
   by_cases av:L1.getD i true=false
   ·exact absurd hr (mT ag ga ga av)
   ·simp only[jf,h3 i hi,jc an,kq] at av ⊢
    simpa using av
  ·intro i hi aw;exact h4 i hi (by simpa using aw)
 have ad:∀(L1 L:Array Bool),L1.size=m->L.size=l.length->(∀i,i<m->L[i]?=L1[i]?)->(∀i,m<=i->i<l.length->L.getD i true=false)->Clo l.toArray L->Region.ready .any (l.take m).toArray L1≠[] ->
  ∀i,i∈Region.ready .any l.toArray L->i<m/\i∈Region.ready .any (l.take m).toArray L1:=by
  intro L1 L h1 h2 h3 h4 ac aj i hi;obtain⟨h0,o,ho,ab⟩:=mem_ready.1 hi;have ar:i<l.length:=by have:=(Array.getElem?_eq_some_iff.1 ho).1;simpa using this
  have hD:∀(t:Nat) d,t<m->L.getD t d=L1.getD t d:=λt d ht=>by simp only[jf,h3 t ht]
  by_cases ah:i<m
  ·refine⟨ah,mem_ready.2 ⟨by rw[<-hD i true ah];exact h0,o,?_,λe he hb=>?_⟩⟩
   ·simp only[nf,mw,ah,je] at ho ⊢;exact ho
   ·have a3:=(fP am ho).1 e he;rw[<-hD e.on false ga];exact ab e he hb
  ·exfalso;apply aj;refine List.eq_nil_iff_forall_not_mem.2 λt ht=>?_;obtain⟨g0,ot,ae,_⟩:=mem_ready.1 ht;have al:t<m:=by have:=(Array.getElem?_eq_some_iff.1 ae).1;omega
   have h5:=qY ac _ i o ho ab t (((fP am ho).2 ga).2 t ga);rw[hD t false al] at h5;have hs:t<L1.size:=ga
   simp only[jf,jc hs,kq] at h5 g0;rw[g0] at h5;cases h5
 intro aa
 induction aa with
 | zero =>
   intro L1 L a w h1 h2 h3 h4 ac h;rw[ir];exact af 0 L1 L a w h1 h2 h3 h4 h.1 h.2
 | succ aa ih =>
   intro L1 L a w h1 h2 h3 h4 ac h;by_cases aj:Region.ready .any (l.take m).toArray L1=[]
   ·have h5:=af 0 L1 L a w h1 h2 h3 h4 aj (h.1 aj)
    -- with more aa than is wanted
    have more:∀(n k:Nat) (L:Array Bool) (a:Act) (w:World),wpAny P .any l.toArray Q n L a w->wpAny P .any l.toArray Q (n+k) L a w:=by
     intro n
     induction n with
     | zero =>
       intro k L a w h;cases k with
       | zero=>exact h
       | succ k=>rw[ir];exact⟨λ_=>h.2,λi hi=>by rw[h.1] at hi;cases hi⟩
     | succ n ihn =>
       intro k L a w h;rw[show n+1+k=(n+k)+1 by omega];exact⟨h.1,λi hi=>lh (λa' w' h'=>ihn k _ a' w' h') (h.2 i hi)⟩
    rw[show aa+1+(l.length-m)=(l.length-m)+(aa+1) by omega];exact more _ _ _ _ _ h5
   ·rw[show aa+1+(l.length-m)=(aa+(l.length-m))+1 by omega];have au:=ad L1 L h1 h2 h3 h4 ac aj;refine⟨λh0=>?_,λi hi=>?_⟩
    ·-- something of the first part may come up here too
     exfalso;obtain⟨t,ht⟩:=List.exists_mem_of_ne_nil _ aj;obtain⟨g0,ot,ae,ab⟩:=mem_ready.1 ht;have al:t<m:=by have:=(Array.getElem?_eq_some_iff.1 ae).1;omega
     have aq:l.toArray[t]?=some ot:=by simp only[nf,mw,al,je] at ae ⊢;exact ae
     have hD:∀(s:Nat) d,s<m->L.getD s d=L1.getD s d:=λs d hs=>by simp only[jf,h3 s hs]
     have:t∈Region.ready .any l.toArray L:=mem_ready.2 ⟨by rw[hD t true al];exact g0,ot,aq,λe he hb=>by
      have a3:=ag t ot ae e he;rw[hD e.on false ga];exact ab e he hb⟩
     rw[h0] at this;cases this
    ·obtain⟨ah,an⟩:=au i hi;have h6:=sP ah (ai i ah) (Q:=λe a w=>match e with | .normal=>wpOps P l.toArray Q (List.range' m (l.length-m)) a w|e=>Q e a w) (h.2 i an);have h7:wpOp P l.toArray Q i (wpAny P .any (l.take m).toArray (λe a w=>match e with | .normal=>wpOps P l.toArray Q (List.range' m (l.length-m)) a w|e=>Q e a w) aa (L1.setIfInBounds i true)) a w:=by
      unfold wpOp at h6 ⊢;cases ho:l.toArray[i]? with
      | none=>simpa [ho] using h6
      | some o =>
        simp only[ho] at h6 ⊢;split
        ·rename_i hw;simp only[hw,je] at h6;rcases h6 with h6|⟨h6,h8⟩
         ·refine .inl ?_;unfold Oper.wp at h6 ⊢;generalize (execOp a.eval o).run P w=r at h6 ⊢;cases r with
          | ok n w' =>
            cases n<;>simp only[Oper.upon] at h6 ⊢ <;> first
             | exact h6
             | (refine Calls.mono h6 λe w'' he=>?_
                cases e<;>first|exact he|(obtain⟨a0,w0,hq⟩:=he;exact⟨a0,w0,hq⟩))
          | halt x w'=>cases x<;>simp only[Oper.upon] at h6 ⊢ <;> exact h6
         ·exact .inr ⟨h6,h8⟩
        ·rename_i hw;simp only[hw] at h6;exact h6
     refine lh (λa' w' h8=>ih (L1.setIfInBounds i true) (L.setIfInBounds i true) a' w' (by simp[h1]) (by simp[h2]) ?_ ?_ ?_ h8) h7
     ·intro t ht;by_cases ak:i=t
      ·subst ak;have:i<L.size:=ga
       simp[h1,ah,this]
      ·simp[Array.getElem?_setIfInBounds_ne ak,h3 t ht]
     ·intro t ht az;rw[nt true ga];exact h4 t ht az
     ·intro t ot ae hl e he hb;have a2:(L.setIfInBounds i true).getD e.on false=true ↔ (i=e.on/\i<L.size)\/L.getD e.on false=true:=by
       simp only[jf,mq];by_cases ao:i=e.on
       ·by_cases ar:e.on<L.size
        ·simp[ao,ar]
        ·simp[ao,ar]
       ·simp[ao]
      rw[a2];by_cases ak:i=t
      ·subst ak;obtain⟨_,o2,ax,ab⟩:=mem_ready.1 hi;obtain rfl:=jp (ax.symm.trans ae);exact .inr (ab e he hb)
      ·have a1:L.getD t false=true:=by
        simp only[jf,mq,f9 ak] at hl ⊢;exact hl
       exact .inr (ac t ot ae a1 e he hb)
theorem aDc {m:Nat} (aa:oT l.toArray m=true) (k:Nat):∀(j:Nat) (a:Act) (w:World),wpOps P (l.drop m).toArray Q (List.range' j k) a w->wpOps P l.toArray Q (List.range' (m+j) k) a w:=by
 induction k with
 | zero=>intro j a w h;simpa [wpOps] using h
 | succ k ih =>
   intro j a w h;rw[List.range'_succ,wpOps_cons] at h ⊢;have he:(l.drop m).toArray[j]?=l.toArray[m+j]?:=by simp
   have h':wpOp P l.toArray Q (m+j) (wpOps P (l.drop m).toArray Q (List.range' (j+1) k)) a w:=by
    unfold wpOp at h ⊢;rw[he] at h;cases ho:l.toArray[m+j]? with
    | none=>simpa [ho] using h
    | some o =>
      simp only[ho] at h ⊢;have hg:=((fP aa ho).2 ga).1;have hw:∀y,Region.wanted o y=true:=λy=>by simp[Region.wanted,hg]
      simpa only[hw,je] using h
   refine lh (λa' w' h8=>?_) h';have:=ih (j+1) a' w' h8;rwa[show m+(j+1)=m+j+1 by omega] at this
theorem sO {id:Nat} {a:Act} {w:World} (m:Nat) (S:World->Prop) (hP:P.follows .mixedOrders=true) (ac:oT l.toArray m=true) (ad:mI l m=true) (hm:decide (m<=l.length)=true) (hS:S w.drew)
 (h:S w.drew->wpAnyH P .any (l.take m).toArray (λe a w=>match e with | .normal=>wpList P (l.drop m).toArray Q (l.drop m) a w|e=>Q e a w) S m (Array.replicate m false) a w.drew):(Code.region id l.toArray true).wp P Q a w:=by
 have af:m<=l.length:=ld hm;have h1:=wpAny_of_held _ _ _ _ (h hS);have mono:∀(aa:Nat) (L:Array Bool) (a:Act) (w:World),wpAny P .any (l.take m).toArray (λe a w=>match e with | .normal=>wpList P (l.drop m).toArray Q (l.drop m) a w|e=>Q e a w) aa L a w ->
  wpAny P .any (l.take m).toArray (λe a w=>match e with | .normal=>wpOps P l.toArray Q (List.range' m (l.length-m)) a w|e=>Q e a w) aa L a w:=by
  have hn:∀a w,wpList P (l.drop m).toArray Q (l.drop m) a w->wpOps P l.toArray Q (List.range' m (l.length-m)) a w:=λa w h=>by
   have e:=wpOps_eq_wpList (P:=P) (Q:=Q) (ops:=(l.drop m).toArray) (l.drop m) 0 (λj=>by simp);rw[<-e] at h;have:=aDc ac _ 0 a w h
   simpa using this
  have ab:∀{i:Nat} {K K':Act->World->Prop} {a:Act} {w:World},(∀a w,K a w->K' a w)->wpOp P (l.take m).toArray (λe a w=>match e with | .normal=>wpList P (l.drop m).toArray Q (l.drop m) a w|e=>Q e a w) i K a w ->
   wpOp P (l.take m).toArray (λe a w=>match e with | .normal=>wpOps P l.toArray Q (List.range' m (l.length-m)) a w|e=>Q e a w) i K' a w:=by
   intro i K K' a w hk h6;refine lh hk ?_;unfold wpOp at h6 ⊢;cases ho:(l.take m).toArray[i]? with
   | none=>simpa [ho] using h6
   | some o =>
     simp only[ho] at h6 ⊢;split
     ·rename_i hw;simp only[hw,je] at h6;rcases h6 with h6|⟨h6,h8⟩
      ·refine .inl ?_;unfold Oper.wp at h6 ⊢;generalize (execOp a.eval o).run P w=r at h6 ⊢;cases r with
       | ok n w' =>
         cases n<;>simp only[Oper.upon] at h6 ⊢ <;> first
          | exact h6
          | (refine Calls.mono h6 λe w'' he=>?_
             cases e<;>first|exact he|(obtain⟨a0,w0,hq⟩:=he;exact⟨a0,w0,hq⟩))
       | halt x w'=>cases x<;>simp only[Oper.upon] at h6 ⊢ <;> exact h6
      ·exact .inr ⟨h6,h8⟩
     ·rename_i hw;simp only[hw] at h6;exact h6
  intro aa
  induction aa with
  | zero=>intro L a w h;exact⟨h.1,hn _ _ h.2⟩
  | succ aa ih=>intro L a w h;exact⟨λh0=>hn _ _ (h.1 h0),λi hi=>ab (λa w h=>ih _ a w h) (h.2 i hi)⟩
 refine wp_region_any hP ?_;have h2:=aBp ac ad af m (Array.replicate m false) (Array.replicate l.toArray.size false) a w.drew ge ge (λi hi=>by rw[o8,o8,gw hi,gw gi]) (λi _ hi=>by simp[jf,hi]) (λj o ho hl=>by
  have hj:j<l.toArray.size:=(Array.getElem?_eq_some_iff.1 ho).1;have ae:j<l.length:=by simpa using hj
  simp[jf,o8,ae] at hl) (mono _ _ _ _ h1)
 have e:m+(l.length-m)=l.toArray.size:=by simp;omega
 rw[e] at h2;exact h2
end
end
section
def oU (ops:Array Oper) (m:Nat):Bool:=(List.range ops.size).all λj=>match ops[j]? with
 | none=>true
 | some o=>(o.after.all λe=>decide (e.on<j))&&(decide (j<m)||(o.guard.isNone&&(((List.range j).all λi=>o.after.any λe=>Region.binds .any e&&e.on==i)||(decide (m<j)&&o.after.any λe=>Region.binds .any e&&e.on==j-1))))
section
variable {P:Program} {ops:Array Oper} {Q:Exit->Act->World->Prop}
theorem iG {m j:Nat} {o:Oper} (h:oU ops m=true) (ho:ops[j]?=some o) :
 (∀e∈o.after,e.on<j)/\(m<=j->o.guard=none/\∀i<j,(∃e∈o.after,Region.binds .any e=true/\e.on=i)\/(m<j/\∃e∈o.after,Region.binds .any e=true/\e.on=j-1)):=by
 have hj:j<ops.size:=(Array.getElem?_eq_some_iff.1 ho).1;simp only[oU,oc,List.mem_range] at h;have h1:=h j hj;simp only[ho,kg,qo,jw,o6,oc,List.mem_range] at h1;refine⟨λe he=>h1.1 e he,λhm=>?_⟩;rcases h1.2 with h2|⟨h2,h3⟩
 ·omega
 ·refine⟨by simpa using h2,λi hi=>?_⟩;rcases h3 with h3|⟨h4,h3⟩
  ·have:=h3 i hi;simp only[Array.any_eq_true,kg,mg] at this;obtain⟨k,hk,hb,aa⟩:=this;exact .inl ⟨_,Array.getElem_mem hk,hb,aa⟩
  ·simp only[Array.any_eq_true,kg,mg] at h3;obtain⟨k,hk,hb,aa⟩:=h3;exact .inr ⟨h4,_,Array.getElem_mem hk,hb,aa⟩
theorem aDf {m:Nat} (ak:oU ops m=true):∀(k j:Nat) (aa:Array Bool) (a:Act) (w:World),m<=j->j+k=ops.size->aa.size=ops.size->(∀i,i<j->aa.getD i false=true)->(∀i,j<=i->i<ops.size->aa.getD i true=false) ->
 wpOps P ops Q (List.range' j k) a w->wpAny P .any ops Q k aa a w:=by
 intro k
 induction k with
 | zero =>
   intro j aa a w hm hj ah ab af h;refine⟨?_,by simpa [wpOps] using h⟩;refine List.eq_nil_iff_forall_not_mem.2 λi hi=>?_;obtain⟨h0,o,ho,_⟩:=mem_ready.1 hi;have am:i<ops.size:=(Array.getElem?_eq_some_iff.1 ho).1;have h1:=ab i ga;have hs:i<aa.size:=ga
   simp only[jf,jc hs,kq] at h0 h1;rw[h0] at h1;cases h1
 | succ k ih =>
   intro j aa a w hm hj ah ab af h;have ae:j<ops.size:=ga
   have ac:Region.ready .any ops aa=[j]:=by
    have ad:∀i,i∈Region.ready .any ops aa ↔ i=j:=by
     intro i;constructor
     ·intro hi;obtain⟨h0,o,ho,ai⟩:=mem_ready.1 hi;have am:i<ops.size:=(Array.getElem?_eq_some_iff.1 ho).1;rcases Nat.lt_trichotomy i j with hlt|heq|hgt
      ·have h1:=ab i hlt;have hs:i<aa.size:=ga
       simp only[jf,jc hs,kq] at h0 h1;rw[h0] at h1;cases h1
      ·exact heq
      ·obtain⟨t,an,ag,e,he,hb,al⟩:∃t,j<=t/\t<ops.size/\∃e∈o.after,Region.binds .any e=true/\e.on=t:=by
        rcases ((iG ak ho).2 ga).2 j hgt with h|⟨_,h⟩
        ·exact⟨j,gy _,ae,h⟩
        ·exact⟨i-1,by omega,by omega,h⟩
       have h1:=ai e he hb;have h2:=af t an ag;rw[al] at h1;have hs:t<aa.size:=ga
       simp only[jf,jc hs,kq] at h1 h2;rw[h2] at h1;cases h1
     ·rintro rfl;refine mem_ready.2 ⟨af i lr ae,_,jc ae,λe he _=>ab _ ((iG ak (jc ae)).1 e he)⟩
    have aj:(Region.ready .any ops aa).Nodup:=List.filter_sublist.nodup List.nodup_range;cases hr:Region.ready .any ops aa with
    | nil=>have:=(ad j).2 rfl;rw[hr] at this;cases this
    | cons x xs =>
      rw[hr] at ad aj;obtain rfl:x=j:=(ad x).1 ge;cases xs with
      | nil=>rfl
      | cons y ys =>
        obtain rfl:y=x:=(ad y).1 ge;simp at aj
   refine⟨λh0=>(by rw[ac] at h0;cases h0),λi hi=>?_⟩;rw[ac] at hi;obtain rfl:i=j:=by simpa using hi
   rw[List.range'_succ,wpOps_cons] at h;refine lh (λa' w' h'=>ih (i+1) _ a' w' ga ga (by simp[ah]) ?_ ?_ h') h
   ·intro t ht;by_cases ag:i=t
    ·subst ag;simp[jf,ah,ae]
    ·rw[nt false ag];exact ab t ga
   ·intro t ht ao;rw[nt true ga];exact af t ga ao
end
section
variable {P:Program} {l:List Oper} {Q:Exit->Act->World->Prop}
theorem aBq {m:Nat} (ak:oU l.toArray m=true) (au:mI l m=true) (hm:m<=l.length):∀(aa:Nat) (L1 L:Array Bool) (a:Act) (w:World),L1.size=m->L.size=l.length->(∀i,i<m->L[i]?=L1[i]?)->(∀i,m<=i->i<l.length->L.getD i true=false) ->
 wpAny P .any (l.take m).toArray (λe a w=>match e with | .normal=>wpOps P l.toArray Q (List.range' m (l.length-m)) a w|e=>Q e a w) aa L1 a w->wpAny P .any l.toArray Q (aa+(l.length-m)) L a w:=by
 have ae:∀(j:Nat) (o:Oper),(l.take m).toArray[j]?=some o->∀e∈o.after,e.on<j:=λj o ho=>by
  have:l.toArray[j]?=some o:=by
   simp only[nf,mw] at ho ⊢;split at ho
   ·exact ho
   ·cases ho
  exact(iG ak this).1
 have ag:∀i,i<m->∀o,l[i]?=some o->∀g,o.guard=some g->g.1<m:=by
  intro i hi o ho g hg;have am:o∈l.take m:=List.mem_of_getElem? (i:=i) (by simp[hi,ho]);have:=List.all_eq_true.1 au o am
  simpa [hg] using this
 have ax:(l.take m).toArray.size=m:=by simp;omega
 have ad:∀(aa:Nat) (L1 L:Array Bool) (a:Act) (w:World),L1.size=m->L.size=l.length->(∀i,i<m->L[i]?=L1[i]?)->(∀i,m<=i->i<l.length->L.getD i true=false) ->
  Region.ready .any (l.take m).toArray L1=[]->wpOps P l.toArray Q (List.range' m (l.length-m)) a w->wpAny P .any l.toArray Q (l.length-m) L a w:=by
  intro aa L1 L a w h1 h2 h3 h4 hr h;refine aDf ak _ m L a w lr gi (by simpa using h2) ?_ ?_ h
  ·intro i hi;have al:i<L1.size:=ga
   by_cases ap:L1.getD i true=false
   ·exact absurd hr (mT ae ga ga ap)
   ·simp only[jf,h3 i hi,jc al,kq] at ap ⊢
    simpa using ap
  ·intro i hi ar;exact h4 i hi (by simpa using ar)
 have ac:∀(L1 L:Array Bool),L1.size=m->L.size=l.length->(∀i,i<m->L[i]?=L1[i]?)->(∀i,m<=i->i<l.length->L.getD i true=false)->Region.ready .any (l.take m).toArray L1≠[] ->
  ∀i,i∈Region.ready .any l.toArray L->i<m/\i∈Region.ready .any (l.take m).toArray L1:=by
  intro L1 L h1 h2 h3 h4 ah i hi;obtain⟨h0,o,ho,ab⟩:=mem_ready.1 hi;have ay:i<l.length:=by have:=(Array.getElem?_eq_some_iff.1 ho).1;simpa using this
  have hD:∀(t:Nat) d,t<m->L.getD t d=L1.getD t d:=λt d ht=>by simp only[jf,h3 t ht]
  by_cases af:i<m
  ·refine⟨af,mem_ready.2 ⟨by rw[<-hD i true af];exact h0,o,?_,λe he hb=>?_⟩⟩
   ·simp only[nf,mw,af,je] at ho ⊢;exact ho
   ·have aw:=(iG ak ho).1 e he;rw[<-hD e.on false ga];exact ab e he hb
  ·exfalso;apply ah;refine List.eq_nil_iff_forall_not_mem.2 λt ht=>?_;obtain⟨g0,ot,ai,_⟩:=mem_ready.1 ht;have aj:t<m:=by have:=(Array.getElem?_eq_some_iff.1 ai).1;omega
   rcases ((iG ak ho).2 ga).2 t ga with ⟨e,he,hb,hon⟩|⟨hmi,e,he,hb,hon⟩
   ·have h5:=ab e he hb;rw[hon,hD t false aj] at h5;have hs:t<L1.size:=ga
    simp only[jf,jc hs,kq] at h5 g0;rw[g0] at h5;cases h5
   ·have h5:=ab e he hb;have h6:=h4 (i-1) ga ga;rw[hon] at h5;have hs:i-1<L.size:=ga
    simp only[jf,jc hs,kq] at h5 h6;rw[h6] at h5;cases h5
 intro aa
 induction aa with
 | zero =>
   intro L1 L a w h1 h2 h3 h4 h;rw[ir];exact ad 0 L1 L a w h1 h2 h3 h4 h.1 h.2
 | succ aa ih =>
   intro L1 L a w h1 h2 h3 h4 h;by_cases ah:Region.ready .any (l.take m).toArray L1=[]
   ·have h5:=ad 0 L1 L a w h1 h2 h3 h4 ah (h.1 ah)
    -- with more aa than is wanted
    have more:∀(n k:Nat) (L:Array Bool) (a:Act) (w:World),wpAny P .any l.toArray Q n L a w->wpAny P .any l.toArray Q (n+k) L a w:=by
     intro n
     induction n with
     | zero =>
       intro k L a w h;cases k with
       | zero=>exact h
       | succ k=>rw[ir];exact⟨λ_=>h.2,λi hi=>by rw[h.1] at hi;cases hi⟩
     | succ n ihn =>
       intro k L a w h;rw[show n+1+k=(n+k)+1 by omega];exact⟨h.1,λi hi=>lh (λa' w' h'=>ihn k _ a' w' h') (h.2 i hi)⟩
    rw[show aa+1+(l.length-m)=(l.length-m)+(aa+1) by omega];exact more _ _ _ _ _ h5
   ·rw[show aa+1+(l.length-m)=(aa+(l.length-m))+1 by omega];have ao:=ac L1 L h1 h2 h3 h4 ah;refine⟨λh0=>?_,λi hi=>?_⟩
    ·-- something of the first part may come up here too
     exfalso;obtain⟨t,ht⟩:=List.exists_mem_of_ne_nil _ ah;obtain⟨g0,ot,ai,ab⟩:=mem_ready.1 ht;have aj:t<m:=by have:=(Array.getElem?_eq_some_iff.1 ai).1;omega
     have an:l.toArray[t]?=some ot:=by simp only[nf,mw,aj,je] at ai ⊢;exact ai
     have hD:∀(s:Nat) d,s<m->L.getD s d=L1.getD s d:=λs d hs=>by simp only[jf,h3 s hs]
     have:t∈Region.ready .any l.toArray L:=mem_ready.2 ⟨by rw[hD t true aj];exact g0,ot,an,λe he hb=>by
      have aw:=ae t ot ai e he;rw[hD e.on false ga];exact ab e he hb⟩
     rw[h0] at this;cases this
    ·obtain⟨af,al⟩:=ao i hi;have h6:=sP af (ag i af) (Q:=λe a w=>match e with | .normal=>wpOps P l.toArray Q (List.range' m (l.length-m)) a w|e=>Q e a w) (h.2 i al);have h7:wpOp P l.toArray Q i (wpAny P .any (l.take m).toArray (λe a w=>match e with | .normal=>wpOps P l.toArray Q (List.range' m (l.length-m)) a w|e=>Q e a w) aa (L1.setIfInBounds i true)) a w:=by
      unfold wpOp at h6 ⊢;cases ho:l.toArray[i]? with
      | none=>simpa [ho] using h6
      | some o =>
        simp only[ho] at h6 ⊢;split
        ·rename_i hw;simp only[hw,je] at h6;rcases h6 with h6|⟨h6,h8⟩
         ·refine .inl ?_;unfold Oper.wp at h6 ⊢;generalize (execOp a.eval o).run P w=r at h6 ⊢;cases r with
          | ok n w' =>
            cases n<;>simp only[Oper.upon] at h6 ⊢ <;> first
             | exact h6
             | (refine Calls.mono h6 λe w'' he=>?_
                cases e<;>first|exact he|(obtain⟨a0,w0,hq⟩:=he;exact⟨a0,w0,hq⟩))
          | halt x w'=>cases x<;>simp only[Oper.upon] at h6 ⊢ <;> exact h6
         ·exact .inr ⟨h6,h8⟩
        ·rename_i hw;simp only[hw] at h6;exact h6
     refine lh (λa' w' h8=>ih (L1.setIfInBounds i true) (L.setIfInBounds i true) a' w' (by simp[h1]) (by simp[h2]) ?_ ?_ h8) h7
     ·intro t ht;by_cases aq:i=t
      ·subst aq;have:i<L.size:=ga
       simp[h1,af,this]
      ·simp[Array.getElem?_setIfInBounds_ne aq,h3 t ht]
     ·intro t ht av;rw[nt true ga];exact h4 t ht av
theorem aDd {m:Nat} (aa:oU l.toArray m=true) (k:Nat):∀(j:Nat) (a:Act) (w:World),wpOps P (l.drop m).toArray Q (List.range' j k) a w->wpOps P l.toArray Q (List.range' (m+j) k) a w:=by
 induction k with
 | zero=>intro j a w h;simpa [wpOps] using h
 | succ k ih =>
   intro j a w h;rw[List.range'_succ,wpOps_cons] at h ⊢;have he:(l.drop m).toArray[j]?=l.toArray[m+j]?:=by simp
   have h':wpOp P l.toArray Q (m+j) (wpOps P (l.drop m).toArray Q (List.range' (j+1) k)) a w:=by
    unfold wpOp at h ⊢;rw[he] at h;cases ho:l.toArray[m+j]? with
    | none=>simpa [ho] using h
    | some o =>
      simp only[ho] at h ⊢;have hg:=((iG aa ho).2 ga).1;have hw:∀y,Region.wanted o y=true:=λy=>by simp[Region.wanted,hg]
      simpa only[hw,je] using h
   refine lh (λa' w' h8=>?_) h';have:=ih (j+1) a' w' h8;rwa[show m+(j+1)=m+j+1 by omega] at this
theorem bK {id:Nat} {a:Act} {w:World} (m:Nat) (S:World->Prop) (hP:P.follows .mixedOrders=true) (ac:oU l.toArray m=true) (ad:mI l m=true) (hm:decide (m<=l.length)=true) (hS:S w.drew)
 (h:S w.drew->wpAnyH P .any (l.take m).toArray (λe a w=>match e with | .normal=>wpList P (l.drop m).toArray Q (l.drop m) a w|e=>Q e a w) S m (Array.replicate m false) a w.drew):(Code.region id l.toArray true).wp P Q a w:=by
 have ae:m<=l.length:=ld hm;have h1:=wpAny_of_held _ _ _ _ (h hS);have mono:∀(aa:Nat) (L:Array Bool) (a:Act) (w:World),wpAny P .any (l.take m).toArray (λe a w=>match e with | .normal=>wpList P (l.drop m).toArray Q (l.drop m) a w|e=>Q e a w) aa L a w ->
  wpAny P .any (l.take m).toArray (λe a w=>match e with | .normal=>wpOps P l.toArray Q (List.range' m (l.length-m)) a w|e=>Q e a w) aa L a w:=by
  have hn:∀a w,wpList P (l.drop m).toArray Q (l.drop m) a w->wpOps P l.toArray Q (List.range' m (l.length-m)) a w:=λa w h=>by
   have e:=wpOps_eq_wpList (P:=P) (Q:=Q) (ops:=(l.drop m).toArray) (l.drop m) 0 (λj=>by simp);rw[<-e] at h;have:=aDd ac _ 0 a w h
   simpa using this
  have ab:∀{i:Nat} {K K':Act->World->Prop} {a:Act} {w:World},(∀a w,K a w->K' a w)->wpOp P (l.take m).toArray (λe a w=>match e with | .normal=>wpList P (l.drop m).toArray Q (l.drop m) a w|e=>Q e a w) i K a w ->
   wpOp P (l.take m).toArray (λe a w=>match e with | .normal=>wpOps P l.toArray Q (List.range' m (l.length-m)) a w|e=>Q e a w) i K' a w:=by
   intro i K K' a w hk h6;refine lh hk ?_;unfold wpOp at h6 ⊢;cases ho:(l.take m).toArray[i]? with
   | none=>simpa [ho] using h6
   | some o =>
     simp only[ho] at h6 ⊢;split
     ·rename_i hw;simp only[hw,je] at h6;rcases h6 with h6|⟨h6,h8⟩
      ·refine .inl ?_;unfold Oper.wp at h6 ⊢;generalize (execOp a.eval o).run P w=r at h6 ⊢;cases r with
       | ok n w' =>
         cases n<;>simp only[Oper.upon] at h6 ⊢ <;> first
          | exact h6
          | (refine Calls.mono h6 λe w'' he=>?_
             cases e<;>first|exact he|(obtain⟨a0,w0,hq⟩:=he;exact⟨a0,w0,hq⟩))
       | halt x w'=>cases x<;>simp only[Oper.upon] at h6 ⊢ <;> exact h6
      ·exact .inr ⟨h6,h8⟩
     ·rename_i hw;simp only[hw] at h6;exact h6
  intro aa
  induction aa with
  | zero=>intro L a w h;exact⟨h.1,hn _ _ h.2⟩
  | succ aa ih=>intro L a w h;exact⟨λh0=>hn _ _ (h.1 h0),λi hi=>ab (λa w h=>ih _ a w h) (h.2 i hi)⟩
 refine wp_region_any hP ?_;have h2:=aBq ac ad ae m (Array.replicate m false) (Array.replicate l.toArray.size false) a w.drew ge ge (λi hi=>by rw[o8,o8,gw hi,gw gi]) (λi _ hi=>by simp[jf,hi]) (mono _ _ _ _ h1);have e:m+(l.length-m)=l.toArray.size:=by simp;omega
 rw[e] at h2;exact h2
end
end
section
structure KeepB (B:Nat) (w:World) (l:List (Nat × Obj)) (w':World):Prop where
 b:Below B w w'
 n:B<=w'.heap.size
 at':∀p∈l,w'.heap[p.1]?=some p.2
theorem KeepB.at {B:Nat} {w w':World} {l:List (Nat × Obj)} (h:KeepB B w l w') (j:Nat) (hj:j<l.length):w'.heap[(l[j]).1]?=some (l[j]).2:=h.at' _ (kc hj)
theorem KeepB.ext {B:Nat} {w w' w'':World} {l:List (Nat × Obj)} (h:KeepB B w l w') (hb:BB w' w''):KeepB B w l w'' :=
 ⟨h.b.trans (hb.mono h.n),io h.n hb.size,λp hp=>aB hb (h.at' p hp)⟩
theorem KeepB.cons {B:Nat} {w w':World} {l:List (Nat × Obj)} (h:KeepB B w l w') {b:Nat} {o:Obj} (hb:w'.heap[b]?=some o):KeepB B w ((b,o) :: l) w' :=
 ⟨h.b,h.n,λp hp=>(List.mem_cons.1 hp).elim (λe=>by rw[e];exact hb) (λhp=>h.at' p hp)⟩
theorem KeepB.sub {B:Nat} {w w':World} {l l':List (Nat × Obj)} (h:KeepB B w l w') (hs:∀p∈l',p∈l):KeepB B w l' w':=⟨h.b,h.n,λp hp=>h.at' p (hs p hp)⟩
theorem KeepB.grown {B:Nat} {w w' w'':World} {l:List (Nat × Obj)} {row:Option Nat} (h:KeepB B w l w') (hg:w'.grownBy w'' row) (hr:∀r,row=some r->B<=r/\∀p∈l,p.1≠r):KeepB B w l w'' :=
 ⟨h.b.grown hg h.n (λr e=>(hr r e).1),io h.n hg.size,λp hp=>(hg.block _ (ltOf (h.at' p hp)) (λe=>(hr p.1 e.symm).2 p hp rfl)).trans (h.at' p hp)⟩
theorem KeepB.set {B:Nat} {w w':World} {l:List (Nat × Obj)} {b o:Nat} {cs:Array Value} {t:TypeId} {fr:Nat × Nat} (v:Value) (h:KeepB B w ((b,.cells cs t fr) :: l) w') (hB:B<=b) (hne:∀p∈l,p.1≠b):KeepB B w ((b,.cells (cs.setIfInBounds o v) t fr) :: l) (w'.setCell ⟨b,o,none⟩ v) :=
 ⟨h.b.setCell (p:=⟨b,o,none⟩) hB v,by simpa [World.setCell] using h.n,λp hp=>by
   rcases List.mem_cons.1 hp with rfl|hp
   ·exact aG v (h.at' _ (iw ..))
   ·exact(ij _ _ _ _ (hne p hp)).trans (h.at' p (ja _ hp))⟩
section
variable {C D:Type} (K:Kit C D)
def Kept (T B:Nat) (w:World) (v:Value) (k:Nat) (l:List D):Prop :=
 ∃cs:List C,cs.length=k/\l.length=k/\w.ownsRow B T K.n v k (cs.flatMap K.cs)/\∀j (h:j<cs.length) (h':j<l.length),K.Is (· < B) w cs[j] l[j]
variable {K}
theorem Kept.nil (T B:Nat) (w:World):Kept K T B w Z0 0 []:=⟨[],rfl,rfl,lf _ _ _ _,λj h=>by simp at h⟩
theorem Kept.ext {T B:Nat} {w w':World} {v:Value} {k:Nat} {l:List D} (h:Kept K T B w v k l) (hn:B<=w.heap.size) (hb:BB w w'):Kept K T B w' v k l:=by
 obtain⟨cs,h1,h0,h2,h3⟩:=h;exact⟨cs,h1,h0,fS h2 hb,λj hj hj'=>K.same (λb q=>⟨q,hb.block b ga⟩) (h3 j hj hj')⟩
theorem Kept.own {T B:Nat} {w:World} {v:Value} {k:Nat} {l:List D} (h:Kept K T B w v k l):∀r,v.ownBlock=some r->B<=r/\r<w.heap.size:=by
 obtain⟨_,_,_,h2,_⟩:=h;exact h2.lt
theorem Kept.shape {T B:Nat} {w:World} {v:Value} {k:Nat} {l:List D} (h:Kept K T B w v k l):∃a cap,v=Sl a k cap/\k<=cap:=by
 obtain⟨cs,h1,h0,h2,h3⟩:=h;rcases h2.2 with ⟨rfl,rfl⟩|⟨g,cap,cur,rfl,hb,hg,hn,_⟩
 ·exact⟨none,0,rfl,gy _⟩
 ·exact⟨_,cap,rfl,hn⟩
theorem Kept.set {T B:Nat} {w:World} {v:Value} {k:Nat} {l:List D} (h:Kept K T B w v k l) (a:Addr) (u:Value) (hB:B<=a.block) (aa:v.ownBlock≠some a.block):Kept K T B (w.setCell a u) v k l:=by
 obtain⟨cs,h1,h0,h2,h3⟩:=h;exact⟨cs,h1,h0,ownsRow_setCell_other h2 aa u,λj hj hj'=>K.same (λb q=>⟨q,ij _ _ _ _ ga⟩) (h3 j hj hj')⟩
theorem Kept.push {T B:Nat} {w1 w2:World} {v:Value} {k:Nat} {l:List D} {c:C} {d:D} {o:Obj} {g cap:Nat} {cs:List C} (ac:cs.length=k) (hl:l.length=k)
 (af:∀j (h:j<cs.length) (h':j<l.length),K.Is (· < B) w1 cs[j] l[j]) (hn:B<=w1.heap.size) (hc:K.Is (· < B) w1 c d) (hv:∀r,v.ownBlock=some r->B<=r)
 (ab:w2.ownsRow B T K.n (Sl (So g 0) (k+1) cap) (k+1) (cs.flatMap K.cs++K.cs c)) (aa:(w1.alloc o).grownBy w2 v.ownBlock) :
 Kept K T B w2 (Sl (So g 0) (k+1) cap) (k+1) (l++[d]):=by
 have ad:∀b,b<B->w2.heap[b]?=w1.heap[b]?:=λb hb =>
  (aa.block b gi (λe=>by have:=hv b e.symm;omega)).trans (iy _ _ _ ga)
 refine⟨cs++[c],by simp[ac],by simp[hl],by simpa using ab,λj hj hj'=>?_⟩;by_cases ae:j<cs.length
 ·rw[ku ae,ku ga];exact K.same (λb q=>⟨q,ad b q⟩) (af j ae ga)
 ·have e1:j=cs.length:=by simp at hj;omega
  rw[li ga,li ga];simp only[e1,ac,hl,np,k8];exact K.same (λb q=>⟨q,ad b q⟩) hc
theorem Kept.row {T B:Nat} {w:World} {a:Option Addr} {k cap:Nat} {l:List D} (h:Kept K T B w (Sl a k cap) k l) (hn:B<=w.heap.size) (ab:k * K.by'<=140737488351232):IsRow K (· < w.heap.size) w a k cap l:=by
 obtain⟨_,aa,hv,ac⟩:=h.shape;simp only[lz] at hv;obtain⟨rfl,_,rfl⟩:=hv;obtain⟨cs,h1,h0,h2,h3⟩:=h;refine⟨h0.symm,ac,ab,?_⟩;rcases h2.2 with ⟨h4,h5⟩|⟨g,aa,cur,hv,hb,hg,_⟩
 ·exact .inl (kr ga)
 ·simp only[lz] at hv;obtain⟨rfl,_,rfl⟩:=hv;refine .inr ⟨g,0,rfl,ltOf hg,λj hj=>⟨cs[j]' ga,?_,?_⟩⟩
  ·rw[ir];exact AtG.ofRow h2 j ga
  ·exact K.same (λb q=>⟨by omega,rfl⟩) (h3 j ga hj)
end
end
theorem oE {w:World} {aa n:Nat} {v:Value} {xs:List Int} (h:w.ownsRow aa 3 1 v n (xs.map (Value.int .i64))) (ab:n * 8<=140737488351232) (hr:∀x∈xs,I64 x):∃a c,v=Sl a n c/\IsInts (λb=>aa<=b/\b<w.heap.size) w a n c xs:=by
 obtain⟨hl,hv⟩:=h;rw[jy,Nat.mul_one] at hl;rcases hv with ⟨rfl,rfl⟩|⟨g,cap,cur,rfl,hb,hg,hn,_,_,ht⟩
 ·exact⟨none,0,rfl,hl.symm,gy _,ab,hr,.inl (kr hl)⟩
 ·refine⟨_,_,rfl,hl.symm,hn,ab,hr,.inr ⟨g,0,rfl,⟨hb,ltOf hg⟩,λj hj=>?_⟩⟩;rw[aA hg,ir];have h1:(cur.toList.take (n * 1))[j]?=some (I6 xs[j]):=by rw[ht];simp[hj]
  rw[mw] at h1;split at h1
  ·simpa using h1
  ·cases h1
section
section
variable {P:Program} {l:List Oper} {Q:Exit->Act->World->Prop}
end
section
variable {P:Program} {ops:Array Oper} {Q:Exit->Act->World->Prop}
end
end
section
attribute [local go_sem] nj
theorem aJ5:(Tryz.prog.info? 69).map (λi=>(i.zero,i.size,i.bytes))=some (some (.agg #[I6 0,Z0,I6 0,Z0,I6 0,I6 0,I6 0,Sv ByteArray.empty,Z0,Z0]),10,152):=by kernel_rfl
end
end Go.Proofs.YtoodnaghjpkjfaaGreatDoor
