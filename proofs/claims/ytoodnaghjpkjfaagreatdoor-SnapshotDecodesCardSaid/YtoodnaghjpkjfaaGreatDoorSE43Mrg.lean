/- A part. -/
import Derived.Test.YtoodnaghjpkjfaaGreatDoorSE33Mrg
namespace Go.Proofs.YtoodnaghjpkjfaaGreatDoor
open Tryz
set_option linter.unusedVariables false
set_option maxRecDepth 100000
set_option maxHeartbeats 64000000
set_option linter.unusedSimpArgs false
open Go Go.RowKit Go.Shelf
theorem aCq (n a b:Int) (p:Bool) (hp:p=(decide (a<=n)&&decide (n<=b))) (w:World):CP 75 #[I6 n,I6 a,I6 b] w λe w'=>e=.returned (.bool p)/\w'=w:=by
 by_cases h1:a<=n
 ·by_cases h2:n<=b
  ·have hq:p=true:=by rw[hp,lg h1,lg h2];rfl
   clear hp;subst hq;go_enter func75,ntmps75
   go_wp2;go_ret;exact⟨rfl,rfl⟩
  ·have hq:p=false:=by rw[hp,lg h1,mc h2];rfl
   clear hp;subst hq;go_enter func75,ntmps75
   go_wp2;go_ret;exact⟨rfl,rfl⟩
 ·have hq:p=false:=by rw[hp,mc h1];rfl
  clear hp;subst hq;go_enter func75,ntmps75
  go_wp2;go_ret;exact⟨rfl,rfl⟩
theorem cW (n a b:Int) (w:World):CP 75 #[I6 n,I6 a,I6 b] w λe w'=>e=.returned (.bool (inQ n a b))/\w'=w:=aCq n a b _ rfl w
theorem tG (x:LetC) (d:Let) (w:World) (hd:IsLet (· < w.heap.size) w x d) (hT:Tabs w):CP 79 #[.agg #[I6 x.m.st.e,Sl x.m.st.a x.m.st.n x.m.st.c,I6 x.m.m,Sl x.m.a x.m.n x.m.c,I6 x.m.b.k,I6 x.m.b.i,I6 x.m.b.s,Sv x.m.b.t,Sl x.m.b.la x.m.b.ll x.m.b.lc,Sl x.m.b.fa x.m.b.fl x.m.b.fc,Sv x.nd,Sv x.tx,I6 x.vr]] w (Rt (I6 (qO d)) w):=by
 have ac:BB w (w.alloc (letO x)):=(gx _ _).alloc lr _;have HB:=f8 ac;have HV:=f8 (qA x.tx hd.txz (w.alloc (letO x)) (hT.below ac));have HM:=f8 (λ(w':World) (hb:BB (w.alloc (letO x)) w')=>by
  have hs:=hb.size;have hz:(w.alloc (letO x)).heap.size=w.heap.size+1:=by simp
  exact eK x.m d.m w' (hd.m.same λb hb'=>⟨by omega,(hb.block b ga).trans (ac.block b hb')⟩) ((hT.below ac).below hb))
 have hE:qO d=if inQ x.vr 1 999=false then 2 else if aH x.nd=false then 12 else if Lib.validD x.tx.data.toList=false then 16 else fF d.m:=by unfold qO;rw[hd.vr,hd.nd,hd.tx]
 obtain⟨me,ae⟩:=xe (fF d.m)
 rw[<-ae] at hE;simp only[<-ae] at HM;dsimp only[MC.v] at HM;have HE:=f8 hE;clear hE ac hd hT ae;obtain⟨xm,nd,tx,vr⟩:=x;dsimp only at HV HM HE HB ⊢;cases h0:inQ vr 1 999
 ·go_enter func79,ntmps79
  go_wp2_with (go_at_call 75;refine(cW _ _ _ _).mono ?_;rintro e w3 ⟨rfl,aa⟩;obtain rfl:=aa)
  go_ret;exact⟨by rw[HE.o,gw h0];rfl,HB.o⟩
 ·cases h1:aH nd
  ·go_enter func79,ntmps79
   go_wp2_with (first|(go_at_call 75;refine(cW _ _ _ _).mono ?_;rintro e w3 ⟨rfl,aa⟩;obtain rfl:=aa)|(go_at_call 78;refine(aS _ _).mono ?_;rintro e w3 ⟨rfl,aa⟩;obtain rfl:=aa))
   go_ret;exact⟨by rw[HE.o,h0,h1];rfl,HB.o⟩
  ·cases h2:Lib.validD tx.data.toList
   ·go_enter func79,ntmps79
    go_wp2_with (first|(go_at_call 75;refine(cW _ _ _ _).mono ?_;rintro e w3 ⟨rfl,aa⟩;obtain rfl:=aa)|(go_at_call 78;refine(aS _ _).mono ?_;rintro e w3 ⟨rfl,aa⟩;obtain rfl:=aa)|(go_at_call 132;refine HV.mono ?_;rintro e w3 ⟨rfl,ab⟩;have ad:=f8 ab;clear ab))
    go_ret;exact⟨by rw[HE.o,h0,h1,h2];rfl,HB.trans (ad.mono HB.size)⟩
   ·go_enter func79,ntmps79
    have HG:=f8 (ib w (letO ⟨xm,nd,tx,vr⟩))
    go_wp2_with (first|(go_at_call 75;refine(cW _ _ _ _).mono ?_;rintro e w3 ⟨rfl,aa⟩;obtain rfl:=aa)|(go_at_call 78;refine(aS _ _).mono ?_;rintro e w3 ⟨rfl,aa⟩;obtain rfl:=aa)|(go_at_call 132;refine HV.mono ?_;rintro e w3 ⟨rfl,ab⟩;have ad:=f8 ab;have ag:=aB ab HG.o;obtain⟨q0,q1,q2,q3,q4,q5,q6,q7,q8,q9⟩:=c_10 ag;(try dsimp only at q0 q1 q2 q3 q4 q5 q6 q7 q8 q9);clear ab ag)|(go_at_call 84;refine(HM.o _ ad.o).mono ?_;rintro e w5 ⟨rfl,af⟩;have ah:=f8 af;clear af))
    go_ret;exact⟨by rw[HE.o,h0,h1,h2];rfl,HB.trans ((ad.mono HB.size).trans (ah.mono (io HB.size ad.size)))⟩
theorem mH (a:Option Addr) (n c:Nat) (l:List Cnt) (w:World) (hd:IsRow cntK (· < w.heap.size) w a n c l):CP 77 #[Sl a n c] w (Rt (I6 (aR (iC l) 0 l)) w):=by
 have ae:=hd.big;have HL:=f8 hd.len;have HD:=f8 hd;clear hd;go_enter func77,ntmps77
 go_wp2
 go_loopw [3] (λi wr=>∃k:Nat,k<=n/\i=I6 k/\(∀j (h1:j<l.length),j<k->iC l j l[j]=0)/\BB w wr) (λi _=>n-(intOf i).toNat)
 case atStart=>exact⟨0,ii _,rfl,λj _ h=>absurd h (lj j),gx _ _⟩
 case round =>
  obtain⟨k,hk,rfl,ac,ah⟩:=hrel;obtain⟨wp,rfl⟩:=xe (wr:World)
  have ad:=f8 ah;have aw:(n:Int)<=9223372036854775807:=by have:n * 24<=140737488351232:=ae;omega
  by_cases a3:k<n
  ·have ag:k<l.length:=by have:=HL.o;omega
   obtain⟨b,o,rfl,hb,hx⟩:=HD.slot (show 0<n by omega);obtain⟨x,aj,ao⟩:=hx k ag;have af:l[k]=x:=ao.e.symm;have ai:f7 (∀v,iC l k x=v->v≠0->aR (iC l) 0 l=v):=f8 (λv hv hne=>by
    have h0:=gD (f:=iC l) (m:=0) k ag (λj h1 h2=>by rw[ir];exact ac j h1 h2) (by rw[ir,af,hv];exact hne);rw[ir,af,hv] at h0;exact h0)
   have HZ:f7 (iC l k x=0->∀j (h1:j<l.length),j<k+1->iC l j l[j]=0):=f8 (λhv j h1 h=>by
    by_cases ar:j<k
    ·exact ac j h1 ar
    ·obtain rfl:j=k:=ga
     rw[af];exact hv)
   obtain⟨x0,x1⟩:=(aj.same (ah.block b hb)).cnt;have au:(k:Int)<(n:Int):=ga
   have ax:(0:Int)<=(k:Int):=ga
   obtain⟨HX,HB,a2,an⟩:=h_4 hx hb aj ag;clear ac ah hx hb aj ao af ag;cases h0:aH x.nm
   ·go_wp2_with (go_at_call 78;refine(aS _ _).mono ?_;rintro e w3 ⟨rfl,ab⟩;obtain rfl:=ab)
    go_ret;exact⟨by rw[ai.o 12 (by simp[iC,h0]) gb];rfl,ad.o⟩
   ·by_cases av:k=0
    ·subst av;simp only[Nat.zero_mul,Nat.add_zero] at x0 x1;have HE:f7 (iC l 0 x=if inQ x.nu 0 999999999999999=false then 2 else 0):=f8 (by simp[iC,h0]);go_upto_region 6 with (go_at_call 78;refine(aS _ _).mono ?_;rintro e w3 ⟨rfl,ab⟩;obtain rfl:=ab)
     refine iz (S:=(λ_=>True)) gd (trivial) (λhS=>?_);refine tA 0 ?_;refine tA 1 ?_;refine tA 2 ?_;refine jz (i:=3) (oi:=_) (v:=undef) rfl gd gd gd (λ_ _ _ h=>h) (Or.inr ⟨by rfl,rfl⟩) hS ?_;simp only[Act.put,pq];refine jz (i:=4) (oi:=_) (v:=undef) rfl gd gd gd (λ_ _ _ h=>h) (Or.inr ⟨by rfl,rfl⟩) hS ?_;simp only[Act.put,pq];refine jz (i:=5) (oi:=_) (v:=undef) rfl gd gd gd (λ_ _ _ h=>h) (Or.inr ⟨by rfl,rfl⟩) hS ?_;simp only[Act.put,pq]
     refine jz (i:=6) (oi:=_) (v:=undef) rfl gd gd gd (λ_ _ _ h=>h) (Or.inr ⟨by rfl,rfl⟩) hS ?_;simp only[Act.put,pq];refine jz (i:=7) (oi:=_) (v:=undef) rfl gd gd gd (λ_ _ _ h=>h) (Or.inr ⟨by rfl,rfl⟩) hS ?_;simp only[Act.put,pq];refine jz (i:=8) (oi:=_) (v:=undef) rfl gd gd gd (λ_ _ _ h=>h) (Or.inr ⟨by rfl,rfl⟩) hS ?_;simp only[Act.put,pq]
     refine jz (i:=9) (oi:=_) (v:=undef) rfl gd gd gd (λ_ _ _ h=>h) (Or.inr ⟨by rfl,rfl⟩) hS ?_;simp only[Act.put,pq];refine jz (i:=10) (oi:=_) (v:=undef) rfl gd gd gd (λ_ _ _ h=>h) (Or.inr ⟨by rfl,rfl⟩) hS ?_;simp only[Act.put,pq];refine jz (i:=11) (oi:=_) (v:=undef) rfl gd gd gd (λ_ _ _ h=>h) (Or.inr ⟨by rfl,rfl⟩) hS ?_;simp only[Act.put,pq]
     refine jz (i:=12) (oi:=_) (v:=undef) rfl gd gd gd (λ_ _ _ h=>h) (Or.inr ⟨by rfl,rfl⟩) hS ?_;simp only[Act.put,pq];refine jz (i:=13) (oi:=_) (v:=undef) rfl gd gd gd (λ_ _ _ h=>h) (Or.inr ⟨by rfl,rfl⟩) hS ?_;simp only[Act.put,pq];refine jz (i:=14) (oi:=_) (v:=undef) rfl gd gd gd (λ_ _ _ h=>h) (Or.inr ⟨by rfl,rfl⟩) hS ?_;simp only[Act.put,pq];refine tA 15 ?_;refine tA 16 ?_;refine iq gd ?_ _
     (try dsimp only)
     skip
     cases h2:inQ x.nu 0 999999999999999
     ·go_wp2_with (go_at_call 75;refine(cW _ _ _ _).mono ?_;rintro e w3 ⟨rfl,ab⟩;obtain rfl:=ab)
      go_ret;exact⟨by rw[ai.o 2 (by rw[HE.o,h2];rfl) gb];rfl,ad.drew⟩
     ·have ak:=f8 (HZ.o (by rw[HE.o,h2];rfl));go_wp2_with (go_at_call 75;refine(cW _ _ _ _).mono ?_;rintro e w3 ⟨rfl,ab⟩;obtain rfl:=ab)
      go_roundw
      case rel=>exact⟨0+1,by omega,by go_num,ak.o,ad.drew⟩
      case measure=>simp[intOf];omega
    ·obtain⟨y,aq,ap⟩:=HX.o (k-1) (by have:=an.o;omega);have al:l.getD (k-1) x=y:=by rw[pn,n3 (by have:=an.o;omega:k-1<l.length)];exact ap.e.symm
     have am:=(aq.same (ad.block b HB.o)).cnt;obtain⟨q,hq⟩:=xe (leS x.nm y.nm)
     have a1:(Op.bytesLess x.nm.toList y.nm.toList||x.nm.toList==y.nm.toList)=q:=hq.symm;have HE:f7 (iC l k x=if q=true then 24 else if inQ x.nu 0 999999999999999=false then 2 else 0):=f8 (by unfold iC;rw[al,hq];simp[h0,show 0<k by omega]);have a0:(0:Nat)<k:=ga
     have a4:IntKind.i64.wrap ((k:Int)-1)=((k-1:Nat):Int):=by rw[ip _ (by have:n * 24<=140737488351232:=ae;omega)];omega
     have ay:((k-1:Nat):Int)<(n:Int):=ga
     have az:(0:Int)<=((k-1:Nat):Int):=ga
     have aa:=f8 (λ(w':World) (h:w'.heap[b]?=wp.heap[b]?)=>(show w'.cell? ⟨b,o+k * 2,none⟩=some (Sv x.nm)/\w'.cell? ⟨b,o+(k-1) * 2,none⟩=some (Sv y.nm) from⟨(jg (w:=wp) (a:=⟨b,o+k * 2,none⟩) h).trans x0,(jg (w:=wp) (a:=⟨b,o+(k-1) * 2,none⟩) h).trans am.1⟩));clear aq ap al am hq;go_upto_region 6 with (go_at_call 78;refine(aS _ _).mono ?_;rintro e w3 ⟨rfl,ab⟩;obtain rfl:=ab)
     refine iz (S:=(λw'=>w'.heap[b]?=wp.heap[b]?)) gd (rfl) (λhS=>?_);refine tC 0 aa ?_;refine tC 1 aa ?_;refine tC 2 aa ?_;refine tC 3 aa ?_;refine tC 4 aa ?_;refine tC 5 aa ?_;refine tC 6 aa ?_;refine tC 7 aa ?_;refine tC 8 aa ?_;refine tC 9 aa ?_;refine tC 10 aa ?_;refine tC 11 aa ?_;refine tC 12 aa ?_;refine tC 13 aa ?_;refine tC 14 aa ?_;refine tC 15 aa ?_;refine tC 16 aa ?_;refine iq gd ?_ _
     (try dsimp only)
     skip
     cases q
     ·cases h2:inQ x.nu 0 999999999999999
      ·go_wp2_with (go_at_call 75;refine(cW _ _ _ _).mono ?_;rintro e w3 ⟨rfl,ab⟩;obtain rfl:=ab)
       go_ret;exact⟨by rw[ai.o 2 (by rw[HE.o,h2];rfl) gb];rfl,ad.drew⟩
      ·have ak:=f8 (HZ.o (by rw[HE.o,h2];rfl));go_wp2_with (go_at_call 75;refine(cW _ _ _ _).mono ?_;rintro e w3 ⟨rfl,ab⟩;obtain rfl:=ab)
       go_roundw
       case rel=>exact⟨k+1,by omega,by go_num,ak.o,ad.drew⟩
       case measure=>simp[intOf];omega
     ·go_wp2;go_ret;exact⟨by rw[ai.o 24 (by rw[HE.o];rfl) gb];rfl,ad.drew⟩
  ·obtain rfl:k=n:=ga
   have r:=f8 (eY (f:=iC l) (m:=0) (l:=l) λj h1=>by rw[ir];exact ac j h1 (by have:=HL.o;omega));clear ac ah;go_wp2;go_ret;exact⟨retI r.o.symm,ad.o⟩
theorem aHa (x:EfC) (d:Ef) (w:World) (hd:IsEf (· < w.heap.size) w x d):CP 133 #[.agg #[I6 x.rs.e,Sl x.rs.a x.rs.n x.rs.c,Sv x.sv,I6 x.ca,.bool x.un,I6 x.bd.k,I6 x.bd.i,I6 x.bd.s,Sv x.bd.t,Sl x.bd.la x.bd.ll x.bd.lc,Sl x.bd.fa x.bd.fl x.bd.fc]] w (Rt (.bool (nZ d)) w):=by
 have ab:BB w (w.alloc (rqO x)):=(bR w).alloc lr _;obtain⟨z,hz⟩:=xe (fH d.bd)
 have HE:=f8 (show nZ d=(decide (x.rs.e=0)&&(decide ((x.rs.n:Int)=0)&&(x.sv.toList.isEmpty&&(decide (x.ca=0)&&(!x.un&&z))))) by
  unfold nZ;rw[<-hd.rs.e,<-hd.rs.ps.len,<-hd.sv,<-hd.ca,<-hd.un,<-hz];rw[show decide (x.rs.n=0)=decide ((x.rs.n:Int)=0) from by simp])
 have HZ:=f8 (show eO x.bd.k x.bd.i x.bd.s x.bd.t x.bd.ll x.bd.fl=z by rw[hz];exact(iN hd.bd).symm);obtain⟨w0,aa⟩:=xe (w.alloc (rqO x))
 have hx:w0.heap[w.heap.size]?=some (rqO x):=by rw[aa];exact ib w _
 rw[<-aa] at ab;obtain⟨HB,HW⟩:=h_2 ab aa;obtain⟨a0,a1,a2,a3,a4,a5,a6,a7,a8,a9,ae⟩:=c_11 hx;(try dsimp only at a0 a1 a2 a3 a4 a5 a6 a7 a8 a9 ae);clear ab hd hz hx aa;obtain⟨xk,nm,nu,tx,st,rs,sv,ca,un,bd,nd⟩:=x;dsimp only[rqO] at HE HZ HW a0 a1 a2 a3 a4 a5 a6 a7 a8 a9 ae ⊢;go_enter func133,ntmps133
 go_upto_region 1 with (fail)
 rw[<-HW.o];have ad:=f8 (bT bd.k bd.i bd.s bd.t bd.la bd.ll bd.lc bd.fa bd.fl bd.fc w0);rw[HZ.o] at ad;go_wp2_with (go_at_call 109;refine ad.mono ?_;rintro e w3 ⟨rfl,ac⟩;have af:=f8 ac;clear ac)
 all_goals
  go_ret;refine⟨?_,by first|exact HB.o|exact HB.trans (af.mono HB.size)⟩;rw[HE.o];clear HE;simp_all<;>(try intro _)<;>omega
theorem tI (x:EfC) (d:Ef) (w:World) (hd:IsEf (· < w.heap.size) w x d) (hT:Tabs w):CP 80 #[.agg #[I6 x.k,Sv x.nm,I6 x.nu,Sv x.tx,I6 x.st.e,Sl x.st.a x.st.n x.st.c,I6 x.rs.e,Sl x.rs.a x.rs.n x.rs.c,Sv x.sv,I6 x.ca,.bool x.un,I6 x.bd.k,I6 x.bd.i,I6 x.bd.s,Sv x.bd.t,Sl x.bd.la x.bd.ll x.bd.lc,Sl x.bd.fa x.bd.fl x.bd.fc,Sv x.nd]] w (Rt (I6 (efE d)) w):=by
 obtain⟨w0,ae⟩:=xe (w.alloc (efO x))
 have af:BB w w0:=by rw[ae];exact(bR w).alloc lr _
 have bi:w0.heap.size=w.heap.size+1:=by rw[ae];simp
 have hx:w0.heap[w.heap.size]?=some (efO x):=by rw[ae];exact ib w _
 obtain⟨se,ai⟩:=xe (aZ d.st)
 obtain⟨z,hz⟩:=xe (nZ d)
 obtain⟨z2,aj⟩:=xe (mD d.rs d.st)
 obtain⟨ce,ah⟩:=xe (bG d.bd)
 have hq:∀w1,BB w0 w1->∀b,b<w.heap.size->b<w1.heap.size/\w1.heap[b]?=w.heap[b]?:=λw1 hb b hb'=>⟨by have:=hb.size;omega,(hb.block b ga).trans (af.block b hb')⟩
 have an:f7 (CP 105 #[x.st.v] w0 (Rt (I6 se) w0)):=f8 (by rw[ai];exact eD (· < w.heap.size) x.st d.st w _ hd.st λb hb=>⟨by omega,af.block b hb⟩);have ap:=f8 (λ(w1:World) (hb:BB w0 w1)=>(show CP 133 #[.agg #[I6 x.rs.e,Sl x.rs.a x.rs.n x.rs.c,Sv x.sv,I6 x.ca,.bool x.un,I6 x.bd.k,I6 x.bd.i,I6 x.bd.s,Sv x.bd.t,Sl x.bd.la x.bd.ll x.bd.lc,Sl x.bd.fa x.bd.fl x.bd.fc]] w1 (Rt (.bool z) w1) from by
  rw[hz];exact aHa x d w1 (hd.same (hq w1 hb))))
 have aq:=f8 (λ(w1:World) (hb:BB w0 w1)=>(show CP 73 #[x.rs.v,x.st.v] w1 (Rt (.bool z2) w1) from by
  rw[aj];exact jV _ _ _ _ w1 (hd.rs.same (hq w1 hb)) (hd.st.same (hq w1 hb))))
 have am:=f8 (λ(w':World) (hb:BB w w')=>(show CP 110 #[x.bd.v] w' (Rt (I6 ce) w') from by
  rw[ah];exact iV x.bd d.bd w' (hd.bd.same λb hb'=>⟨by have:=hb.size;omega,hb.block b hb'⟩) (hT.below hb)))
 have HE:f7 (efE d=if x.k≠1/\x.k≠2 then 11 else if aH x.nm=false then 12 else if inQ x.nu 1 999999999999999=false then 2 else if se≠0 then se
  else if x.k=1 then (if 65536<x.tx.size then 5 else if z=false\/x.nd.toList.isEmpty=false then 3 else 0)
  else if x.tx.toList.isEmpty=false\/(x.sv.toList==x.nm.toList)=false\/z2=false then 3 else if aH x.nd=false then 12 else if inQ x.ca 0 999999999999999=false then 2 else ce):=f8 (by
  unfold efE;rw[hd.k,hd.nm,hd.nu,hd.tx,hd.nd,hd.sv,hd.ca,ai,hz,aj,ah])
 have c0:=aA hx 0;have c1:=aA hx 1;have c2:=aA hx 2;have c4:=aA hx 4;have c5:=aA hx 5;(try dsimp only at c0 c1 c2 c4 c5);obtain⟨HX,HB,HW⟩:=h_3 hx af ae;clear af hd hT hz aj ai ah hq hx ae bi;obtain⟨xk,nm,nu,tx,st,rs,sv,ca,un,bd,nd⟩:=x;dsimp only[SC.v,VC.v] at an HE ap aq am ⊢;go_enter func80,ntmps80
 go_upto_region 1 with (fail)
 rw[<-HW.o]
 go_wp2_with (first|(go_at_call 78;refine(aS _ _).mono ?_;rintro e w3 ⟨rfl,al⟩;obtain rfl:=al)|(go_at_call 75;refine(cW _ _ _ _).mono ?_;rintro e w3 ⟨rfl,al⟩;obtain rfl:=al)|(go_at_call 105;refine an.mono ?_;rintro e w1 ⟨rfl,ag⟩;have aa:=f8 ag;have ao:=aB ag HX.o;obtain⟨a0,a1,a2,a3,a4,a5,a6,a7,a8,a9,bg,bh,av,ay,bc,aw,bj,au⟩:=c_18 ao;(try dsimp only at a0 a1 a2 a3 a4 a5 a6 a7 a8 a9 bg bh av ay bc aw bj au);clear ao ag)|(go_at_call 133;refine(ap.o _ aa.o).mono ?_;rintro e w4 ⟨rfl,ac⟩;have ad:=f8 ac;have ab:=aB ac (aB aa.o HX.o);have ak:=aA ab 17;(try dsimp only at ak);clear ab ac)|(go_at_call 73;refine(aq.o _ aa.o).mono ?_;rintro e w4 ⟨rfl,ac⟩;have ad:=f8 ac;have ab:=aB ac (aB aa.o HX.o);have c9:=aA ab 9;have bk:=aA ab 11;have bf:=aA ab 12;have az:=aA ab 13;have bb:=aA ab 14;have be:=aA ab 15;have ax:=aA ab 16;have ak:=aA ab 17;(try dsimp only at c9 bk bf az bb be ax ak);clear ab ac)|(go_at_call 110;refine(am.o _ (HB.trans ((aa.trans (ad.mono aa.size)).mono HB.size))).mono ?_;rintro e w6 ⟨rfl,ar⟩;have ba:=f8 ar;clear ar))
 all_goals
  go_ret;refine⟨?_,by first|exact HB.o|exact HB.trans (aa.mono HB.size)|exact HB.trans ((aa.trans (ad.mono aa.size)).mono HB.size)|exact(HB.trans ((aa.trans (ad.mono aa.size)).mono HB.size)).trans (ba.mono (HB.trans ((aa.trans (ad.mono aa.size)).mono HB.size)).size)⟩;rw[HE.o];clear HE;simp_all<;>(try intro _)<;>omega
section
theorem mK {D:Type} (f:Nat->D->Int) (l:List D) (k:Nat) (h:k<l.length) (hz:∀j (h1:j<l.length),j<k->f j l[j]=0) (v:Int) (hv:f k l[k]=v) (aa:v≠0):aR f 0 l=v:=by
 have h0:=gD (f:=f) (m:=0) k h (λj h1 h2=>by rw[ir];exact hz j h1 h2) (by rw[ir,hv];exact aa);rw[ir,hv] at h0;exact h0
theorem fU {D:Type} (f:Nat->D->Int) (l:List D) (hz:∀j (h1:j<l.length),f j l[j]=0):aR f 0 l=0 :=
 eY (m:=0) λj h1=>by rw[ir];exact hz j h1
section
attribute [-go_sem] loadCellsFrom storeCells
attribute [local go_sem] mG mF pT tF tE sY aHm aHl lcf8 lcf9 aNi aNh aNg aNf mB mA stc2 stc3 stc4 stc5 stc6 stc7 stc8
theorem uU (c:SnC) (d:Snp) (w:World) (hd:IsSn (· < w.heap.size) w c d) (hT:Tabs w):CP 32 #[c.w] w (Rt (I6 (snE d)) w):=by
 obtain⟨cv,ce,ct,na,nl,nc,aa,al,ac,sa,sl,sc,qa,ql,qc,la,ll,lc,pa,pl,pc⟩:=c;dsimp only[SnC.w];have aw:=f8 (λ(n a b:Int) (w:World)=>cW n a b w);obtain⟨r1,bl⟩:=xe (aR (λ_ s=>bZ s) 0 d.ns)
 obtain⟨r2,bf⟩:=xe (aR (iC d.ar) 0 d.ar)
 obtain⟨r3,bm⟩:=xe (aR (iC d.se) 0 d.se)
 obtain⟨r4,bj⟩:=xe (aR (λ_ q=>jX q) 0 d.qs)
 obtain⟨r5,bi⟩:=xe (aR (λ_ s=>qO s) 0 d.ls)
 obtain⟨r6,bh⟩:=xe (aR (λ_ s=>efE s) 0 d.ps)
 obtain⟨WB,bb⟩:=xe (((w.alloc (.cells #[I6 cv,I6 ce,I6 ct,Sl na nl nc,Sl aa al ac,Sl sa sl sc,Sl qa ql qc,Sl la ll lc,Sl pa pl pc] 30)).alloc (.cells #[I6 cv,I6 ce,I6 ct,Sl na nl nc,Sl aa al ac,Sl sa sl sc,Sl qa ql qc,Sl la ll lc] 27)))
 have a8:BB w WB:=by rw[bb];exact((bR w).alloc lr _).alloc ge _
 have g1:WB.heap[w.heap.size]?=some (.cells #[I6 cv,I6 ce,I6 ct,Sl na nl nc,Sl aa al ac,Sl sa sl sc,Sl qa ql qc,Sl la ll lc,Sl pa pl pc] 30):=by rw[bb];exact aC _ (ib w _)
 have g2:WB.heap[w.heap.size+1]?=some (.cells #[I6 cv,I6 ce,I6 ct,Sl na nl nc,Sl aa al ac,Sl sa sl sc,Sl qa ql qc,Sl la ll lc] 27):=by rw[bb];exact aN _ _ _ ge
 have hq:∀w',BB WB w'->∀b,b<w.heap.size->b<w'.heap.size/\w'.heap[b]?=w.heap[b]?:=λw' h b hb=>⟨by have h1:=h.size;have h2:=a8.size;omega,(h.block b (by have h2:=a8.size;omega)).trans (a8.block b hb)⟩
 have bq:=f8 (λ(w':World) (h:BB WB w')=>(show CP 77 #[Sl aa al ac] w' (Rt (I6 r2) w') from by
  rw[bf];exact mH _ _ _ _ w' (hd.ar.same λb hb=>hq w' h b hb)))
 have br:=f8 (λ(w':World) (h:BB WB w')=>(show CP 77 #[Sl sa sl sc] w' (Rt (I6 r3) w') from by
  rw[bm];exact mH _ _ _ _ w' (hd.se.same λb hb=>hq w' h b hb)))
 have HE:=f8 (show snE d=if inQ cv 0 999=false\/inQ ce 0 1048576=false\/inQ ct 0 17592186044416=false then 2 else if 128<nl then 9 else orL [r1,r2,r3,r4,r5,r6] by
  unfold snE;rw[<-bl,<-bf,<-bm,<-bj,<-bi,<-bh,<-hd.v,<-hd.e,<-hd.t,<-hd.ns.len])
 obtain⟨af,ba,G1,G2,HQ,HD,HT,a2⟩:=h_8 a8 bb g1 g2 hq hd hT bl;obtain⟨a3,a7,a6⟩:=h_3 bj bi bh;obtain⟨m0,m1,m2⟩:=c_3 g2;have m3:=aA g2 3
 (try dsimp only at m0 m1 m2 m3)
 clear hd hT a8 g1 g2 bb hq bl bf bm bj bi bh;cases b1:inQ cv 0 999
 ·skip
  go_enter func32,ntmps32
  go_upto_region 2 with (fail)
  rw[<-ba.o];go_wp2_with (go_at_call 75;refine(aw.o _ _ _ _).mono ?_;rintro q w3 ⟨rfl,ad⟩;rw[ad];clear ad)
  go_ret;exact⟨by rw[HE.o,gw (by simp[b1])];rfl,af.o⟩
 ·cases b2:inQ ce 0 1048576
  ·skip
   go_enter func32,ntmps32
   go_upto_region 2 with (fail)
   rw[<-ba.o];go_wp2_with (go_at_call 75;refine(aw.o _ _ _ _).mono ?_;rintro q w3 ⟨rfl,ad⟩;rw[ad];clear ad)
   go_ret;exact⟨by rw[HE.o,gw (by simp[b2])];rfl,af.o⟩
  ·cases b3:inQ ct 0 17592186044416
   ·skip
    go_enter func32,ntmps32
    go_upto_region 2 with (fail)
    rw[<-ba.o];go_wp2_with (go_at_call 75;refine(aw.o _ _ _ _).mono ?_;rintro q w3 ⟨rfl,ad⟩;rw[ad];clear ad)
    go_ret;exact⟨by rw[HE.o,gw (by simp[b3])];rfl,af.o⟩
   ·by_cases b4:(128:Int)<(nl:Int)
    ·have bk:128<nl:=ga
     go_enter func32,ntmps32
     go_upto_region 2 with (fail)
     rw[<-ba.o];go_wp2_with (go_at_call 75;refine(aw.o _ _ _ _).mono ?_;rintro q w3 ⟨rfl,ad⟩;rw[ad];clear ad)
     go_ret;exact⟨by rw[HE.o,f9 (by simp[b1,b2,b3]),gw bk];rfl,af.o⟩
    ·have bk:¬ 128<nl:=ga
     have HF:f7 (snE d=orL [r1,r2,r3,r4,r5,r6]):=f8 (by rw[HE.o,f9 (by simp[b1,b2,b3]),f9 bk]);go_enter func32,ntmps32
     go_upto_region 2 with (fail)
     rw[<-ba.o];go_wp2_with (go_at_call 75;refine(aw.o _ _ _ _).mono ?_;rintro q w3 ⟨rfl,ad⟩;rw[ad];clear ad)
     clear m0 m1 m2 m3 b4
     go_loopw [4] (λi wr=>∃k:Nat,k<=nl/\i=I6 k/\(∀j (h1:j<d.ns.length),j<k->bZ d.ns[j]=0)/\BB WB wr) (λi _=>nl-(intOf i).toNat)
     case atStart=>exact⟨0,ii _,rfl,λj _ h=>absurd h (lj j),gx _ _⟩
     case round =>
      obtain⟨k,hk,rfl,ab,ae⟩:=hrel;obtain⟨wp,rfl⟩:=xe (wr:World)
      have ap:=f8 ae;have e1:=aA (aB ae G2.o) 3
      (try dsimp only at e1)
      have a1:(nl:Int)<=9223372036854775807:=by have h:=HD.ns.big;dsimp only at h;omega
      by_cases a0:k<nl
      ·have ai:k<d.ns.length:=by have:=HD.ns.len;dsimp only at this;omega
       obtain⟨b,o,aj,hb,hx⟩:=HD.ns.slot (show 0<nl by omega);dsimp only at aj hx;rw[aj] at e1;obtain⟨x,an,ak⟩:=hx k ai;obtain⟨dx,ah⟩:=xe (d.ns[k])
       rw[<-ah] at ak;have aq:f7 (∀v,bZ dx=v->v≠0->r1=v):=f8 (λv hv hne=>by
        rw[a2.o];exact mK _ _ k ai ab v (by rw[<-hv,ah]) hne)
       have HZ:f7 (bZ dx=0->∀j (h1:j<d.ns.length),j<k+1->bZ d.ns[j]=0):=f8 (λhv j h1 h=>by
        by_cases ax:j<k
        ·exact ab j h1 ax
        ·obtain rfl:j=k:=ga
         rw[<-ah];exact hv)
       obtain⟨x0,x1,x2⟩:=AtG.sta (an.same (HQ.o wp ae b hb).2);have ay:(k:Int)<(nl:Int):=ga
       have bg:(0:Int)<=(k:Int):=ga
       obtain⟨u,hu⟩:=xe (bZ dx)
       have HC:f7 (CP 76 #[.agg #[I6 x.n,I6 x.t,Sl x.a x.l x.c]] wp (Rt (I6 u) wp)):=f8 (by
        rw[hu];exact fM x dx wp (staK.same (λb hb=>HQ.o wp ae b hb) ak) (((HT.below af.o).below ae)))
       have HU:=f8 hu;clear hu aj ah an ak hx hb ab ae ai;by_cases hz:u=0
       ·subst hz;have az:=f8 (HZ.o HU.symm);go_wp2_with (go_at_call 76;refine HC.mono ?_;rintro e w3 ⟨rfl,ag⟩)
        go_roundw
        case rel=>exact⟨k+1,by omega,by go_num,az.o,ap.trans (ag.mono ap.size)⟩
        case measure=>simp[intOf];omega
       ·have bc:(u==0)=false:=by simp[hz]
        have be:(u != 0)=true:=by simp[hz]
        have am:=f8 (aq.o u HU.symm hz);have av:=f8 hz;clear hz;go_wp2_with (go_at_call 76;refine HC.mono ?_;rintro e w3 ⟨rfl,ag⟩)
        go_ret;exact⟨retI (by rw[HF.o];simp only[orL,ne_eq,n7,ite_false,ite_true];simp[am.o,av.o]),af.trans ((ap.trans (ag.mono ap.size)).mono af.size)⟩
      ·obtain rfl:k=nl:=ga
       have Z1:f7 (r1=0):=f8 (by rw[a2.o];exact fU _ _ λj h1=>ab j h1 (by have h:=HD.ns.len;dsimp only at h;omega));clear ab ae a0 hk;have e2:=aA (aB ap.o G2.o) 4
       (try dsimp only at e2)
       by_cases z2:r2=0
       ·subst z2;go_upto_region 15 with (go_at_call 77;refine(bq.o _ ap.o).mono ?_;rintro e w3 ⟨rfl,ag⟩;have au:=f8 ((ap.o).trans (ag.mono (ap.o).size));clear ag)
        clear e2;have e3:=aA (aB au.o G2.o) 5
        (try dsimp only at e3)
        by_cases z3:r3=0
        ·subst z3;go_wp2_with (go_at_call 77;refine(br.o _ au.o).mono ?_;rintro e w3 ⟨rfl,ag⟩;have bn:=f8 ((au.o).trans (ag.mono (au.o).size));clear ag)
         clear e3
         go_loopw [8] (λi wr=>∃k:Nat,k<=ql/\i=I6 k/\(∀j (h1:j<d.qs.length),j<k->jX d.qs[j]=0)/\BB WB wr) (λi _=>ql-(intOf i).toNat)
         case atStart=>exact⟨0,ii _,rfl,λj _ h=>absurd h (lj j),bn.o⟩
         case round =>
          obtain⟨k,hk,rfl,ab,ae⟩:=hrel;obtain⟨wp,rfl⟩:=xe (wr:World)
          have ao:=f8 ae;have e4:=aA (aB ae G2.o) 6
          (try dsimp only at e4)
          have a1:(ql:Int)<=9223372036854775807:=by have h:=HD.qs.big;dsimp only at h;omega
          by_cases a0:k<ql
          ·have ai:k<d.qs.length:=by have:=HD.qs.len;dsimp only at this;omega
           obtain⟨b,o,aj,hb,hx⟩:=HD.qs.slot (show 0<ql by omega);dsimp only at aj hx;rw[aj] at e4;obtain⟨x,an,ak⟩:=hx k ai;obtain⟨dx,ah⟩:=xe (d.qs[k])
           rw[<-ah] at ak;have aq:f7 (∀v,jX dx=v->v≠0->r4=v):=f8 (λv hv hne=>by
            rw[a3.o];exact mK _ _ k ai ab v (by rw[<-hv,ah]) hne)
           have HZ:f7 (jX dx=0->∀j (h1:j<d.qs.length),j<k+1->jX d.qs[j]=0):=f8 (λhv j h1 h=>by
            by_cases ax:j<k
            ·exact ab j h1 ax
            ·obtain rfl:j=k:=ga
             rw[<-ah];exact hv)
           obtain⟨x0,x1,x2,x3⟩:=AtG.que (an.same (HQ.o wp ae b hb).2);have ay:(k:Int)<(ql:Int):=ga
           have bg:(0:Int)<=(k:Int):=ga
           have bp:dx=x:=ak.e.symm;have a5:=f8 bp;clear aj ah an ak hx hb ab ae ai bp;cases h0:aH x.nm
           ·skip
            have am:=f8 (aq.o 12 (by rw[a5.o];simp[jX,h0]) gb);go_wp2_with (first|(go_at_call 78;refine(aS _ _).mono ?_;rintro e w3 ⟨rfl,ad⟩;rw[<-ad];clear ad))
            go_ret;exact⟨retI (by rw[HF.o];simp only[orL,Z1.o,ne_eq,n7,ite_false,ite_true];simp[am.o]),af.trans (((ao.alloc ao.size _)).mono af.size)⟩
           ·cases h1:inQ x.nu 1 999999999999999
            ·skip
             have am:=f8 (aq.o 2 (by rw[a5.o];simp[jX,h0,h1]) gb);go_wp2_with (first|(go_at_call 78;refine(aS _ _).mono ?_;rintro e w3 ⟨rfl,ad⟩;rw[<-ad];clear ad)|(go_at_call 75;refine(aw.o _ _ _ _).mono ?_;rintro q w3 ⟨rfl,ad⟩;rw[ad];clear ad))
             go_ret;exact⟨retI (by rw[HF.o];simp only[orL,Z1.o,ne_eq,n7,ite_false,ite_true];simp[am.o]),af.trans (((ao.alloc ao.size _)).mono af.size)⟩
            ·cases h2:inQ x.vr 1 999
             ·skip
              have am:=f8 (aq.o 2 (by rw[a5.o];simp[jX,h0,h1,h2]) gb);go_wp2_with (first|(go_at_call 78;refine(aS _ _).mono ?_;rintro e w3 ⟨rfl,ad⟩;rw[<-ad];clear ad)|(go_at_call 75;refine(aw.o _ _ _ _).mono ?_;rintro q w3 ⟨rfl,ad⟩;rw[ad];clear ad))
              go_ret;exact⟨retI (by rw[HF.o];simp only[orL,Z1.o,ne_eq,n7,ite_false,ite_true];simp[am.o]),af.trans (((ao.alloc ao.size _)).mono af.size)⟩
             ·by_cases h3:(65536:Int)<(x.tx.size:Int)
              ·have bo:65536<x.tx.size:=ga
               have am:=f8 (aq.o 5 (by rw[a5.o];simp[jX,h0,h1,h2,bo]) gb);go_wp2_with (first|(go_at_call 78;refine(aS _ _).mono ?_;rintro e w3 ⟨rfl,ad⟩;rw[<-ad];clear ad)|(go_at_call 75;refine(aw.o _ _ _ _).mono ?_;rintro q w3 ⟨rfl,ad⟩;rw[ad];clear ad))
               go_ret;exact⟨retI (by rw[HF.o];simp only[orL,Z1.o,ne_eq,n7,ite_false,ite_true];simp[am.o]),af.trans (((ao.alloc ao.size _)).mono af.size)⟩
              ·have bo:¬ 65536<x.tx.size:=ga
               have az:=f8 (HZ.o (by rw[a5.o];simp[jX,h0,h1,h2,bo]));go_wp2_with (first|(go_at_call 78;refine(aS _ _).mono ?_;rintro e w3 ⟨rfl,ad⟩;rw[<-ad];clear ad)|(go_at_call 75;refine(aw.o _ _ _ _).mono ?_;rintro q w3 ⟨rfl,ad⟩;rw[ad];clear ad))
               go_roundw
               case rel=>exact⟨k+1,by omega,by go_num,az.o,(ao.alloc ao.size _)⟩
               case measure=>simp[intOf];omega
          ·obtain rfl:k=ql:=ga
           have Z4:f7 (r4=0):=f8 (by rw[a3.o];exact fU _ _ λj h1=>ab j h1 (by have h:=HD.qs.len;dsimp only at h;omega));clear ab ae a0 hk;go_wp2
           go_loopw [10] (λi wr=>∃k:Nat,k<=ll/\i=I6 k/\(∀j (h1:j<d.ls.length),j<k->qO d.ls[j]=0)/\BB WB wr) (λi _=>ll-(intOf i).toNat)
           case atStart=>exact⟨0,ii _,rfl,λj _ h=>absurd h (lj j),ao.o⟩
           case round =>
            obtain⟨k,hk,rfl,ab,ae⟩:=hrel;obtain⟨wp,rfl⟩:=xe (wr:World)
            have a9:=f8 ae;have e5:=aA (aB ae G2.o) 7
            (try dsimp only at e5)
            have a1:(ll:Int)<=9223372036854775807:=by have h:=HD.ls.big;dsimp only at h;omega
            by_cases a0:k<ll
            ·have ai:k<d.ls.length:=by have:=HD.ls.len;dsimp only at this;omega
             obtain⟨b,o,aj,hb,hx⟩:=HD.ls.slot (show 0<ll by omega);dsimp only at aj hx;rw[aj] at e5;obtain⟨x,an,ak⟩:=hx k ai;obtain⟨dx,ah⟩:=xe (d.ls[k])
             rw[<-ah] at ak;have aq:f7 (∀v,qO dx=v->v≠0->r5=v):=f8 (λv hv hne=>by
              rw[a7.o];exact mK _ _ k ai ab v (by rw[<-hv,ah]) hne)
             have HZ:f7 (qO dx=0->∀j (h1:j<d.ls.length),j<k+1->qO d.ls[j]=0):=f8 (λhv j h1 h=>by
              by_cases ax:j<k
              ·exact ab j h1 ax
              ·obtain rfl:j=k:=ga
               rw[<-ah];exact hv)
             obtain⟨x0,x1,x2,x3,x4,x5,x6,x7,x8,x9,bt,bu,bv⟩:=AtG.let' (an.same (HQ.o wp ae b hb).2);have ay:(k:Int)<(ll:Int):=ga
             have bg:(0:Int)<=(k:Int):=ga
             obtain⟨u,hu⟩:=xe (qO dx)
             have HC:f7 (CP 79 #[.agg #[I6 x.m.st.e,Sl x.m.st.a x.m.st.n x.m.st.c,I6 x.m.m,Sl x.m.a x.m.n x.m.c,I6 x.m.b.k,I6 x.m.b.i,I6 x.m.b.s,Sv x.m.b.t,Sl x.m.b.la x.m.b.ll x.m.b.lc,Sl x.m.b.fa x.m.b.fl x.m.b.fc,Sv x.nd,Sv x.tx,I6 x.vr]] wp (Rt (I6 u) wp)):=f8 (by
              rw[hu];exact tG x dx wp (letK.same (λb hb=>HQ.o wp ae b hb) ak) (((HT.below af.o).below ae)))
             have HU:=f8 hu;clear hu aj ah an ak hx hb ab ae ai;by_cases hz:u=0
             ·subst hz;have az:=f8 (HZ.o HU.symm);go_wp2_with (go_at_call 79;refine HC.mono ?_;rintro e w3 ⟨rfl,ag⟩)
              go_roundw
              case rel=>exact⟨k+1,by omega,by go_num,az.o,a9.trans (ag.mono a9.size)⟩
              case measure=>simp[intOf];omega
             ·have bc:(u==0)=false:=by simp[hz]
              have be:(u != 0)=true:=by simp[hz]
              have am:=f8 (aq.o u HU.symm hz);have av:=f8 hz;clear hz;go_wp2_with (go_at_call 79;refine HC.mono ?_;rintro e w3 ⟨rfl,ag⟩)
              go_ret;exact⟨retI (by rw[HF.o];simp only[orL,Z1.o,Z4.o,ne_eq,n7,ite_false,ite_true];simp[am.o,av.o]),af.trans ((a9.trans (ag.mono a9.size)).mono af.size)⟩
            ·obtain rfl:k=ll:=ga
             have Z5:f7 (r5=0):=f8 (by rw[a7.o];exact fU _ _ λj h1=>ab j h1 (by have h:=HD.ls.len;dsimp only at h;omega));clear ab ae a0 hk;go_wp2
             go_loopw [12] (λi wr=>∃k:Nat,k<=pl/\i=I6 k/\(∀j (h1:j<d.ps.length),j<k->efE d.ps[j]=0)/\BB WB wr) (λi _=>pl-(intOf i).toNat)
             case atStart=>exact⟨0,ii _,rfl,λj _ h=>absurd h (lj j),a9.o⟩
             case round =>
              obtain⟨k,hk,rfl,ab,ae⟩:=hrel;obtain⟨wp,rfl⟩:=xe (wr:World)
              have a4:=f8 ae;have e6:=aA (aB ae G1.o) 8
              (try dsimp only at e6)
              have a1:(pl:Int)<=9223372036854775807:=by have h:=HD.ps.big;dsimp only at h;omega
              by_cases a0:k<pl
              ·have ai:k<d.ps.length:=by have:=HD.ps.len;dsimp only at this;omega
               obtain⟨b,o,aj,hb,hx⟩:=HD.ps.slot (show 0<pl by omega);dsimp only at aj hx;rw[aj] at e6;obtain⟨x,an,ak⟩:=hx k ai;obtain⟨dx,ah⟩:=xe (d.ps[k])
               rw[<-ah] at ak;have aq:f7 (∀v,efE dx=v->v≠0->r6=v):=f8 (λv hv hne=>by
                rw[a6.o];exact mK _ _ k ai ab v (by rw[<-hv,ah]) hne)
               have HZ:f7 (efE dx=0->∀j (h1:j<d.ps.length),j<k+1->efE d.ps[j]=0):=f8 (λhv j h1 h=>by
                by_cases ax:j<k
                ·exact ab j h1 ax
                ·obtain rfl:j=k:=ga
                 rw[<-ah];exact hv)
               have bs:=aJ2 (o:=o+k * 18) (an.same (HQ.o wp ae b hb).2);dsimp only[EfC.cs] at bs;have ay:(k:Int)<(pl:Int):=ga
               have bg:(0:Int)<=(k:Int):=ga
               obtain⟨u,hu⟩:=xe (efE dx)
               have HC:f7 (CP 80 #[.agg #[I6 x.k,Sv x.nm,I6 x.nu,Sv x.tx,I6 x.st.e,Sl x.st.a x.st.n x.st.c,I6 x.rs.e,Sl x.rs.a x.rs.n x.rs.c,Sv x.sv,I6 x.ca,.bool x.un,I6 x.bd.k,I6 x.bd.i,I6 x.bd.s,Sv x.bd.t,Sl x.bd.la x.bd.ll x.bd.lc,Sl x.bd.fa x.bd.fl x.bd.fc,Sv x.nd]] wp (Rt (I6 u) wp)):=f8 (by
                rw[hu];exact tI x dx wp (efK.same (λb hb=>HQ.o wp ae b hb) ak) (((HT.below af.o).below ae)))
               have HU:=f8 hu;clear hu aj ah an ak hx hb ab ae ai;by_cases hz:u=0
               ·subst hz;have az:=f8 (HZ.o HU.symm);go_wp2_with (go_at_call 80;refine HC.mono ?_;rintro e w3 ⟨rfl,ag⟩)
                go_roundw
                case rel=>exact⟨k+1,by omega,by go_num,az.o,a4.trans (ag.mono a4.size)⟩
                case measure=>simp[intOf];omega
               ·have bc:(u==0)=false:=by simp[hz]
                have be:(u != 0)=true:=by simp[hz]
                have am:=f8 (aq.o u HU.symm hz);have av:=f8 hz;clear hz;go_wp2_with (go_at_call 80;refine HC.mono ?_;rintro e w3 ⟨rfl,ag⟩)
                go_ret;exact⟨retI (by rw[HF.o];simp only[orL,Z1.o,Z4.o,Z5.o,ne_eq,n7,ite_false,ite_true];simp[am.o,av.o]),af.trans ((a4.trans (ag.mono a4.size)).mono af.size)⟩
              ·obtain rfl:k=pl:=ga
               have Z6:f7 (r6=0):=f8 (by rw[a6.o];exact fU _ _ λj h1=>ab j h1 (by have h:=HD.ps.len;dsimp only at h;omega));clear ab ae a0 hk;go_wp2;go_ret;exact⟨retI (by rw[HF.o];simp[orL,Z1.o,Z4.o,Z5.o,Z6.o]),af.trans (a4.mono af.size)⟩
        ·have bc:(r3==0)=false:=by simp[z3]
         have be:(r3 != 0)=true:=by simp[z3]
         have av:=f8 z3;clear z3;go_wp2_with (go_at_call 77;refine(br.o _ au.o).mono ?_;rintro e w3 ⟨rfl,ag⟩;have bn:=f8 ((au.o).trans (ag.mono (au.o).size));clear ag)
         go_ret;exact⟨retI (by rw[HF.o];simp only[orL,Z1.o,ne_eq,n7,ite_false,ite_true];simp[av.o]),af.trans ((bn.o).mono af.size)⟩
       ·have bc:(r2==0)=false:=by simp[z2]
        have be:(r2 != 0)=true:=by simp[z2]
        have av:=f8 z2;clear z2;go_wp2_with (go_at_call 77;refine(bq.o _ ap.o).mono ?_;rintro e w3 ⟨rfl,ag⟩;have au:=f8 ((ap.o).trans (ag.mono (ap.o).size));clear ag)
        go_ret;exact⟨retI (by rw[HF.o];simp only[orL,Z1.o,ne_eq,n7,ite_false,ite_true];simp[av.o]),af.trans ((au.o).mono af.size)⟩
end
end
end Go.Proofs.YtoodnaghjpkjfaaGreatDoor
