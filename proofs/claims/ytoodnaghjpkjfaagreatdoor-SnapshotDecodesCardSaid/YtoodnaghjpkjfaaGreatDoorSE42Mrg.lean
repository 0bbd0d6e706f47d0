/- A part. -/
import Derived.Test.YtoodnaghjpkjfaaGreatDoorSE22Mrg
import Derived.Test.YtoodnaghjpkjfaaGreatDoorSE33Mrg
import Derived.Test.YtoodnaghjpkjfaaGreatDoorSE41Mrg
namespace Go.Proofs.YtoodnaghjpkjfaaGreatDoor
open Tryz
set_option linter.unusedVariables false
set_option maxRecDepth 100000
set_option maxHeartbeats 64000000
set_option linter.unusedSimpArgs false
open Go Go.RowKit Go.Shelf
theorem qS {n a b:Int} (h:inQ n a b=true):a<=n/\n<=b:=by
 unfold inQ at h;simpa using h
theorem aHv {d:Ef} (h:efE d=0):(d.k=1\/d.k=2)/\(1<=d.nu/\d.nu<=999999999999999)/\aZ d.st=0/\(d.k=1->d.tx.size<=65536)/\(d.k≠1->(0<=d.ca/\d.ca<=999999999999999)/\bG d.bd=0):=by
 unfold efE at h;by_cases h1:d.k≠1/\d.k≠2
 ·rw[gw h1] at h;exact absurd h gb
 rw[f9 h1] at h;by_cases h2:aH d.nm=false
 ·rw[gw h2] at h;exact absurd h gb
 rw[f9 h2] at h;by_cases h3:inQ d.nu 1 999999999999999=false
 ·rw[gw h3] at h;exact absurd h gb
 rw[f9 h3] at h;by_cases h4:aZ d.st≠0
 ·rw[gw h4] at h;exact absurd h h4
 rw[f9 h4] at h;refine⟨by omega,qS (by simpa using h3),by simpa using h4,λhk=>?_,λhk=>?_⟩
 ·rw[gw hk] at h;by_cases h5:65536<d.tx.size
  ·rw[gw h5] at h;exact absurd h gb
  ·omega
 ·rw[f9 hk] at h;by_cases h5:d.tx.toList.isEmpty=false\/(d.sv.toList==d.nm.toList)=false\/mD d.rs d.st=false
  ·rw[gw h5] at h;exact absurd h gb
  rw[f9 h5] at h;by_cases h6:aH d.nd=false
  ·rw[gw h6] at h;exact absurd h gb
  rw[f9 h6] at h;by_cases h7:inQ d.ca 0 999999999999999=false
  ·rw[gw h7] at h;exact absurd h gb
  rw[f9 h7] at h;exact⟨qS (by simpa using h7),h⟩
theorem aHh (xs:List BA) (L:Nat) (h:∀x∈xs,x.size<=L):(lnB xs).length<=xs.length * (L+1)+1:=by
 have:=iM xs ⟨#[32]⟩ L (λx hx=>by rw[lu];exact h x hx);unfold lnB;rw[ik,lu];have h1:(⟨#[32]⟩:BA).data.toList.length=1:=rfl;rw[h1] at this;exact Nat.add_le_add_right this 1
theorem aJt {S:Nat->Prop} {w:World} {c:SC} {d:St} (h:IsSt S w c d) (h0:aZ d=0):(dL d).size<=20000 :=
 nV d h.re h.ps.rng (by
  unfold aZ at h0;by_cases a1:d.e<1\/1048576<d.e
  ·rw[gw a1] at h0;exact absurd h0 gb
  rw[f9 a1] at h0;by_cases a2:d.ps=[]
  ·rw[a2];simp
  rw[f9 a2] at h0;by_cases a3:512<d.ps.length
  ·rw[gw a3] at h0;exact absurd h0 gb
  ·omega)
def pZ (d:Ef):BA × Int:=if lW d≠0 then (⟨#[]⟩,lW d) else (⟨(lA d).toArray⟩,0)
theorem xA (x:EfC) (d:Ef) (w:World) (hd:IsEf (· < w.heap.size) w x d) (hT:Tabs w) (hZ:ZTab w) (h0:efE d=0) :
 CP 39 #[.agg #[I6 x.k,Sv x.nm,I6 x.nu,Sv x.tx,I6 x.st.e,Sl x.st.a x.st.n x.st.c,I6 x.rs.e,Sl x.rs.a x.rs.n x.rs.c,Sv x.sv,I6 x.ca,.bool x.un,I6 x.bd.k,I6 x.bd.i,I6 x.bd.s,Sv x.bd.t,Sl x.bd.la x.bd.ll x.bd.lc,Sl x.bd.fa x.bd.fl x.bd.fc,Sv x.nd]] w (Rt (.tuple #[Sv (pZ d).1,I6 (pZ d).2]) w):=by
 obtain⟨hk,hn,hs,ht,hc⟩:=aHv h0;obtain⟨m,hm⟩:∃m:Nat,d.nu=(m:Int):=⟨d.nu.toNat,by omega⟩
 have ag:BB w (w.alloc (efO x)):=(bR w).alloc lr _;have ax:∀w',BB (w.alloc (efO x)) w'->∀b,b<w.heap.size->b<w'.heap.size/\w'.heap[b]?=w.heap[b]?:=λw' h b hb=>by
  have h1:=h.size;have h2:(w.alloc (efO x)).heap.size=w.heap.size+1:=by simp
  exact⟨by omega,(h.block b ga).trans (ag.block b hb)⟩
 obtain⟨ac,aj⟩:∃a,a=dL d.st:=⟨_,rfl⟩
 have am:ac.size<=20000:=by rw[aj];exact aJt hd.st hs
 have aw:f7 (CP 85 #[x.st.v] (w.alloc (efO x)) λe w'=>e=.returned (.tuple #[Sv ac,I6 0])/\BB (w.alloc (efO x)) w'):=f8 (by
  have h:=kN x.st d.st (w.alloc (efO x)) (hd.st.same (ax _ (gx _ _))) (hT.below ag);unfold nW at h;rw[gw hs,<-aj] at h;exact h)
 have HX:=f8 (ib w (efO x));have HB:=f8 ag;have a5:f7 (m<=999999999999999):=f8 ga;have aq:x.nm.size<=140737488351232:=hd.nmz;have au:=hd.k;have ay:x.nu=(m:Int):=by rw[hd.nu,hm]
 have ba:(aV m).size<=21:=xV m ga;by_cases h1:d.k=1
 ·have bp:=ht h1;obtain⟨qx,az⟩:=xe (qxT x.tx)
  have bt:qx.size<=200000:=by
   rw[az];show(gV x.tx.data.toList).toArray.size<=_;have:=pL x.tx.data.toList;have h3:x.tx.data.toList.length=x.tx.size:=by rw[lu];rfl
   rw[h3] at this;rw[<-hd.tx] at bp;rw[oh];omega
  have bc:=f8 (λ(w':World)=>(show CP 36 #[Sv x.tx] w' (Rt (Sv qx) w') from by rw[az];exact jF x.tx w' (by rw[hd.tx];omega)));have ai:f7 ((lnB [aJm,x.nm,(aV m),ac,qx]).length<=4611686018427387903):=f8 (io (aHh _ 140737488351232 (by
   intro y hy;simp only[kd,jt,kj] at hy;rcases hy with rfl|rfl|rfl|rfl|rfl
   ·decide
   ·exact aq
   all_goals omega)) ge)
  have HR:f7 (pZ d=(⟨(lnB [aJm,x.nm,(aV m),ac,qx]).toArray⟩,0)):=f8 (by
   unfold pZ lW;rw[gw h1,f9 ge];unfold lA;rw[gw h1,hm,cB,<-aj,<-hd.nm,<-hd.tx,az])
  have ab:x.k=1:=by rw[au,h1]
  clear hd hT hZ h0 hk hn hs ht hc hm ag ax aj am aq au ba bp az bt h1;obtain⟨xk,nm,nu,tx,st,rs,sv,ca,un,bd,nd⟩:=x;dsimp only[SC.v] at aw HX HB bc ai HR ay ab ⊢;subst ay ab;go_enter func39,ntmps39
  go_upto_region 5 with (go_at_call 85;refine aw.mono ?_;rintro e w1 ⟨rfl,af⟩;have ak:=f8 af;have ab:=aB af HX.o;obtain⟨a0,a1,a2,a3⟩:=c_4 ab;(try dsimp only at a0 a1 a2 a3);have HC:=f8 (λ(w':World) (h:BB w1 w')=>(show Ce w' w.heap.size 1 (Sv nm)/\Ce w' w.heap.size 2 (I6 m)/\Ce w' w.heap.size 3 (Sv tx) from⟨aA (aB h ab) 1,aA (aB h ab) 2,aA (aB h ab) 3⟩));clear ab af)
  clear a0 a1 a2 a3;refine iz (S:=(λw'=>BB w1 w')) gd ((gx _ _).drew) (λhS=>?_);refine tC 0 HC ?_;refine tC 1 HC ?_;refine tC 2 HC ?_;refine tC 3 HC ?_;refine tC 5 HC ?_;refine tC 6 HC ?_;refine tC 7 HC ?_;refine yr 4 λK hK=>?_;go_simp;go_at_call 34;refine(cH m (by have:=a5.o;omega) _).mono ?_;rintro e w4 ⟨rfl,ae⟩;rw[ae];clear ae;refine kOQ hK (hS) λhS=>?_;clear hK K
  refine yr 8 λK hK=>?_;go_simp;go_at_call 36;refine(bc.o _).mono ?_;rintro e w5 ⟨rfl,bq⟩;refine kOQ hK (hS.trans (bq.mono hS.size)) λhS=>?_;clear hK K
  refine yr 9 λK hK=>?_;go_simp;refine kOQ hK (hS.alloc hS.size _) λhS=>?_;clear hK K
  refine yr 10 λK hK=>?_;go_simp;go_at_call 33;refine(bW w5.heap.size 5 [(⟨#[100,101,108,105,118,101,114]⟩:BA),nm,(aV m),ac,qx] (w5.alloc (.cells #[.string (⟨#[100,101,108,105,118,101,114]⟩:BA),Sv nm,Sv (aV m),Sv ac,Sv qx] 9)) (bS w5 [(⟨#[100,101,108,105,118,101,114]⟩:BA),nm,(aV m),ac,qx] _) ge ai.o).mono ?_;rintro e w6 ⟨rfl,ad⟩;rw[ad];clear ad;refine kOQ hK (hS) λhS=>?_;clear hK K
  refine tC 11 HC ?_;refine tC 12 HC ?_;refine iq gd ?_ _
  (try dsimp only)
  have ap:=f8 hS;clear hS;go_wp2;exact ig (v:=.tuple #[.string ⟨(lnB [(⟨#[100,101,108,105,118,101,114]⟩:BA),nm,(aV m),ac,qx]).toArray⟩,I6 0]) (by simp[results,results39,go_sem]) rfl ⟨by rw[HR.o];rfl,HB.trans ((ak.trans (ap.o.mono ak.size)).mono HB.size)⟩
 ·have bs:=hc h1;obtain⟨m2,a8⟩:∃m2:Nat,d.ca=(m2:Int):=⟨d.ca.toNat,by omega⟩
  obtain⟨tb,ar⟩:=xe ((eE d.bd).1)
  obtain⟨er,av⟩:=xe ((eE d.bd).2)
  have a7:tb.size<=65536:=by rw[ar];exact gA d.bd
  have al:f7 (m2<=999999999999999):=f8 ga;have bi:=f8 (λ(w':World) (h:BB (w.alloc (efO x)) w')=>(show CP 83 #[x.bd.v] w' (Rt (.tuple #[Sv tb,I6 er]) w') from by
   rw[ar,av];exact kF x.bd d.bd w' (hd.bd.same (ax w' h)) ((hT.below ag).below h) ((hZ.below ag).below h)))
  have a6:(aV m2).size<=21:=xV m2 ga;have bh:x.nd.size<=140737488351232:=hd.ndz;have ai:f7 (∀u:Bool,(lnB [aJl,x.nm,(aV m),ac,x.nd,(aV m2),wDo u,tb]).length<=4611686018427387903):=f8 (λu=>io (aHh _ 140737488351232 (by
   intro y hy;simp only[kd,jt,kj] at hy;rcases hy with rfl|rfl|rfl|rfl|rfl|rfl|rfl|rfl
   ·decide
   ·exact aq
   ·omega
   ·omega
   ·exact bh
   ·omega
   ·cases u<;>decide
   ·omega)) ge)
  have HR:f7 (∀u:Bool,er=0->u=x.un->pZ d=(⟨(lnB [aJl,x.nm,(aV m),ac,x.nd,(aV m2),wDo u,tb]).toArray⟩,0)):=f8 (λu he hu=>by
   unfold pZ lW;rw[f9 h1,<-av,f9 (by simpa using he)];unfold lA;rw[f9 h1,hm,a8,cB,cB,<-aj,<-hd.nm,<-hd.nd,hu,hd.un,<-ar])
  have bk:f7 (er≠0->pZ d=(⟨#[]⟩,er)):=f8 (λhe=>by
   unfold pZ lW;rw[f9 h1,<-av,gw he])
  have ab:(x.k==1)=false:=by rw[au];simpa using h1
  have bn:x.ca=(m2:Int):=by rw[hd.ca,a8]
  clear hd hT hZ h0 hk hn hs ht hc hm ag ax aj am aq au ba h1 bs a8 ar av a7 a6 bh;obtain⟨xk,nm,nu,tx,st,rs,sv,ca,un,bd,nd⟩:=x;dsimp only[SC.v,VC.v] at aw HX HB bi ai HR bk ay ab bn ⊢;subst ay bn;go_enter func39,ntmps39
  go_upto_region 6 with (go_at_call 85;refine aw.mono ?_;rintro e w1 ⟨rfl,af⟩;have ak:=f8 af;have ab:=aB af HX.o;have a0:=aA ab 0;have bl:=aA ab 11;have be:=aA ab 12;have bg:=aA ab 13;have bj:=aA ab 14;have bf:=aA ab 15;have bo:=aA ab 16;(try dsimp only at a0 bl be bg bj bf bo);clear ab af)
  go_upto_region 7 with (go_at_call 83;refine(bi.o _ ak.o).mono ?_;rintro e w2 ⟨rfl,bb⟩;have ah:=f8 (ak.trans (bb.mono ak.size));clear bb)
  clear a0 bl be bg bj bf bo;by_cases hz:er=0
  ·have ao:=f8 (aB ah.o HX.o);have a4:=aA ao.o 10
   (try dsimp only at a4)
   have aa:=f8 (λ(w':World) (h:BB w2 w')=>(show Ce w' w.heap.size 1 (Sv nm)/\Ce w' w.heap.size 2 (I6 m)/\Ce w' w.heap.size 9 (I6 m2)/\Ce w' w.heap.size 17 (Sv nd) from⟨aA (aB h ao.o) 1,aA (aB h ao.o) 2,aA (aB h ao.o) 9,aA (aB h ao.o) 17⟩));have br:(er != 0)=false:=by simp[hz]
   have a9:=f8 hz;clear hz;cases un with
   | true =>
     go_upto_region 12 with (fail)
     clear a4;have hz:=a9.o;refine iz (S:=(λw'=>BB w2 w')) gd ((gx _ _).drew) (λhS=>?_);refine tC 0 aa ?_;refine tC 1 aa ?_;refine tC 2 aa ?_;refine tC 3 aa ?_;refine tC 5 aa ?_;refine tC 6 aa ?_;refine tC 7 aa ?_;refine tC 8 aa ?_;refine tC 9 aa ?_;refine tC 10 aa ?_;refine tC 12 aa ?_;refine tC 13 aa ?_;refine yr 4 λK hK=>?_;go_simp;go_at_call 34;refine(cH m (by have:=a5.o;omega) _).mono ?_;rintro e w4 ⟨rfl,ae⟩;rw[ae];clear ae;refine kOQ hK (hS) λhS=>?_;clear hK K
     refine yr 11 λK hK=>?_;go_simp;go_at_call 34;refine(cH m2 (by have:=al.o;omega) _).mono ?_;rintro e w5 ⟨rfl,an⟩;rw[an];clear an;refine kOQ hK (hS) λhS=>?_;clear hK K
     refine yr 14 λK hK=>?_;go_simp;refine kOQ hK (hS.alloc hS.size _) λhS=>?_;clear hK K
     refine yr 15 λK hK=>?_;go_simp;go_at_call 33;refine(bW w2.drew.heap.size 8 [(⟨#[114,101,113,117,101,115,116]⟩:BA),nm,(aV m),ac,nd,(aV m2),(⟨#[117,110,100,111]⟩:BA),tb] (w2.drew.alloc (.cells #[.string (⟨#[114,101,113,117,101,115,116]⟩:BA),Sv nm,Sv (aV m),Sv ac,Sv nd,Sv (aV m2),.string (⟨#[117,110,100,111]⟩:BA),Sv tb] 9)) (bS w2.drew [(⟨#[114,101,113,117,101,115,116]⟩:BA),nm,(aV m),ac,nd,(aV m2),(⟨#[117,110,100,111]⟩:BA),tb] _) ge (ai.o true)).mono ?_;rintro e w6 ⟨rfl,ad⟩;rw[ad]
     clear ad;refine kOQ hK (hS) λhS=>?_;clear hK K
     refine tC 16 aa ?_;refine tC 17 aa ?_;refine iq gd ?_ _
     (try dsimp only)
     have ap:=f8 hS;clear hS;go_wp2;exact ig (v:=.tuple #[.string ⟨(lnB [(⟨#[114,101,113,117,101,115,116]⟩:BA),nm,(aV m),ac,nd,(aV m2),(⟨#[117,110,100,111]⟩:BA),tb]).toArray⟩,I6 0]) (by simp[results,results39,go_sem]) rfl ⟨by first|(rw[HR.o true hz rfl];done)|(rw[HR.o true hz rfl];rfl),HB.trans ((ah.trans (ap.o.mono ah.size)).mono HB.size)⟩
   | false =>
     go_upto_region 12 with (fail)
     clear a4;have hz:=a9.o;refine iz (S:=(λw'=>BB w2 w')) gd ((gx _ _).drew) (λhS=>?_);refine tC 0 aa ?_;refine tC 1 aa ?_;refine tC 2 aa ?_;refine tC 3 aa ?_;refine tC 5 aa ?_;refine tC 6 aa ?_;refine tC 7 aa ?_;refine tC 8 aa ?_;refine tC 9 aa ?_;refine tC 10 aa ?_;refine tC 12 aa ?_;refine tC 13 aa ?_;refine yr 4 λK hK=>?_;go_simp;go_at_call 34;refine(cH m (by have:=a5.o;omega) _).mono ?_;rintro e w4 ⟨rfl,ae⟩;rw[ae];clear ae;refine kOQ hK (hS) λhS=>?_;clear hK K
     refine yr 11 λK hK=>?_;go_simp;go_at_call 34;refine(cH m2 (by have:=al.o;omega) _).mono ?_;rintro e w5 ⟨rfl,an⟩;rw[an];clear an;refine kOQ hK (hS) λhS=>?_;clear hK K
     refine yr 14 λK hK=>?_;go_simp;refine kOQ hK (hS.alloc hS.size _) λhS=>?_;clear hK K
     refine yr 15 λK hK=>?_;go_simp;go_at_call 33;refine(bW w2.drew.heap.size 8 [(⟨#[114,101,113,117,101,115,116]⟩:BA),nm,(aV m),ac,nd,(aV m2),(⟨#[100,111]⟩:BA),tb] (w2.drew.alloc (.cells #[.string (⟨#[114,101,113,117,101,115,116]⟩:BA),Sv nm,Sv (aV m),Sv ac,Sv nd,Sv (aV m2),.string (⟨#[100,111]⟩:BA),Sv tb] 9)) (bS w2.drew [(⟨#[114,101,113,117,101,115,116]⟩:BA),nm,(aV m),ac,nd,(aV m2),(⟨#[100,111]⟩:BA),tb] _) ge (ai.o false)).mono ?_;rintro e w6 ⟨rfl,ad⟩;rw[ad];clear ad
     refine kOQ hK (hS) λhS=>?_;clear hK K
     refine tC 16 aa ?_;refine tC 17 aa ?_;refine iq gd ?_ _
     (try dsimp only)
     have ap:=f8 hS;clear hS;go_wp2;exact ig (v:=.tuple #[.string ⟨(lnB [(⟨#[114,101,113,117,101,115,116]⟩:BA),nm,(aV m),ac,nd,(aV m2),(⟨#[100,111]⟩:BA),tb]).toArray⟩,I6 0]) (by simp[results,results39,go_sem]) rfl ⟨by first|(rw[HR.o false hz rfl];done)|(rw[HR.o false hz rfl];rfl),HB.trans ((ah.trans (ap.o.mono ah.size)).mono HB.size)⟩
  ·have br:(er != 0)=true:=by simp[hz]
   have bm:=f8 (bk.o hz);clear hz;go_wp2;exact ig (v:=.tuple #[.string ⟨#[]⟩,I6 er]) (by simp[results,results39,go_sem]) rfl ⟨by first|(rw[bm.o];done)|(rw[bm.o];rfl),HB.trans (ah.mono HB.size)⟩
theorem aH8 (a:Int):orL [a,0]=a:=by by_cases h:a=0<;>simp[orL,h]
theorem aBr (b:Nat) (j:JW) (x:EfC) (d:Ef) (w:World) (h:IsJw 126 b b j w) (hd:IsEf (· < b) w x d) (hT:∀w',Below b w w'->Tabs w') (hZ:∀w',Below b w w'->ZTab w') (h0:efE d=0) (hz:j.b.length+(lA d).length<=140737488355328) :
 CP 67 #[Pt b 0,.agg #[I6 x.k,Sv x.nm,I6 x.nu,Sv x.tx,I6 x.st.e,Sl x.st.a x.st.n x.st.c,I6 x.rs.e,Sl x.rs.a x.rs.n x.rs.c,Sv x.sv,I6 x.ca,.bool x.un,I6 x.bd.k,I6 x.bd.i,I6 x.bd.s,Sv x.bd.t,Sl x.bd.la x.bd.ll x.bd.lc,Sl x.bd.fa x.bd.fl x.bd.fc,Sv x.nd]] w λe w'=>e=.returned (.tuple #[])/\IsJw 126 b b ⟨j.b++lA d,orL [j.e,lW d]⟩ w'/\Below b w w'/\Lib.OthersKept 5 (some b) w w':=by
 obtain⟨hk,hn,hs,ht,hc⟩:=aHv h0;have be:=h.lt;obtain⟨ab,a1⟩:∃a,a=dL d.st:=⟨_,rfl⟩
 have af:∀w',Below b w w'->∀k,k<b->k<w'.heap.size/\w'.heap[k]?=w.heap[k]?:=λw' hb k hk=>⟨by have:=hb.size;omega,hb.block k hk⟩
 have bh:=f8 (λ(w':World) (hb:Below b w w')=>(show CP 85 #[x.st.v] w' (Rt (.tuple #[Sv ab,I6 0]) w') from by
  have h:=kN x.st d.st w' (hd.st.same (af w' hb)) (hT w' hb);unfold nW at h;rw[gw hs,<-a1] at h;exact h))
 have bi:=f8 (λ(n:Int) (hn:I64 n) (w':World) (hb:Below b w w')=>bM n hn w' (hT w' hb));have ay:BB w (w.alloc (Oe x 94)):=(bR w).alloc lr _
 have bu:f7 (IsJw 126 b b j (w.alloc (Oe x 94)).drew):=f8 (h.ext ay.drew)
 have GX:f7 ((w.alloc (Oe x 94)).drew.heap[w.heap.size]?=some (Oe x 94)):=f8 (ib w _)
 have bw:f7 (Below b w (w.alloc (Oe x 94))):=f8 (ay.mono (ou be))
 have bt:f7 (Lib.OthersKept 5 (some b) w (w.alloc (Oe x 94)).drew):=f8 (cV ay.drew)
 have bq:f7 (w.heap.size<(w.alloc (Oe x 94)).drew.heap.size):=f8 (by show w.heap.size<(w.alloc (Oe x 94)).heap.size;simp)
 have ac:=f8 be
 have HC:=f8 (λ(w':World) (h:w'.heap[w.heap.size]?=some (Oe x 94)/\Below b w w'/\Lib.OthersKept 5 (some b) w w'/\w.heap.size<w'.heap.size)=>(show Ce w' w.heap.size 1 (Sv x.nm)/\Ce w' w.heap.size 2 (I6 x.nu)/\Ce w' w.heap.size 3 (Sv x.tx)/\Ce w' w.heap.size 4 (I6 x.st.e)/\Ce w' w.heap.size 5 (Sl x.st.a x.st.n x.st.c)/\Ce w' w.heap.size 9 (I6 x.ca)/\Ce w' w.heap.size 11 (I6 x.bd.k)/\Ce w' w.heap.size 12 (I6 x.bd.i)/\Ce w' w.heap.size 13 (I6 x.bd.s)/\Ce w' w.heap.size 14 (Sv x.bd.t)/\Ce w' w.heap.size 15 (Sl x.bd.la x.bd.ll x.bd.lc)/\Ce w' w.heap.size 16 (Sl x.bd.fa x.bd.fl x.bd.fc)/\Ce w' w.heap.size 17 (Sv x.nd) from⟨aA h.1 1,aA h.1 2,aA h.1 3,aA h.1 4,aA h.1 5,aA h.1 9,aA h.1 11,aA h.1 12,aA h.1 13,aA h.1 14,aA h.1 15,aA h.1 16,aA h.1 17⟩))
 have bk:I64 x.nu:=by rw[hd.nu];unfold I64;omega
 have bp:I64 x.ca:=hd.rca;have HR:=f8 (ie bk bp);have a2:=f8 (show d.k=1->lA d=lnB [aJm,x.nm,aE x.nu,ab,qxT x.tx] from λh1=>by unfold lA;rw[gw h1,<-hd.nm,<-hd.nu,<-a1,<-hd.tx]);have az:=f8 (show d.k≠1->lA d=lnB [aJl,x.nm,aE x.nu,ab,x.nd,aE x.ca,wDo x.un,(eE d.bd).1] from λh1=>by unfold lA;rw[f9 h1,<-hd.nm,<-hd.nu,<-a1,<-hd.nd,<-hd.ca,<-hd.un]);have bb:=f8 (show d.k=1->lW d=0 from λh1=>by unfold lW;rw[gw h1]);have a0:=f8 (show d.k≠1->lW d=(eE d.bd).2 from λh1=>by unfold lW;rw[f9 h1]);obtain⟨tb,a5⟩:=xe ((eE d.bd).1)
 obtain⟨er,a8⟩:=xe ((eE d.bd).2)
 rw[<-a5] at az;rw[<-a8] at a0;have bm:=f8 (λ(w':World) (hb:Below b w w')=>(show CP 83 #[x.bd.v] w' (Rt (.tuple #[Sv tb,I6 er]) w') from by
  rw[a5,a8];exact kF x.bd d.bd w' (hd.bd.same (af w' hb)) (hT w' hb) (hZ w' hb)))
 obtain⟨qx,ba⟩:=xe (qxT x.tx)
 have ax:=f8 (λ(htx:d.k=1) (w':World)=>(show CP 36 #[Sv x.tx] w' (Rt (Sv qx) w') from by rw[ba];exact jF x.tx w' (by have:=ht htx;rw[hd.tx];omega)));rw[<-ba] at a2;have HZ:=f8 hz;have bn:=f8 hd.k;dsimp only[SC.v,VC.v] at bh bm;have b0:=aA GX.o 0;have al:=aA GX.o 10
 (try dsimp only at b0 al)
 clear h hd hT hZ h0 hk hn hs ht hc be a1 af ay bk bp a5 a8 ba hz b0 al;go_enter func67,ntmps67
 go_upto_region 1 with (fail)
 refine iz (S:=(λw'=>w'.heap[w.heap.size]?=some (Oe x 94)/\Below b w w'/\Lib.OthersKept 5 (some b) w w'/\w.heap.size<w'.heap.size)) gd (⟨GX.o,bw.drew,bt.o,bq.o⟩) (λhS=>?_);refine tC 0 HC ?_;refine tC 1 HC ?_;refine tC 2 HC ?_;refine tC 7 HC ?_;refine tC 8 HC ?_;refine yr 3 λK hK=>?_;go_simp;go_at_call 85;refine(bh.o _ hS.2.1).mono ?_;rintro e w1 ⟨rfl,ae⟩;have bv:=f8 (bu.ext ae);refine kOQ hK (⟨aB ae hS.1,hS.2.1.trans (ae.mono (by have:=ac.o;have:=hS.2.2.2;omega)),hS.2.2.1.trans (cV ae),by have:=ae.size;have:=hS.2.2.2;omega⟩) λhS=>?_;clear hK K
 refine tC 4 HC ?_;refine tC 5 HC ?_;refine yr 6 λK hK=>?_;have av:=f8 (lG b b j ab 0 _ bv.o (by have:=ac.o;have:=hS.2.2.2;omega));go_simp;go_at_call 66;refine av.mono ?_;rintro r w2 ⟨rfl,an,aq,ar⟩;rw[aH8] at an;have br:=f8 an;clear av an;refine kOQ hK (⟨ar _ _ hS.1 (by simp;have:=ac.o;omega) (by intro c fz;simp),hS.2.1.trans aq,hS.2.2.1.trans ar,by have:=aq.size;have:=hS.2.2.2;omega⟩) λhS=>?_;clear hK K
 refine yr 9 λK hK=>?_;go_simp;go_at_call 64;refine(bi.o x.nu HR.1 _ hS.2.1).mono ?_;rintro e w3 ⟨rfl,ai⟩;have bl:=f8 (br.ext ai);refine kOQ hK (⟨aB ai hS.1,hS.2.1.trans (ai.mono (by have:=ac.o;have:=hS.2.2.2;omega)),hS.2.2.1.trans (cV ai),by have:=ai.size;have:=hS.2.2.2;omega⟩) λhS=>?_;clear hK K
 refine tC 10 HC ?_;refine tC 11 HC ?_;refine iq gd ?_ _
 (try dsimp only)
 have ak:=f8 hS;clear hS;have b0:=aA ak.1 0;have al:=aA ak.1 10
 (try dsimp only at b0 al)
 by_cases h1:d.k=1
 ·have bs:(x.k==1)=true:=by rw[bn.o,h1];rfl
  have bj:=f8 (ax.o h1);have bf:=a2.o h1;have a9:f7 (j.b.length+(lnB [aJm,x.nm,(aE x.nu),ab,qx]).length<=140737488355328):=f8 (by have:=HZ.o;rw[bf] at this;exact this);have am:f7 (∀w',IsJw 126 b b ⟨j.b++lnB [aJm,x.nm,(aE x.nu),ab,qx],j.e⟩ w'->IsJw 126 b b ⟨j.b++lA d,orL [j.e,lW d]⟩ w'):=f8 (λw' h=>by rw[bf,bb.o h1,aH8];exact h);clear ax a2 az bb a0 HZ bf h1 al;have ax:=bj;clear bj;go_upto_region 3 with (fail)
  clear b0;refine iz (S:=(λw'=>w'.heap[w.heap.size]?=some (Oe x 94)/\Below b w w'/\Lib.OthersKept 5 (some b) w w'/\w.heap.size<w'.heap.size)) gd (⟨ak.1,ak.2.1.drew,ak.2.2.1,ak.2.2.2⟩) (λhS=>?_)
  refine tC 0 HC ?_;refine tC 1 HC ?_;refine tC 2 HC ?_;refine tC 3 HC ?_;refine tC 4 HC ?_;refine tC 5 HC ?_;refine tC 6 HC ?_;refine yr 7 λK hK=>?_;go_simp;go_at_call 36;refine(ax.o _).mono ?_;rintro e w5 ⟨rfl,aa⟩;have a7:=f8 (bl.ext ((gx _ w3).drew.trans aa));refine kOQ hK (⟨aB aa hS.1,hS.2.1.trans (aa.mono (by have:=ac.o;have:=hS.2.2.2;omega)),hS.2.2.1.trans (cV aa),by have:=aa.size;have:=hS.2.2.2;omega⟩) λhS=>?_;clear hK K
  refine yr 8 λK hK=>?_;go_simp;have a6:=f8 (a7.ext ((gx _ w5).alloc lr (.cells #[.string (⟨#[100,101,108,105,118,101,114]⟩:BA),Sv x.nm,Sv (aE x.nu),Sv ab,Sv qx] 9)));refine kOQ hK (⟨aC _ hS.1,hS.2.1.alloc (by have:=ac.o;have:=hS.2.2.2;omega) _,hS.2.2.1.trans (cV ((gx _ _).alloc lr _)),by simp;have:=hS.2.2.2;omega⟩) λhS=>?_;clear hK K
  refine yr 9 λK hK=>?_;have HL:=f8 (dI b b j w5.heap.size 5 [(⟨#[100,101,108,105,118,101,114]⟩:BA),x.nm,(aE x.nu),ab,qx] (w5.alloc (.cells #[.string (⟨#[100,101,108,105,118,101,114]⟩:BA),Sv x.nm,Sv (aE x.nu),Sv ab,Sv qx] 9)) (bS w5 [(⟨#[100,101,108,105,118,101,114]⟩:BA),x.nm,(aE x.nu),ab,qx] _) ge ge ge a9.o a6.o (by have:=ac.o;have:=hS.2.2.2;omega));go_simp;go_at_call 63;refine HL.mono ?_;rintro e w7 ⟨rfl,aj,ad,ah⟩;have a3:=f8 aj;clear HL aj
  refine kOQ hK (⟨ah _ _ hS.1 (by simp;have:=ac.o;omega) (by intro c fz;simp),hS.2.1.trans ad,hS.2.2.1.trans ah,by have:=ad.size;have:=hS.2.2.2;omega⟩) λhS=>?_;clear hK K
  refine iq gd ?_ _
  (try dsimp only)
  have ao:=f8 hS;clear hS;go_wp2;exact ig (iu rfl _ _ _) rfl ⟨rfl,am.o _ a3.o,ao.2.1,ao.2.2.1⟩
 ·have bs:(x.k==1)=false:=by rw[bn.o];simpa using h1
  have bc:=az.o h1;have bo:=a0.o h1;have a9:f7 (∀u,u=x.un->j.b.length+(lnB [aJl,x.nm,aE x.nu,ab,x.nd,aE x.ca,wDo u,tb]).length<=140737488355328):=f8 (λu hu=>by have:=HZ.o;rw[bc] at this;rw[hu];exact this);have am:f7 (∀{u w'},u=x.un->IsJw 126 b b ⟨j.b++lnB [aJl,x.nm,aE x.nu,ab,x.nd,aE x.ca,wDo u,tb],orL [j.e,er]⟩ w'->IsJw 126 b b ⟨j.b++lA d,orL [j.e,lW d]⟩ w'):=f8 (λhu h=>by rw[bc,bo,<-hu];exact h);have a4:f7 (IsJw 126 b b j w3.drew):=f8 bl.o;clear a2 az bb a0 HZ bc bo h1;obtain⟨u,hu⟩:=xe x.un
  have HU:=f8 hu;rw[<-hu] at al;clear hu
  go_upto_if 32 with (fail)
  go_cut [6] (λv wz=>v=Sv (wDo u)/\wz=w3)
  case first =>
   cases u<;>(go_wp2;go_meet;exact⟨rfl,rfl⟩)
  case rest =>
  obtain⟨rfl,bg⟩:=hcut;rw[bg];clear bg;go_upto_region 7 with (fail)
  clear b0 al;refine iz (S:=(λw'=>w'.heap[w.heap.size]?=some (Oe x 94)/\Below b w w'/\Lib.OthersKept 5 (some b) w w'/\w.heap.size<w'.heap.size)) gd (⟨ak.1,ak.2.1.drew,ak.2.2.1,ak.2.2.2⟩) (λhS=>?_)
  refine tC 0 HC ?_;refine tC 1 HC ?_;refine tC 2 HC ?_;refine tC 3 HC ?_;refine tC 4 HC ?_;refine tC 5 HC ?_;refine tC 6 HC ?_;refine tC 7 HC ?_;refine tC 8 HC ?_;refine tC 9 HC ?_;refine tC 11 HC ?_;refine tC 12 HC ?_;refine tC 13 HC ?_;refine tC 14 HC ?_;refine tC 15 HC ?_;refine yr 10 λK hK=>?_;go_simp;go_at_call 64;refine(bi.o x.ca HR.2 _ hS.2.1).mono ?_;rintro e w5 ⟨rfl,aa⟩;have a7:=f8 (a4.ext aa);refine kOQ hK (⟨aB aa hS.1,hS.2.1.trans (aa.mono (by have:=ac.o;have:=hS.2.2.2;omega)),hS.2.2.1.trans (cV aa),by have:=aa.size;have:=hS.2.2.2;omega⟩) λhS=>?_;clear hK K
  refine yr 16 λK hK=>?_;go_simp;go_at_call 83;refine(bm.o _ hS.2.1).mono ?_;rintro e w6 ⟨rfl,ag⟩;have a6:=f8 (a7.ext ag);refine kOQ hK (⟨aB ag hS.1,hS.2.1.trans (ag.mono (by have:=ac.o;have:=hS.2.2.2;omega)),hS.2.2.1.trans (cV ag),by have:=ag.size;have:=hS.2.2.2;omega⟩) λhS=>?_;clear hK K
  refine tC 17 HC ?_;refine tC 18 HC ?_;refine yr 19 λK hK=>?_;have av:=f8 (lG b b j tb er _ a6.o (by have:=ac.o;have:=hS.2.2.2;omega));go_simp;go_at_call 66;refine av.mono ?_;rintro r w7 ⟨rfl,aj,ad,ah⟩;have bz:=f8 aj;clear av aj;refine kOQ hK (⟨ah _ _ hS.1 (by simp;have:=ac.o;omega) (by intro c fz;simp),hS.2.1.trans ad,hS.2.2.1.trans ah,by have:=ad.size;have:=hS.2.2.2;omega⟩) λhS=>?_;clear hK K
  refine yr 20 λK hK=>?_;go_simp;have bx:=f8 (bz.ext ((gx _ w7).alloc lr (.cells #[.string (⟨#[114,101,113,117,101,115,116]⟩:BA),Sv x.nm,Sv (aE x.nu),Sv ab,Sv x.nd,Sv (aE x.ca),Sv (wDo u),Sv tb] 9)));refine kOQ hK (⟨aC _ hS.1,hS.2.1.alloc (by have:=ac.o;have:=hS.2.2.2;omega) _,hS.2.2.1.trans (cV ((gx _ _).alloc lr _)),by simp;have:=hS.2.2.2;omega⟩) λhS=>?_;clear hK K
  refine yr 21 λK hK=>?_;have HL:=f8 (dI b b ⟨j.b,orL [j.e,er]⟩ w7.heap.size 8 [(⟨#[114,101,113,117,101,115,116]⟩:BA),x.nm,(aE x.nu),ab,x.nd,(aE x.ca),(wDo u),tb] (w7.alloc (.cells #[.string (⟨#[114,101,113,117,101,115,116]⟩:BA),Sv x.nm,Sv (aE x.nu),Sv ab,Sv x.nd,Sv (aE x.ca),Sv (wDo u),Sv tb] 9)) (bS w7 [(⟨#[114,101,113,117,101,115,116]⟩:BA),x.nm,(aE x.nu),ab,x.nd,(aE x.ca),(wDo u),tb] _) ge ge ge (a9.o u HU.o) bx.o (by have:=ac.o;have:=hS.2.2.2;omega))
  go_simp;go_at_call 63;refine HL.mono ?_;rintro e w9 ⟨rfl,aw,au,ap⟩;have a3:=f8 aw;clear HL aw;refine kOQ hK (⟨ap _ _ hS.1 (by simp;have:=ac.o;omega) (by intro c fz;simp),hS.2.1.trans au,hS.2.2.1.trans ap,by have:=au.size;have:=hS.2.2.2;omega⟩) λhS=>?_;clear hK K
  refine iq gd ?_ _
  (try dsimp only)
  have ao:=f8 hS;clear hS;go_wp2;exact jj (iu rfl _ _ _) rfl ⟨rfl,am.o HU.o a3.o,ao.2.1,ao.2.2.1⟩
end Go.Proofs.YtoodnaghjpkjfaaGreatDoor
