/- A part. -/
import Derived.Test.YtoodnaghjpkjfaaGreatDoorSE25Mrg
import Derived.Test.YtoodnaghjpkjfaaGreatDoorSE34Mrg
namespace Go.Proofs.YtoodnaghjpkjfaaGreatDoor
open Tryz
set_option linter.unusedVariables false
set_option maxRecDepth 100000
set_option maxHeartbeats 64000000
set_option linter.unusedSimpArgs false
open Go Go.RowKit Go.Shelf
theorem infoLet:(prog.info? 71).map (λi=>(i.zero,i.size,i.bytes))=some (some (.agg #[I6 0,Z0,I6 0,Z0,I6 0,I6 0,I6 0,Sv ByteArray.empty,Z0,Z0,Sv ByteArray.empty,Sv ByteArray.empty,I6 0]),13,192):=by kernel_rfl
theorem aNq:(prog.info? 71).map (·.size)=some 13:=by kernel_rfl
section
attribute [-go_sem] loadCellsFrom storeCells
attribute [local go_sem] mG mF pT mB mA
theorem aKw (N R k cb i:Nat) (sa:Option Addr) (sn sc:Nat) (l:List Let) (ac:Nat->Nat) (O:Value->Obj) (bk:∀(w:World) (v:Value),w.heap[R]?=some (O v)->Ce w R 8 v/\w.frozen? ⟨R,8,none⟩=false) (b0:∀(w:World) (v u:Value),w.heap[R]?=some (O v)->(w.setCell ⟨R,8,none⟩ u).heap[R]?=some (O u))
 (s:ByteArray) (hs:s.size<=4000) (w:World) (af:RowAt letK 71 N ac i w sa sn sc l) (a4:1<=i/\i<=6) (bh:sn<=5000) (bu:w.heap[cb]?=some (.cells #[Pt R 1] 47)) (hR:w.heap[R]?=some (O (Sl sa sn sc))) (hk:w.heap[k]?=some (scA s false)) (bd:TB3 w N)
 (a8:ac R=7) (ax:ac k=10) (ay:ac cb=9) (c2:N<=R) (ct:R<k) :
 CP 23 #[Pt k 0,Pt cb 0] w (yP letK 71 N R k i ac O sa sn sc l (λx=>x.nd.size<=4000/\x.tx.size<=4001) w):=by
 obtain⟨ti,hi,cm,c3,cv⟩:=jr infoLet;obtain⟨aq,ad,cs,b3,a0,bm⟩:=af;have bg:=a0.lt;have aj:∀w',Turn (λj=>j=k) w w'->Tabs w'/\ZTab w'/\NumVars w':=λw' t=>((bd.turn (S:=λj=>j=k) (Turn.of_below (bR w)) (λj hj=>by omega)).turn t (λj hj=>by omega)).all;obtain⟨s1,be⟩:=xe ((cI s).2)
 have bf:s1.size<=4000:=by rw[be];exact io (aM s).2 ga
 have bp:=f8 (λ(f:Bool) (v:World) (h:v.heap[k]?=some (scA s f)) (t:Turn (λj=>j=k) w v)=>dM s f ga k v h (aj v t).2.2 (λw' t'=>(aj w' (t.trans t')).2.2));rw[<-be] at bp;obtain⟨nd,a5⟩:=xe ((cI s1).1)
 obtain⟨s2,a7⟩:=xe ((cI s1).2)
 have ao:nd.size<=4000:=by rw[a5];exact io (aM s1).1 ga
 have bl:s2.size<=4000:=by rw[a7];exact io (aM s1).2 ga
 have bv:=f8 (λ(f:Bool) (v:World) (h:v.heap[k]?=some (scA s1 f)) (t:Turn (λj=>j=k) w v)=>cU s1 f ga k v h (aj v t).2.2);rw[<-a5,<-a7] at bv;have cL:=f8 (λ(f:Bool) (v:World) (h:v.heap[k]?=some (scA s2 f)) (t:Turn (λj=>j=k) w v)=>zA s2 f ga k v h (λw' t'=>(aj w' (t.trans t')).2.2));obtain⟨ak,db⟩:=h_2 ao bf;have a3:=f8 bl
 have cq:=f8 (λ(w':World) (h:Turn (λj=>j=k) w w')=>(show w'.ownsRow N 71 13 (Sl sa sn sc) sn (cs.flatMap LetC.cs) from gJ a0 λg o hg ho=>h.keep (show w.heap[g]?=some o from ho) (λe=>by have:=ad g hg;rw[e,ax] at this;omega)));have c5:f7 (w.heap[cb]?=some (.cells #[Pt R 1] 47)):=f8 bu;have HR:f7 (w.heap[R]?=some (O (Sl sa sn sc))):=f8 hR;have H0:f7 (w.heap[k]?=some (scA s false)):=f8 hk;have T0:=f8 (Turn.refl (λj=>j=k) w);have a6:=f8 (show R≠k/\cb≠k/\cb≠R from⟨by omega,λe=>by rw[e,ax] at ay;omega,λe=>by rw[e,a8] at ay;omega⟩)
 have ae:=f8 (show ac R=7/\ac k=10/\ac cb=9/\∀r,(Value.slice sa sn sc).ownBlock=some r->1<=ac r/\ac r<=6 from⟨a8,ax,ay,λr hr=>by rw[ad r hr];exact a4⟩);have bt:=f8 bh;have b2:=f8 (show N<=w.heap.size from bd.size);obtain⟨c9,bb,co,b7⟩:=h_4 hs bk b0 bm;have ah:=f8 (λr (hr:(Value.slice sa sn sc).ownBlock=some r)=>ie (ad r hr) (bg r hr));obtain⟨a1,bw,ca,ba⟩:=h_4 aq a4 b3 aj;clear a5 ao be bf a7 bl bu hR hk bd aj bg a0 bm ad aq b3 a8 ax ay c2 ct bh bk b0 a4 hs
 go_enter func23,ntmps23
 go_upto_region 1 with (first
  | (go_at_call 24;refine(cL.o _ _ H2.o T2.o).mono ?_;rintro x v3 ⟨tx,s3,f3,rfl,an,bq,h9,ab⟩;have H3:=f8 h9;have T3:=f8 (T2.trans ab);obtain⟨U3,bo⟩:=h_2 ab an;clear an;have cg:=f8 bq;clear bq;clear h9 ab;have sq:=vR v3 71 #[I6 0,Z0,I6 0,Z0,I6 0,I6 0,I6 0,.string ⟨#[]⟩,Z0,Z0,.string ⟨#[]⟩,.string ⟨#[]⟩,I6 0] [I6 0,Z0,I6 0,Z0,I6 0,I6 0,I6 0,.string ⟨#[]⟩,Z0,Z0,.string nd,.string tx,I6 n] aNq rfl gj) 
  | (go_at_call 20;refine(bv.o _ _ H1.o T1.o).mono ?_;rintro x v2 ⟨rfl,h9,ab⟩;have H2:=f8 h9;have T2:=f8 (T1.trans ab);have U2:=f8 ab;clear h9 ab) 
  | (go_at_call 12;refine(bp.o _ _ H0.o T0.o).mono ?_;rintro x v1 ⟨n,f1,rfl,an,h9,ab⟩;have H1:=f8 h9;have T1:=f8 (T0.trans ab);obtain⟨U1,cf⟩:=h_2 ab an;clear an;clear h9 ab))
 clear sq;obtain⟨P,hP⟩:=xe v3.heap.size
 obtain⟨y4,am⟩:=xe (v3.alloc (.cells #[I6 0,Z0,I6 0,Z0,I6 0,I6 0,I6 0,.string ⟨#[]⟩,Z0,Z0,Sv nd,Sv tx,I6 n] 71))
 rw[<-am,<-hP];have a2:BB v3 y4:=by rw[am];exact(gx _ v3).alloc lr _
 have cw:=f8 (show y4.heap[P]?=some (.cells #[I6 0,Z0,I6 0,Z0,I6 0,I6 0,I6 0,.string ⟨#[]⟩,Z0,Z0,Sv nd,Sv tx,I6 n] 71) by rw[am,hP];exact ib v3 _);have bc:y4.heap[k]?=some (scA s3 f3):=aB a2 H3.o;have cy:=f8 bc;have T4:=f8 (T3.trans (Turn.of_below a2));have au:=f8 (show y4.heap.size=P+1 by rw[am,hP];simp);have ag:=f8 (show k<P/\w.heap.size<=P from⟨by rw[hP];exact ltOf H3.o,by rw[hP];exact T3.size⟩);have c0:=aA bc 0
 (try dsimp only at c0)
 have cu:s3.size<=4000:=by have:=cg.o;have:=a3.o;omega
 have c7:=f8 (aN8 s3 y4 ga ((LnOK.small (word:=wItem) (rest:=s3) ga).item rfl) (ba.o _ T4.o).1 (ba.o _ T4.o).2.1 (ba.o _ T4.o).2.2);clear cu a2 bc hP am
 go_upto_region 2 with (go_at_call 25;refine c7.mono ?_;rintro x y5 ⟨c,d,E,rfl,hm,hE,bx⟩;obtain⟨HM,HE,av⟩:=h_3 hm hE bx;clear hm hE bx;have sq:=vR y5 69 #[I6 0,Z0,I6 0,Z0,I6 0,I6 0,I6 0,.string ⟨#[]⟩,Z0,Z0] [I6 c.st.e,Sl c.st.a c.st.n c.st.c,I6 c.m,Sl c.a c.n c.c,I6 c.b.k,I6 c.b.i,I6 c.b.s,Sv c.b.t,Sl c.b.la c.b.ll c.b.lc,Sl c.b.fa c.b.fl c.b.fc] aNp rfl gj)
 clear sq c0;obtain⟨q,hq⟩:=xe y5.heap.size
 obtain⟨y6,ar⟩:=xe (y5.alloc (oM c 69))
 rw[<-ar,<-hq];have ap:BB y5 y6:=by rw[ar];exact(gx _ y5).alloc lr _
 have c4:=f8 (show y6.heap[q]?=some (oM c 69) by rw[ar,hq];exact ib y5 _);have aw:y6.heap[k]?=some (scA s3 f3):=aB ap (aB av.o cy.o);have cR:=f8 (aB ap (aB av.o cw.o));have T6:=f8 ((T4.trans (Turn.of_below av.o)).trans (Turn.of_below ap));have ce:=f8 (show P<q from by have:=av.size;have:=au.o;omega);obtain⟨cj,b1⟩:=h_2 aw ap;have c1:=aA aw 1;have f1:=aF aw 1
 (try dsimp only at c1)
 have c8:=f8 hq;clear aw ap hq ar
 go_cut [] (λyz=>∃z:Bool,yz=y6.setCell ⟨k,1,none⟩ (.bool z))
 case first =>
  rcases HE.o with ⟨rfl,_⟩|⟨rfl,_⟩<;>cases f3
  all_goals
   go_wp2
   go_meet
   exact⟨_,rfl⟩
 case rest =>
 obtain⟨z,az⟩:=hcut;obtain⟨yz,bj⟩:=xe (wc:World)
 rw[<-bj] at az ⊢;clear bj c1 f1;have gP:=aD ⟨k,1,none⟩ (.bool z) cR.o (by have:=ag.1;dsimp only;omega);have gQ:=aD ⟨k,1,none⟩ (.bool z) c4.o (by have:=ag.1;have:=ce.o;dsimp only;omega);have gk:=aG (o:=1) (.bool z) cj.o;simp only[jm,jn,jo] at gk;have tz:=T6.trans (Turn.setCell (R:=λj=>j=k) ⟨k,1,none⟩ (.bool z) rfl);have bz:∀b,b≠k->(y6.setCell ⟨k,1,none⟩ (.bool z)).heap[b]?=y6.heap[b]?:=λb hb=>ij _ _ _ _ hb;rw[<-az] at gP gQ gk tz bz
 have hl:(loadCellsFrom ⟨q,0,none⟩ 0 10 #[]).run prog yz=.ok #[I6 c.st.e,Sl c.st.a c.st.n c.st.c,I6 c.m,Sl c.a c.n c.c,I6 c.b.k,I6 c.b.i,I6 c.b.s,Sv c.b.t,Sl c.b.la c.b.ll c.b.lc,Sl c.b.fa c.b.fl c.b.fc] yz:=nO gQ;obtain⟨y8,ai⟩:=xe (yz.setRow P #[I6 c.st.e,Sl c.st.a c.st.n c.st.c,I6 c.m,Sl c.a c.n c.c,I6 c.b.k,I6 c.b.i,I6 c.b.s,Sv c.b.t,Sl c.b.la c.b.ll c.b.lc,Sl c.b.fa c.b.fl c.b.fc,Sv nd,Sv tx,I6 n])
 have cr:(storeCells ⟨P,0,none⟩ [I6 c.st.e,Sl c.st.a c.st.n c.st.c,I6 c.m,Sl c.a c.n c.c,I6 c.b.k,I6 c.b.i,I6 c.b.s,Sv c.b.t,Sl c.b.la c.b.ll c.b.lc,Sl c.b.fa c.b.fl c.b.fc] 0).run prog yz=.ok () y8:=by
  have:=run_storeCells_at (P:=prog) P 0 71 [I6 c.st.e,Sl c.st.a c.st.n c.st.c,I6 c.m,Sl c.a c.n c.c,I6 c.b.k,I6 c.b.i,I6 c.b.s,Sv c.b.t,Sl c.b.la c.b.ll c.b.lc,Sl c.b.fa c.b.fl c.b.fc] 0 #[I6 0,Z0,I6 0,Z0,I6 0,I6 0,I6 0,.string ⟨#[]⟩,Z0,Z0,Sv nd,Sv tx,I6 n] yz gP ge gj;rw[this,ai];rfl
 have bn:y8.heap[P]?=some (.cells #[I6 c.st.e,Sl c.st.a c.st.n c.st.c,I6 c.m,Sl c.a c.n c.c,I6 c.b.k,I6 c.b.i,I6 c.b.s,Sv c.b.t,Sl c.b.la c.b.ll c.b.lc,Sl c.b.fa c.b.fl c.b.fc,Sv nd,Sv tx,I6 n] 71):=by rw[ai];exact ke yz P _ _ _ (0,0) gP
 have a9:∀b,b≠P->y8.heap[b]?=yz.heap[b]?:=λb hb=>by rw[ai];exact ko yz P b _ hb
 have b9:=f8 a9;have T8:=f8 (show Turn (λj=>j=k) w y8 from tz.fresh (eT (B:=P) (by rw[ai];exact eJ yz P _)) (λj hj hPj=>by have:=ag.2;omega));have cl:=f8 bn;have cx:=f8 (show y8.heap.size=y6.heap.size by rw[ai,ky,az];simp[World.setCell]);have b6:=f8 ((a9 k (by have:=ag.1;omega)).trans gk);have b8:=f8 bz;clear gP gQ gk tz bz bn a9 ai az;go_upto_region 4 with (fail)
 clear hl cr
 have HC:=f8 (λ(w':World) (h:w'.heap[cb]?=some (.cells #[Pt R 1] 47)/\w'.heap[R]?=some (O (Sl sa sn sc))/\w'.heap[P]?=some (.cells #[I6 c.st.e,Sl c.st.a c.st.n c.st.c,I6 c.m,Sl c.a c.n c.c,I6 c.b.k,I6 c.b.i,I6 c.b.s,Sv c.b.t,Sl c.b.la c.b.ll c.b.lc,Sl c.b.fa c.b.fl c.b.fc,Sv nd,Sv tx,I6 n] 71))=>(show Ce w' cb 0 (Pt R 1)/\Ce w' R 8 (Sl sa sn sc)/\(loadCellsFrom ⟨P,0,none⟩ 0 13 #[]).run prog w'=.ok #[I6 c.st.e,Sl c.st.a c.st.n c.st.c,I6 c.m,Sl c.a c.n c.c,I6 c.b.k,I6 c.b.i,I6 c.b.s,Sv c.b.t,Sl c.b.la c.b.ll c.b.lc,Sl c.b.fa c.b.fl c.b.fc,Sv nd,Sv tx,I6 n] w' from⟨aA h.1 0,(bb.o _ _ h.2.1).1,nO h.2.2⟩))
 have cn:=f8 (show y8.drew.heap[cb]?=some (.cells #[Pt R 1] 47)/\y8.drew.heap[R]?=some (O (Sl sa sn sc))/\y8.drew.heap[P]?=some (.cells #[I6 c.st.e,Sl c.st.a c.st.n c.st.c,I6 c.m,Sl c.a c.n c.c,I6 c.b.k,I6 c.b.i,I6 c.b.s,Sv c.b.t,Sl c.b.la c.b.ll c.b.lc,Sl c.b.fa c.b.fl c.b.fc,Sv nd,Sv tx,I6 n] 71) from⟨T8.keep c5.o a6.2.1,T8.keep HR.o a6.1,cl.o⟩)
 refine bK 8 (λw'=>w'.heap[cb]?=some (.cells #[Pt R 1] 47)/\w'.heap[R]?=some (O (Sl sa sn sc))/\w'.heap[P]?=some (.cells #[I6 c.st.e,Sl c.st.a c.st.n c.st.c,I6 c.m,Sl c.a c.n c.c,I6 c.b.k,I6 c.b.i,I6 c.b.s,Sv c.b.t,Sl c.b.la c.b.ll c.b.lc,Sl c.b.fa c.b.fl c.b.fc,Sv nd,Sv tx,I6 n] 71)) gd gd gd gb (cn.o) (λhS=>?_);simp only[zdm,zdn,zdp,zdq];refine tC 0 HC ?_;refine tC 1 HC ?_;refine tC 2 HC ?_;refine tC 3 HC ?_;refine tC 4 HC ?_;refine tC 5 HC ?_;refine yr 6 λK hK=>?_;generalize hy9:World.drew _=y9 at hS ⊢;have bs:∀b:Nat,y9.heap[b]?=y8.heap[b]?:=λb=>by rw[<-hy9];rfl
 have T9:=f8 (show Turn (λj=>j=k) w y9 by rw[<-hy9];exact T8.trans (Turn.of_below (gx _ y8).drew));have b5:=f8 (show y9.heap.size=y8.heap.size by rw[<-hy9];rfl);have bi:=f8 bs;have cz:=f8 (cq.o y9 T9.o);clear hy9 bs;go_simp;refine kOQ hK (⟨aC _ hS.1,aC _ hS.2.1,aC _ hS.2.2⟩) λhS=>?_;clear hK K
 refine yr 7 λK hK=>?_
 refine step_append_lies _ gh _ _ _ gh N 71 ti _ 13 192 underlying25 hi cm c3 cv rfl ga (Sl sa sn sc) sn (cs.flatMap LetC.cs) gh (cz.alloc _) ⟨y9.heap.size,0,none⟩ 1 1 [I6 c.st.e,Sl c.st.a c.st.n c.st.c,I6 c.m,Sl c.a c.n c.c,I6 c.b.k,I6 c.b.i,I6 c.b.s,Sv c.b.t,Sl c.b.la c.b.ll c.b.lc,Sl c.b.fa c.b.fl c.b.fc,Sv nd,Sv tx,I6 n] gh gh (World.news_of_block (ib y9 _)) gj ga (by have:=bt.o;unfold maxLen;omega) (by have:=bt.o;omega) (by have h1:=T9.size;have h3:=b2.o;simp at h1 ⊢;omega) (y9.heap.size+1) ge ?_
 intro gg cap w4 al aa ck ch;obtain⟨c6,br⟩:=h_2 al aa;have cc:=f8 ck
 have H9:=f8 (aL aa (aC (.cells #[I6 c.st.e,Sl c.st.a c.st.n c.st.c,I6 c.m,Sl c.a c.n c.c,I6 c.b.k,I6 c.b.i,I6 c.b.s,Sv c.b.t,Sl c.b.la c.b.ll c.b.lc,Sl c.b.fa c.b.fl c.b.fc,Sv nd,Sv tx,I6 n] 71) ((bi.o k).trans b6.o)) (λe=>by have h1:=ae.2.2.2 _ e.symm;have h2:=ae.2.1;omega))
 refine kOQ hK (⟨aL aa hS.1 (λe=>by have h1:=ae.2.2.2 _ e.symm;have h2:=ae.2.2.1;omega),aL aa hS.2.1 (λe=>by have h1:=ae.2.2.2 _ e.symm;have h2:=ae.1;omega),aL aa hS.2.2 (λe=>by have h1:=(ah.o _ e.symm).2.2;have h2:=ag.2;omega)⟩) λhS=>?_;clear hK K
 refine iq gd ?_ _
 (try dsimp only)
 have HS:=f8 hS;have r5:=(bb.o _ _ hS.2.1).2;have q5:=(bb.o _ _ hS.2.1).1;clear hS;go_wp2;have da:=T9.size;have b4:=f8 (show IsMsg (λb=>w.heap.size<=b/\b<y9.heap.size) y9 c d from HM.same λb hb=>⟨⟨by have:=au.o;have:=ag.o;omega,by
  have h2:=b1.size;have h3:=b5.o;have h4:=cx.o;have h5:=hb.2;omega⟩,(bi.o b).trans ((b9.o b (by have:=au.o;omega)).trans ((b8.o b (by have:=au.o;have:=ag.o;omega)).trans (b1.block b hb.2)))⟩)
 have af:RowAt letK 71 N (sF ac w.heap.size gg i) i w4 (So gg 0) (sn+1) cap (l++[⟨d,nd,tx,n⟩]) :=
  RowAt.push (K:=letK) (w:=w) (w1:=y9) (a:=sa) (k:=sn) (cap:=sc) (cs:=cs) (c:=⟨c,nd,tx,n⟩) (by have:=bw.o;omega) a1.o (λr hr=>⟨(ah.o r hr).1,(ah.o r hr).2.2⟩) ca.o b7.o b2.o ga
   (λb h1 h2 h3=>T9.block b h2 (λe=>by have:=ae.2.1;rw[<-e,h3] at this;omega))
   (⟨b4.o,rfl,by have:=ak.o;show nd.size<=_;omega,rfl,by have:=bo.o;have:=a3.o;show tx.size<=_;omega,rfl,cf.o⟩) c6.o br.o cc.o
 have ci:Turn (λj=>j=k\/j=R\/(Value.slice sa sn sc).ownBlock=some j) w w4 :=
  (((Turn.of_below (bR w):Turn _ w w).trans (T9.mono λj hj=>.inl hj)).trans (Turn.of_below ((gx _ y9).alloc lr (.cells #[I6 c.st.e,Sl c.st.a c.st.n c.st.c,I6 c.m,Sl c.a c.n c.c,I6 c.b.k,I6 c.b.i,I6 c.b.s,Sv c.b.t,Sl c.b.la c.b.ll c.b.lc,Sl c.b.fa c.b.fl c.b.fc,Sv nd,Sv tx,I6 n] 71)))).trans (Turn.of_grown br.o (λr hr=>.inr (.inr hr)))
 have cp:∀b,b<w4.heap.size->(b=R->False)->(w4.setCell ⟨R,8,none⟩ (Sl (So gg 0) (sn+1) cap)).heap[b]?=w4.heap[b]?:=λb _ hb=>ij _ _ _ _ hb;refine jj (iu rfl _ _ _) rfl ⟨rfl,gg,cap,_,_,⟨d,nd,tx,n⟩,co.o _ _ _ HS.2.1,aD _ _ H9.o (λe=>a6.1 e.symm),af.keep (by simp[World.setCell]) (λb _=>rfl) (λb h1 h2 h3=>cp b h2 (λe=>?_)),⟨ak.o,by have:=bo.o;have:=a3.o;show tx.size<=_;omega⟩,ci.trans (Turn.setCell ⟨R,8,none⟩ _ (.inr (.inl rfl)))⟩;have cd:R<w.heap.size:=ltOf HR.o;rw[e,gU cd,ae.1] at h3;have:=bw.o
 omega
end
end Go.Proofs.YtoodnaghjpkjfaaGreatDoor
