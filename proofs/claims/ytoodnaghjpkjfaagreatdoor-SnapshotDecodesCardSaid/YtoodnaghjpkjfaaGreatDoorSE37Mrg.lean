/- A part. -/
import Derived.Test.YtoodnaghjpkjfaaGreatDoorSE35Mrg
namespace Go.Proofs.YtoodnaghjpkjfaaGreatDoor
open Tryz
set_option linter.unusedVariables false
set_option maxRecDepth 100000
set_option maxHeartbeats 64000000
set_option linter.unusedSimpArgs false
open Go Go.RowKit Go.Shelf
theorem infoEfS:(prog.info? 94).map (·.size)=some 18:=by kernel_rfl
section
attribute [-go_sem] loadCellsFrom storeCells
attribute [local go_sem] mG mF pT mB mA
theorem aK2 (N R k cb i:Nat) (sa:Option Addr) (sn sc:Nat) (l:List Ef) (ad:Nat->Nat) (O:Value->Obj) (b9:∀(w:World) (v:Value),w.heap[R]?=some (O v)->Ce w R 9 v/\w.frozen? ⟨R,9,none⟩=false) (cu:∀(w:World) (v u:Value),w.heap[R]?=some (O v)->(w.setCell ⟨R,9,none⟩ u).heap[R]?=some (O u))
 (s:ByteArray) (hs:s.size<=4000) (w:World) (al:RowAt efK 94 N ad i w sa sn sc l) (be:1<=i/\i<=6) (b5:sn<=5000) (cp:w.heap[cb]?=some (.cells #[Pt R 0] 42)) (hR:w.heap[R]?=some (O (Sl sa sn sc))) (hk:w.heap[k]?=some (scA s false)) (bq:TB3 w N)
 (bn:ad R=7) (a4:ad k=10) (a5:ad cb=9) (d0:N<=R) (dq:R<k) :
 CP 61 #[Pt k 0,Pt cb 0] w (yP efK 94 N R k i ad O sa sn sc l (λx=>x.nm.size<=4000/\x.nd.size<=4000/\x.tx.size<=4000) w):=by
 obtain⟨ti,hi,dh,cz,ck⟩:=jr aEw;obtain⟨a1,ag,cs,cL,a8,cd⟩:=al;have b4:=a8.lt;have ac:∀w',Turn (λj=>j=k) w w'->Tabs w'/\ZTab w'/\NumVars w':=λw' t=>((bq.turn (S:=λj=>j=k) (Turn.of_below (bR w)) (λj hj=>by omega)).turn t (λj hj=>by omega)).all;obtain⟨nm,bc⟩:=xe ((cI s).1)
 obtain⟨s1,bu⟩:=xe ((cI s).2)
 have az:nm.size<=4000:=by rw[bc];exact io (aM s).1 ga
 have b0:s1.size<=4000:=by rw[bu];exact io (aM s).2 ga
 have ce:=f8 (λ(f:Bool) (v:World) (h:v.heap[k]?=some (scA s f)) (t:Turn (λj=>j=k) w v)=>cU s f ga k v h (ac v t).2.2);rw[<-bc,<-bu] at ce;obtain⟨s2,bm⟩:=xe ((cI s1).2)
 have cc:s2.size<=4000:=by rw[bm];exact io (aM s1).2 ga
 have cq:=f8 (λ(f:Bool) (v:World) (h:v.heap[k]?=some (scA s1 f)) (t:Turn (λj=>j=k) w v)=>dM s1 f ga k v h (ac v t).2.2 (λw' t'=>(ac w' (t.trans t')).2.2));rw[<-bm] at cq;obtain⟨s3,bj⟩:=xe ((cI s2).2)
 have b2:s3.size<=4000:=by rw[bj];exact io (aM s2).2 ga
 have cv:=f8 (λ(f:Bool) (v:World) (h:v.heap[k]?=some (scA s2 f)) (t:Turn (λj=>j=k) w v)=>rH s2 f ga k v h (λw' t'=>ie (ac w' (t.trans t')).2.2 (ac w' (t.trans t')).1));rw[<-bj] at cv;obtain⟨nd,bk⟩:=xe ((cI s3).1)
 obtain⟨s4,bi⟩:=xe ((cI s3).2)
 have a0:nd.size<=4000:=by rw[bk];exact io (aM s3).1 ga
 have ah:s4.size<=4000:=by rw[bi];exact io (aM s3).2 ga
 have ct:=f8 (λ(f:Bool) (v:World) (h:v.heap[k]?=some (scA s3 f)) (t:Turn (λj=>j=k) w v)=>cU s3 f ga k v h (ac v t).2.2);rw[<-bk,<-bi] at ct;obtain⟨s5,bs⟩:=xe ((cI s4).2)
 have cg:s5.size<=4000:=by rw[bs];exact io (aM s4).2 ga
 have cm:=f8 (λ(f:Bool) (v:World) (h:v.heap[k]?=some (scA s4 f)) (t:Turn (λj=>j=k) w v)=>dM s4 f ga k v h (ac v t).2.2 (λw' t'=>(ac w' (t.trans t')).2.2));rw[<-bs] at cm;obtain⟨pu,br⟩:=xe ((cI s5).1)
 obtain⟨s6,ar⟩:=xe ((cI s5).2)
 have au:pu.size<=4000:=by rw[br];exact io (aM s5).1 ga
 have af:s6.size<=4000:=by rw[ar];exact io (aM s5).2 ga
 have co:=f8 (λ(f:Bool) (v:World) (h:v.heap[k]?=some (scA s5 f)) (t:Turn (λj=>j=k) w v)=>cU s5 f ga k v h (ac v t).2.2);rw[<-br,<-ar] at co;obtain⟨aq,ap,du,ei,d8,ec,b3,d7⟩:=h_8 az a0 au b0 cc b2 ah cg;have dk:=f8 af;obtain⟨un,a7⟩:=xe ((pu.toList==[117,110,100,111]))
 have dt:=f8 a7.symm;clear a7;have dn:=f8 (λ(w':World) (h:Turn (λj=>j=k) w w')=>(show w'.ownsRow N 94 18 (Sl sa sn sc) sn (cs.flatMap EfC.cs) from gJ a8 λg o hg ho=>h.keep (show w.heap[g]?=some o from ho) (λe=>by have:=ag g hg;rw[e,a4] at this;omega)));have d2:f7 (w.heap[cb]?=some (.cells #[Pt R 0] 42)):=f8 cp;have HR:f7 (w.heap[R]?=some (O (Sl sa sn sc))):=f8 hR;have H0:f7 (w.heap[k]?=some (scA s false)):=f8 hk;have T0:=f8 (Turn.refl (λj=>j=k) w)
 have bl:=f8 (show R≠k/\cb≠k/\cb≠R from⟨by omega,λe=>by rw[e,a4] at a5;omega,λe=>by rw[e,bn] at a5;omega⟩);have ai:=f8 (show ad R=7/\ad k=10/\ad cb=9/\∀r,(Value.slice sa sn sc).ownBlock=some r->1<=ad r/\ad r<=6 from⟨bn,a4,a5,λr hr=>by rw[ag r hr];exact be⟩);have cl:=f8 b5;have cx:=f8 (show N<=w.heap.size from bq.size);obtain⟨d9,bp,dl,c3⟩:=h_4 hs b9 cu cd;have am:=f8 (λr (hr:(Value.slice sa sn sc).ownBlock=some r)=>ie (ag r hr) (b4 r hr));obtain⟨ba,cr,c6⟩:=h_3 a1 be cL;have cw:=f8 ac
 clear bc az bk a0 br au bu b0 bm cc bj b2 bi ah bs cg ar af cp hR hk bq ac b4 a8 cd ag a1 cL bn a4 a5 d0 dq b5 b9 cu be hs;go_enter func61,ntmps61
 go_upto_region 1 with (first
  | (go_at_call 20;refine(ct.o _ _ H3.o T3.o).mono ?_;rintro x v4 ⟨rfl,h9,aa⟩;have H4:=f8 h9;have T4:=f8 (T3.trans aa);have U4:=f8 aa;clear h9 aa;have sq:=vR v4 94 #[I6 0,.string ⟨#[]⟩,I6 0,.string ⟨#[]⟩,I6 0,Z0,I6 0,Z0,.string ⟨#[]⟩,I6 0,.bool false,I6 0,I6 0,I6 0,.string ⟨#[]⟩,Z0,Z0,.string ⟨#[]⟩] [I6 2,.string nm,I6 nu,.string ⟨#[]⟩,I6 q.e,.slice q.a q.n q.c,I6 0,Z0,.string ⟨#[]⟩,I6 0,.bool false,I6 0,I6 0,I6 0,.string ⟨#[]⟩,Z0,Z0,.string nd] infoEfS rfl gj) 
  | (go_at_call 60;refine(cv.o _ _ H2.o T2.o).mono ?_;rintro x v3 ⟨q,qd,f3,rfl,aj,h9,aa⟩;have H3:=f8 h9;have T3:=f8 (T2.trans aa);obtain⟨U3,di⟩:=h_2 aa aj;clear aj;clear h9 aa) 
  | (go_at_call 12;refine(cq.o _ _ H1.o T1.o).mono ?_;rintro x v2 ⟨nu,f2,rfl,aj,h9,aa⟩;have H2:=f8 h9;have T2:=f8 (T1.trans aa);obtain⟨U2,d6⟩:=h_2 aa aj;clear aj;clear h9 aa) 
  | (go_at_call 20;refine(ce.o _ _ H0.o T0.o).mono ?_;rintro x v1 ⟨rfl,h9,aa⟩;have H1:=f8 h9;have T1:=f8 (T0.trans aa);have U1:=f8 aa;clear h9 aa))
 clear sq;obtain⟨P,hP⟩:=xe v4.heap.size
 obtain⟨y4,ah⟩:=xe (v4.alloc (.cells #[I6 2,Sv nm,I6 nu,.string ⟨#[]⟩,I6 q.e,Sl q.a q.n q.c,I6 0,Z0,.string ⟨#[]⟩,I6 0,.bool false,I6 0,I6 0,I6 0,.string ⟨#[]⟩,Z0,Z0,Sv nd] 94))
 rw[<-ah,<-hP];have av:BB v4 y4:=by rw[ah];exact(gx _ v4).alloc lr _
 have bb:f7 (y4.drew.heap[P]?=some (.cells #[I6 2,Sv nm,I6 nu,.string ⟨#[]⟩,I6 q.e,Sl q.a q.n q.c,I6 0,Z0,.string ⟨#[]⟩,I6 0,.bool false,I6 0,I6 0,I6 0,.string ⟨#[]⟩,Z0,Z0,Sv nd] 94)):=f8 (by show y4.heap[P]?=_;rw[ah,hP];exact ib v4 _);have dv:f7 (y4.drew.heap[k]?=some (scA s4 f3)):=f8 (show y4.heap[k]?=_ from aB av H4.o);have cy:=f8 (show Turn (λj=>j=k) w y4.drew from(T4.trans (Turn.of_below av)).trans (Turn.of_below (gx _ y4).drew))
 have b3:=f8 (show y4.drew.heap.size=P+1 by show y4.heap.size=_;rw[ah,hP];simp);have ae:=f8 (show k<P/\w.heap.size<=P from⟨by rw[hP];exact ltOf H4.o,by rw[hP];exact T4.size⟩);have bg:=f8 (show IsSt (λb=>w.heap.size<=b/\b<y4.drew.heap.size/\b<P) y4.drew q qd from di.same λb hb=>⟨⟨by have:=T2.size;omega,by have h1:=U4.size;have h2:=av.size;show b<y4.heap.size;omega,by have h1:=U4.size;omega⟩,(av.block b (by have h1:=U4.size;omega)).trans (U4.block b hb.2 (λe=>by have:=ltOf H2.o;omega))⟩)
 have ak:=f8 (λ(w':World) (h:w'.heap[P]?=some (.cells #[I6 2,Sv nm,I6 nu,.string ⟨#[]⟩,I6 q.e,Sl q.a q.n q.c,I6 0,Z0,.string ⟨#[]⟩,I6 0,.bool false,I6 0,I6 0,I6 0,.string ⟨#[]⟩,Z0,Z0,Sv nd] 94))=>(show Ce w' P 4 (I6 q.e)/\Ce w' P 5 (Sl q.a q.n q.c)/\Ce w' P 1 (Sv nm) from⟨aA h 4,aA h 5,aA h 1⟩));clear av hP ah
 refine aP 10 (λw'=>w'.heap[P]?=some (.cells #[I6 2,Sv nm,I6 nu,.string ⟨#[]⟩,I6 q.e,Sl q.a q.n q.c,I6 0,Z0,.string ⟨#[]⟩,I6 0,.bool false,I6 0,I6 0,I6 0,.string ⟨#[]⟩,Z0,Z0,Sv nd] 94)) gd gd gd gb (bb.o) (λhS=>?_);simp only[zdm,zdn,zdp,zdq];refine tC 0 ak ?_;refine tC 1 ak ?_;refine tC 2 ak ?_;refine tC 3 ak ?_;refine tC 4 ak ?_;refine tC 6 ak ?_;refine yr 5 λK hK=>?_;go_simp;go_at_call 12;refine(cm.o _ _ dv.o cy.o).mono ?_;rintro x v5 ⟨ca,f5,rfl,aj,h9,aa⟩;have H5:=f8 h9;have T5:=f8 (cy.trans aa);obtain⟨U5,dz⟩:=h_2 aa aj;clear aj;clear h9;refine kOQ hK (aa.keep hS (by have:=ae.1;omega)) λhS=>?_;clear hK K
 refine yr 7 λK hK=>?_;go_simp;go_at_call 20;refine(co.o _ _ H5.o T5.o).mono ?_;rintro x v6 ⟨rfl,h9,aa⟩;have H6:=f8 h9;have T6:=f8 (T5.trans aa);have U6:=f8 aa;clear h9;have a7:=dt.o;refine kOQ hK (aa.keep hS (by have:=ae.1;omega)) λhS=>?_;clear hK K
 refine tC 8 ak ?_;refine tC 9 ak ?_;refine iq gd ?_ _
 (try dsimp only)
 have eg:=f8 hS;obtain⟨y6,af⟩:=xe (v6.setRow P #[I6 2,Sv nm,I6 nu,.string ⟨#[]⟩,I6 q.e,Sl q.a q.n q.c,I6 q.e,Sl q.a q.n q.c,Sv nm,I6 ca,.bool un,I6 0,I6 0,I6 0,.string ⟨#[]⟩,Z0,Z0,Sv nd])
 have bh:(storeCells ⟨P,6,none⟩ [I6 q.e,Sl q.a q.n q.c,Sv nm,I6 ca,.bool un,I6 0,I6 0,I6 0,.string ⟨#[]⟩,Z0,Z0] 0).run prog v6=.ok () y6:=by
  have:=run_storeCells_at (P:=prog) P 6 94 [I6 q.e,Sl q.a q.n q.c,Sv nm,I6 ca,.bool un,I6 0,I6 0,I6 0,.string ⟨#[]⟩,Z0,Z0] 0 #[I6 2,Sv nm,I6 nu,.string ⟨#[]⟩,I6 q.e,Sl q.a q.n q.c,I6 0,Z0,.string ⟨#[]⟩,I6 0,.bool false,I6 0,I6 0,I6 0,.string ⟨#[]⟩,Z0,Z0,Sv nd] v6 hS ge gj;rw[this,af];rfl
 have b1:y6.heap[P]?=some (.cells #[I6 2,Sv nm,I6 nu,.string ⟨#[]⟩,I6 q.e,Sl q.a q.n q.c,I6 q.e,Sl q.a q.n q.c,Sv nm,I6 ca,.bool un,I6 0,I6 0,I6 0,.string ⟨#[]⟩,Z0,Z0,Sv nd] 94):=by rw[af];exact ke v6 P _ _ _ (0,0) hS
 have bf:∀b,b≠P->y6.heap[b]?=v6.heap[b]?:=λb hb=>by rw[af];exact ko v6 P b _ hb
 have bd:y6.heap.size=v6.heap.size:=by rw[af];exact ky v6 P _
 have a9:=f8 (show Turn (λj=>j=k) w y6 from T6.fresh (eT (B:=P) (by rw[af];exact eJ v6 P _)) (λj hj hPj=>by have:=ae.2;omega));have bo:y6.heap[k]?=some (scA s6 f5):=(bf k (by have:=ae.1;omega)).trans H6.o;clear hS af;go_upto_region 2 with (fail)
 clear bh;have ar:s6.size<=4000:=dk.o;have c0:=aA bo 0
 (try dsimp only at c0)
 have dx:=f8 (mY s6 y6 ga (cw.o _ a9.o).1 (cw.o _ a9.o).2.2);obtain⟨aw,dd,dy,bt⟩:=h_4 b1 bo bf bd;clear ar b1 bf bd bo;go_upto_region 3 with (go_at_call 58;refine dx.mono ?_;rintro x y7 ⟨c,rfl,hv,cj⟩;obtain⟨HV,an⟩:=h_2 hv cj;clear hv cj;have sq:=vR y7 67 #[I6 0,I6 0,I6 0,.string ⟨#[]⟩,Z0,Z0] [I6 c.k,I6 c.i,I6 c.s,Sv c.t,Sl c.la c.ll c.lc,Sl c.fa c.fl c.fc] aJ4 rfl gj)
 clear sq c0;obtain⟨p,hp⟩:=xe y7.heap.size
 obtain⟨y8,a2⟩:=xe (y7.alloc (oV c 67))
 rw[<-a2,<-hp];have ax:BB y7 y8:=by rw[a2];exact(gx _ y7).alloc lr _
 have dp:=f8 (show y8.heap[p]?=some (oV c 67) by rw[a2,hp];exact ib y7 _);have a3:y8.heap[k]?=some (scA s6 f5):=aB ax (aB an.o dd.o);have df:=f8 (aB ax (aB an.o aw.o));have T8:=f8 ((a9.trans (Turn.of_below an.o)).trans (Turn.of_below ax));have c9:=f8 (show P<p from by have:=an.size;have:=ltOf aw.o;omega);obtain⟨c2,b6⟩:=h_2 a3 ax;have c1:=aA a3 1;have f1:=aF a3 1
 (try dsimp only at c1)
 clear a3 ax hp a2;obtain⟨er,bw⟩:=xe ((fK s6).2.2)
 rw[<-bw];clear bw
 go_cut [] (λwz=>∃z:Bool,wz=y8.setCell ⟨k,1,none⟩ (.bool z))
 case first =>
  by_cases he:er=0
  ·subst he;cases f5
   all_goals
    go_wp2
    go_meet
    exact⟨_,rfl⟩
  ·have h0:(er==0)=false:=by simp[he]
   have h1:(er != 0)=true:=by simp[he]
   clear he;cases f5
   all_goals
    go_wp2
    go_meet
    exact⟨_,rfl⟩
 case rest =>
 obtain⟨z,a6⟩:=hcut;obtain⟨yz,b8⟩:=xe (wc:World)
 rw[<-b8] at a6 ⊢;clear b8 c1 f1;have gP:=aD ⟨k,1,none⟩ (.bool z) df.o (by have:=ae.1;dsimp only;omega);have gQ:=aD ⟨k,1,none⟩ (.bool z) dp.o (by have:=ae.1;have:=c9.o;dsimp only;omega);have gk:=aG (o:=1) (.bool z) c2.o;simp only[jm,jn,jo] at gk;have tz:=T8.trans (Turn.setCell (R:=λj=>j=k) ⟨k,1,none⟩ (.bool z) rfl);have bz:∀b,b≠k->(y8.setCell ⟨k,1,none⟩ (.bool z)).heap[b]?=y8.heap[b]?:=λb hb=>ij _ _ _ _ hb;rw[<-a6] at gP gQ gk tz bz
 have hl:(loadCellsFrom ⟨p,0,none⟩ 0 6 #[]).run prog yz=.ok #[I6 c.k,I6 c.i,I6 c.s,Sv c.t,Sl c.la c.ll c.lc,Sl c.fa c.fl c.fc] yz:=nO gQ;obtain⟨u8,ao⟩:=xe (yz.setRow P #[I6 2,Sv nm,I6 nu,.string ⟨#[]⟩,I6 q.e,Sl q.a q.n q.c,I6 q.e,Sl q.a q.n q.c,Sv nm,I6 ca,.bool un,I6 c.k,I6 c.i,I6 c.s,Sv c.t,Sl c.la c.ll c.lc,Sl c.fa c.fl c.fc,Sv nd])
 have bh:(storeCells ⟨P,11,none⟩ [I6 c.k,I6 c.i,I6 c.s,Sv c.t,Sl c.la c.ll c.lc,Sl c.fa c.fl c.fc] 0).run prog yz=.ok () u8:=by
  have:=run_storeCells_at (P:=prog) P 11 94 [I6 c.k,I6 c.i,I6 c.s,Sv c.t,Sl c.la c.ll c.lc,Sl c.fa c.fl c.fc] 0 #[I6 2,Sv nm,I6 nu,.string ⟨#[]⟩,I6 q.e,Sl q.a q.n q.c,I6 q.e,Sl q.a q.n q.c,Sv nm,I6 ca,.bool un,I6 0,I6 0,I6 0,.string ⟨#[]⟩,Z0,Z0,Sv nd] yz gP ge gj;rw[this,ao];rfl
 have cn:u8.heap[P]?=some (.cells #[I6 2,Sv nm,I6 nu,.string ⟨#[]⟩,I6 q.e,Sl q.a q.n q.c,I6 q.e,Sl q.a q.n q.c,Sv nm,I6 ca,.bool un,I6 c.k,I6 c.i,I6 c.s,Sv c.t,Sl c.la c.ll c.lc,Sl c.fa c.fl c.fc,Sv nd] 94):=by rw[ao];exact ke yz P _ _ _ (0,0) gP
 have bv:∀b,b≠P->u8.heap[b]?=yz.heap[b]?:=λb hb=>by rw[ao];exact ko yz P b _ hb
 have ds:=f8 bv;have TU:=f8 (show Turn (λj=>j=k) w u8 from tz.fresh (eT (B:=P) (by rw[ao];exact eJ yz P _)) (λj hj hPj=>by have:=ae.2;omega));have dc:=f8 cn;have dr:=f8 (show u8.heap.size=y8.heap.size by rw[ao,ky,a6];simp[World.setCell]);have d1:=f8 ((bv k (by have:=ae.1;omega)).trans gk);have c4:=f8 bz;clear gP gQ gk tz bz cn bv ao a6;go_upto_region 5 with (fail)
 clear hl bh
 have HC:=f8 (λ(w':World) (h:w'.heap[cb]?=some (.cells #[Pt R 0] 42)/\w'.heap[R]?=some (O (Sl sa sn sc))/\w'.heap[P]?=some (.cells #[I6 2,Sv nm,I6 nu,.string ⟨#[]⟩,I6 q.e,Sl q.a q.n q.c,I6 q.e,Sl q.a q.n q.c,Sv nm,I6 ca,.bool un,I6 c.k,I6 c.i,I6 c.s,Sv c.t,Sl c.la c.ll c.lc,Sl c.fa c.fl c.fc,Sv nd] 94))=>(show Ce w' cb 0 (Pt R 0)/\Ce w' R 9 (Sl sa sn sc)/\(loadCellsFrom ⟨P,0,none⟩ 0 18 #[]).run prog w'=.ok #[I6 2,Sv nm,I6 nu,.string ⟨#[]⟩,I6 q.e,Sl q.a q.n q.c,I6 q.e,Sl q.a q.n q.c,Sv nm,I6 ca,.bool un,I6 c.k,I6 c.i,I6 c.s,Sv c.t,Sl c.la c.ll c.lc,Sl c.fa c.fl c.fc,Sv nd] w' from⟨aA h.1 0,(bp.o _ _ h.2.1).1,nO h.2.2⟩))
 have dj:=f8 (show u8.drew.heap[cb]?=some (.cells #[Pt R 0] 42)/\u8.drew.heap[R]?=some (O (Sl sa sn sc))/\u8.drew.heap[P]?=some (.cells #[I6 2,Sv nm,I6 nu,.string ⟨#[]⟩,I6 q.e,Sl q.a q.n q.c,I6 q.e,Sl q.a q.n q.c,Sv nm,I6 ca,.bool un,I6 c.k,I6 c.i,I6 c.s,Sv c.t,Sl c.la c.ll c.lc,Sl c.fa c.fl c.fc,Sv nd] 94) from⟨TU.keep d2.o bl.2.1,TU.keep HR.o bl.1,dc.o⟩)
 refine bK 9 (λw'=>w'.heap[cb]?=some (.cells #[Pt R 0] 42)/\w'.heap[R]?=some (O (Sl sa sn sc))/\w'.heap[P]?=some (.cells #[I6 2,Sv nm,I6 nu,.string ⟨#[]⟩,I6 q.e,Sl q.a q.n q.c,I6 q.e,Sl q.a q.n q.c,Sv nm,I6 ca,.bool un,I6 c.k,I6 c.i,I6 c.s,Sv c.t,Sl c.la c.ll c.lc,Sl c.fa c.fl c.fc,Sv nd] 94)) gd gd gd gb (dj.o) (λhS=>?_);simp only[zdm,zdn,zdp,zdq];refine tC 0 HC ?_;refine tC 1 HC ?_;refine tC 2 HC ?_;refine tC 3 HC ?_;refine tC 4 HC ?_;refine tC 5 HC ?_;refine tC 6 HC ?_;refine yr 7 λK hK=>?_;generalize hy9:World.drew _=y9 at hS ⊢;have ci:∀b:Nat,y9.heap[b]?=u8.heap[b]?:=λb=>by rw[<-hy9];rfl
 have T9:=f8 (show Turn (λj=>j=k) w y9 by rw[<-hy9];exact TU.trans (Turn.of_below (gx _ u8).drew));have cR:=f8 (show y9.heap.size=u8.heap.size by rw[<-hy9];rfl);have b7:=f8 ci;have dw:=f8 (dn.o y9 T9.o);clear hy9 ci;go_simp;refine kOQ hK (⟨aC _ hS.1,aC _ hS.2.1,aC _ hS.2.2⟩) λhS=>?_;clear hK K
 refine yr 8 λK hK=>?_
 refine step_append_lies _ gh _ _ _ gh N 94 ti _ 18 248 underlying28 hi dh cz ck rfl ga (Sl sa sn sc) sn (cs.flatMap EfC.cs) gh (dw.alloc _) ⟨y9.heap.size,0,none⟩ 1 1 [I6 2,Sv nm,I6 nu,.string ⟨#[]⟩,I6 q.e,Sl q.a q.n q.c,I6 q.e,Sl q.a q.n q.c,Sv nm,I6 ca,.bool un,I6 c.k,I6 c.i,I6 c.s,Sv c.t,Sl c.la c.ll c.lc,Sl c.fa c.fl c.fc,Sv nd] gh gh (World.news_of_block (ib y9 _)) gj ga (by have:=cl.o;unfold maxLen;omega) (by have:=cl.o;omega) (by have h1:=T9.size;have h3:=cx.o;simp at h1 ⊢;omega) (y9.heap.size+1) ge ?_
 intro gg cap w4 ay ab de da;obtain⟨d3,ch⟩:=h_2 ay ab;have c7:=f8 de
 have H9:=f8 (aL ab (aC (.cells #[I6 2,Sv nm,I6 nu,.string ⟨#[]⟩,I6 q.e,Sl q.a q.n q.c,I6 q.e,Sl q.a q.n q.c,Sv nm,I6 ca,.bool un,I6 c.k,I6 c.i,I6 c.s,Sv c.t,Sl c.la c.ll c.lc,Sl c.fa c.fl c.fc,Sv nd] 94) ((b7.o k).trans d1.o)) (λe=>by have h1:=ai.2.2.2 _ e.symm;have h2:=ai.2.1;omega))
 refine kOQ hK (⟨aL ab hS.1 (λe=>by have h1:=ai.2.2.2 _ e.symm;have h2:=ai.2.2.1;omega),aL ab hS.2.1 (λe=>by have h1:=ai.2.2.2 _ e.symm;have h2:=ai.1;omega),aL ab hS.2.2 (λe=>by have h1:=(am.o _ e.symm).2.2;have h2:=ae.2;omega)⟩) λhS=>?_;clear hK K
 refine iq gd ?_ _
 (try dsimp only)
 have HS:=f8 hS;have r5:=(bp.o _ _ hS.2.1).2;have q5:=(bp.o _ _ hS.2.1).1;clear hS;go_wp2;have ee:=T9.size;have cz:=U5.size;have ck:=U6.size;have eh:=b3.o;have ea:=bt.o;have eb:=an.size;have bd:=b6.size;have ej:=dr.o;have d5:=cR.o;have ed:=ae.o;have cf:∀b,b≠k->b≠P->b<y7.heap.size->y9.heap[b]?=y7.heap[b]?:=λb h1 h2 h3=>(b7.o b).trans ((ds.o b h2).trans ((c4.o b h1).trans (b6.block b h3)))
 have bx:=f8 (show IsSt (λb=>w.heap.size<=b/\b<y9.heap.size) y9 q qd from bg.same λb hb=>⟨⟨hb.1,by omega⟩,if hbk:b=k then (by have:=hb.1;have:=ltOf H0.o;omega) else (cf b hbk ga ga).trans ((an.block b ga).trans ((dy.o b ga).trans ((U6.block b ga hbk).trans (U5.block b ga hbk))))⟩);have c5:=f8 (show IsVal (λb=>w.heap.size<=b/\b<y9.heap.size) y9 c (fK s6).1 from HV.same λb hb=>⟨⟨by omega,by omega⟩,cf b ga ga hb.2⟩);have dg:=f8 dz.o
 have al:RowAt efK 94 N (sF ad w.heap.size gg i) i w4 (So gg 0) (sn+1) cap (l++[⟨2,nm,nu,⟨#[]⟩,qd,qd,nm,ca,un,(fK s6).1,nd⟩]) :=
  RowAt.push (K:=efK) (w:=w) (w1:=y9) (a:=sa) (k:=sn) (cap:=sc) (cs:=cs) (c:=⟨2,nm,nu,⟨#[]⟩,q,q,nm,ca,un,c,nd⟩) (by have:=cr.o;omega) ba.o (λr hr=>⟨(am.o r hr).1,(am.o r hr).2.2⟩) c6.o c3.o cx.o ga
   (λb h1 h2 h3=>T9.block b h2 (λe=>by have:=ai.2.1;rw[<-e,h3] at this;omega))
   (⟨rfl,rfl,by have:=aq.o;show nm.size<=_;omega,rfl,rfl,(show(⟨#[]⟩:ByteArray).size<=140737488351232 by decide),bx.o,bx.o,rfl,rfl,dg.o,rfl,c5.o,rfl,by have:=ap.o;show nd.size<=_;omega⟩) d3.o ch.o c7.o
 have db:Turn (λj=>j=k\/j=R\/(Value.slice sa sn sc).ownBlock=some j) w w4 :=
  (((Turn.of_below (bR w):Turn _ w w).trans (T9.mono λj hj=>.inl hj)).trans (Turn.of_below ((gx _ y9).alloc lr (.cells #[I6 2,Sv nm,I6 nu,.string ⟨#[]⟩,I6 q.e,Sl q.a q.n q.c,I6 q.e,Sl q.a q.n q.c,Sv nm,I6 ca,.bool un,I6 c.k,I6 c.i,I6 c.s,Sv c.t,Sl c.la c.ll c.lc,Sl c.fa c.fl c.fc,Sv nd] 94)))).trans (Turn.of_grown ch.o (λr hr=>.inr (.inr hr)))
 have dm:∀b,b<w4.heap.size->(b=R->False)->(w4.setCell ⟨R,9,none⟩ (Sl (So gg 0) (sn+1) cap)).heap[b]?=w4.heap[b]?:=λb _ hb=>ij _ _ _ _ hb;refine jj (iu rfl _ _ _) rfl ⟨rfl,gg,cap,_,_,⟨2,nm,nu,⟨#[]⟩,qd,qd,nm,ca,un,(fK s6).1,nd⟩,dl.o _ _ _ HS.2.1,aD _ _ H9.o (λe=>bl.1 e.symm),al.keep (by simp[World.setCell]) (λb _=>rfl) (λb h1 h2 h3=>dm b h2 (λe=>?_)),⟨aq.o,ap.o,(show(⟨#[]⟩:ByteArray).size<=4000 by decide)⟩,db.trans (Turn.setCell ⟨R,9,none⟩ _ (.inr (.inl rfl)))⟩;have c8:R<w.heap.size:=ltOf HR.o
 rw[e,gU c8,ai.1] at h3;have:=cr.o;omega
end
end Go.Proofs.YtoodnaghjpkjfaaGreatDoor
