/- A part. -/
import Derived.Test.YtoodnaghjpkjfaaGreatDoorSE25Mrg
import Derived.Test.YtoodnaghjpkjfaaGreatDoorSE33Mrg
import Derived.Test.YtoodnaghjpkjfaaGreatDoorSE34Mrg
namespace Go.Proofs.YtoodnaghjpkjfaaGreatDoor
open Tryz
set_option linter.unusedVariables false
set_option maxRecDepth 100000
set_option maxHeartbeats 64000000
set_option linter.unusedSimpArgs false
open Go Go.RowKit Go.Shelf
theorem aBb (N R k cb ab i:Nat) (sa:Option Addr) (sn sc:Nat) (l:List Cnt) (ac:Nat->Nat) (O:Value->Obj) (ao:∀(w:World) (v:Value),w.heap[R]?=some (O v)->Ce w R ab v/\w.frozen? ⟨R,ab,none⟩=false) (a1:∀(w:World) (v u:Value),w.heap[R]?=some (O v)->(w.setCell ⟨R,ab,none⟩ u).heap[R]?=some (O u))
 (s:BA) (hs:s.size<=4000) (w:World) (ag:RowAt cntK 87 N ac i w sa sn sc l) (ar:1<=i/\i<=6) (bd:sn<=5000) (ay:w.heap[cb]?=some (.cells #[Pt R ab] 57)) (hR:w.heap[R]?=some (O (Sl sa sn sc))) (hk:w.heap[k]?=some (scA s false)) (aq:TB3 w N)
 (av:ac R=7) (an:ac k=10) (am:ac cb=9) (bp:N<=R) (bn:R<k) :
 CP 49 #[Pt k 0,Pt cb 0] w (yP cntK 87 N R k i ac O sa sn sc l (λx=>x.nm.size<=4000) w):=by
 obtain⟨ti,hi,bu,bq,bs⟩:=jr aJ6;obtain⟨al,ae,cs,a7,ap,ba⟩:=ag;have bc:=ap.lt;have ak:∀w',Turn (λj=>j=k) w.drew w'->Tabs w'/\ZTab w'/\NumVars w':=λw' t=>((aq.turn (S:=λj=>j=k) (Turn.of_below (bR w).drew) (λj hj=>by omega)).turn t (λj hj=>by omega)).all;obtain⟨a,ha⟩:=xe ((cI s).1)
 obtain⟨s1,ax⟩:=xe ((cI s).2)
 have be:a.size<=4000:=by rw[ha];exact io (aM s).1 ga
 have a3:s1.size<=4000:=by rw[ax];exact io (aM s).2 ga
 have bf:=f8 (λ(f:Bool) (v:World) (h:v.heap[k]?=some (scA s f)) (t:Turn (λj=>j=k) w.drew v)=>cU s f ga k v h (ak v t).2.2);rw[<-ha,<-ax] at bf;obtain⟨s2,au⟩:=xe ((cI s1).2)
 have a5:s2.size<=4000:=by rw[au];exact io (aM s1).2 ga
 have az:=f8 (λ(f:Bool) (v:World) (h:v.heap[k]?=some (scA s1 f)) (t:Turn (λj=>j=k) w.drew v)=>dM s1 f ga k v h (ak v t).2.2 (λw' t'=>(ak w' (t.trans t')).2.2));rw[<-au] at az;obtain⟨a9,b5,b0⟩:=h_3 be a3 a5;have HC:=f8 (λ(w':World) (h:w'.heap[cb]?=some (.cells #[Pt R ab] 57)/\w'.heap[R]?=some (O (Sl sa sn sc)))=>(show Ce w' cb 0 (Pt R ab)/\Ce w' R ab (Sl sa sn sc) from⟨aA h.1 0,(ao _ _ h.2).1⟩))
 have bj:=f8 (λ(w':World) (h:Turn (λj=>j=k) w.drew w')=>(show w'.ownsRow N 87 2 (Sl sa sn sc) sn (cs.flatMap Cnt.cs) from gJ ap λg o hg ho=>h.keep (show w.drew.heap[g]?=some o from ho) (λe=>by have:=ae g hg;rw[e,an] at this;omega)));have bv:f7 (w.drew.heap[cb]?=some (.cells #[Pt R ab] 57)):=f8 ay;have HR:f7 (w.drew.heap[R]?=some (O (Sl sa sn sc))):=f8 hR;have H0:f7 (w.drew.heap[k]?=some (scA s false)):=f8 hk;have T0:=f8 (Turn.refl (λj=>j=k) w.drew)
 have aj:=f8 (show R≠k/\cb≠k/\cb≠R from⟨by omega,λe=>by rw[e,an] at am;omega,λe=>by rw[e,av] at am;omega⟩);have af:=f8 (show ac R=7/\ac k=10/\ac cb=9/\∀r,(Value.slice sa sn sc).ownBlock=some r->1<=ac r/\ac r<=6 from⟨av,an,am,λr hr=>by rw[ae r hr];exact ar⟩);have bb:=f8 bd;have a6:=f8 (show N<=w.heap.size from aq.size);obtain⟨b4,a2,bh,bm⟩:=h_4 hs ao a1 ba;have ai:=f8 (λr (hr:(Value.slice sa sn sc).ownBlock=some r)=>ie (ae r hr) (bc r hr));obtain⟨aw,a0,br⟩:=h_3 al ar a7;have b2:=f8 ak
 clear ha be ax a3 au a5 ay hR hk aq ak bc ap ba ae al a7 av an am bp bn bd ao a1 ar hs;go_enter func49,ntmps49
 go_upto_region 0 with (fail)
 refine aP 11 (λw'=>w'.heap[cb]?=some (.cells #[Pt R ab] 57)/\w'.heap[R]?=some (O (Sl sa sn sc))) gd gd gd gb (⟨bv.o,HR.o⟩) (λhS=>?_);simp only[zdm,zdn,zdp,zdq];refine tC 0 HC ?_;refine tC 1 HC ?_;refine tC 2 HC ?_;refine tC 3 HC ?_;refine tC 4 HC ?_;refine tC 6 HC ?_;refine yr 5 λK hK=>?_;go_simp;go_at_call 20;refine(bf.o _ w.drew H0.o T0.o).mono ?_;rintro x v1 ⟨rfl,h9,ad⟩;have H1:=f8 h9;have T1:=f8 (T0.trans ad);have U1:=f8 ad;clear h9;refine kOQ hK (⟨ad.keep hS.1 aj.2.1,ad.keep hS.2 aj.1⟩) λhS=>?_;clear hK K
 refine yr 7 λK hK=>?_;go_simp;go_at_call 12;refine(az.o _ v1 H1.o T1.o).mono ?_;rintro x v2 ⟨n,f2,rfl,a8,h9,ad⟩;have H2:=f8 h9;have T2:=f8 (T1.trans ad);obtain⟨U2,bz⟩:=h_2 ad a8;clear a8;clear h9;refine kOQ hK (⟨ad.keep hS.1 aj.2.1,ad.keep hS.2 aj.1⟩) λhS=>?_;clear hK K
 refine tC 8 HC ?_;refine yr 9 λK hK=>?_;have bg:=f8 (bj.o v2 T2.o);go_simp;refine kOQ hK (⟨aC _ hS.1,aC _ hS.2⟩) λhS=>?_;clear hK K
 refine yr 10 λK hK=>?_;refine step_append_lies _ gh _ _ _ gh N 87 ti _ 2 24 underlying23 hi bu bq bs rfl ga (Sl sa sn sc) sn (cs.flatMap Cnt.cs) gh (bg.alloc _) ⟨v2.heap.size,0,none⟩ 1 1 [Sv a,I6 n] gh gh (World.news_of_block (ib v2 _)) gj ga (by have:=bb.o;unfold maxLen;omega) (by have:=bb.o;omega) (by have h1:=T2.size;have h3:=a6.o;simp at h1 ⊢;omega) (v2.heap.size+1) ge ?_;intro gg cap w4 ah aa bo bk
 obtain⟨bw,a4⟩:=h_2 ah aa;have bt:=f8 bo
 have H9:=f8 (aL aa (aC (.cells #[Sv a,I6 n] 87) H2.o) (λe=>by have h1:=af.2.2.2 _ e.symm;have h2:=af.2.1;omega));refine kOQ hK (⟨aL aa hS.1 (λe=>by have h1:=af.2.2.2 _ e.symm;have h2:=af.2.2.1;omega),aL aa hS.2 (λe=>by have h1:=af.2.2.2 _ e.symm;have h2:=af.1;omega)⟩) λhS=>?_;clear hK K
 refine iq gd ?_ _
 (try dsimp only)
 have HS:=f8 hS;have r5:=(a2.o _ _ hS.2).2;have q5:=(a2.o _ _ hS.2).1;clear hS;go_wp2;have b1:=T2.size;have b3:w.drew.heap.size=w.heap.size:=rfl;have ag:RowAt cntK 87 N (sF ac w.heap.size gg i) i w4 (So gg 0) (sn+1) cap (l++[⟨a,n⟩]) :=
  RowAt.push (K:=cntK) (w:=w) (w1:=v2) (a:=sa) (k:=sn) (cap:=sc) (cs:=cs) (c:=⟨a,n⟩) (by have:=a0.o;omega) aw.o (λr hr=>⟨(ai.o r hr).1,(ai.o r hr).2.2⟩) br.o bm.o a6.o ga
   (λb h1 h2 h3=>T2.block b h2 (λe=>by have:=af.2.1;rw[<-e,h3] at this;omega))
   (⟨rfl,by have:=a9.o;show a.size<=_;omega,bz.o⟩) bw.o a4.o bt.o
 have bl:Turn (λj=>j=k\/j=R\/(Value.slice sa sn sc).ownBlock=some j) w w4 :=
  (((Turn.of_below (bR w).drew:Turn _ w w.drew).trans (T2.mono λj hj=>.inl hj)).trans (Turn.of_below ((gx _ v2).alloc lr (.cells #[Sv a,I6 n] 87)))).trans (Turn.of_grown a4.o (λr hr=>.inr (.inr hr)))
 have bi:∀b,b<w4.heap.size->(b=R->False)->(w4.setCell ⟨R,ab,none⟩ (Sl (So gg 0) (sn+1) cap)).heap[b]?=w4.heap[b]?:=λb _ hb=>ij _ _ _ _ hb;refine jj (iu rfl _ _ _) rfl ⟨rfl,gg,cap,_,_,⟨a,n⟩,bh.o _ _ _ HS.2,aD _ _ H9.o (λe=>aj.1 e.symm),ag.keep (by simp[World.setCell]) (λb _=>rfl) (λb h1 h2 h3=>bi b h2 (λe=>?_)),a9.o,bl.trans (Turn.setCell ⟨R,ab,none⟩ _ (.inr (.inl rfl)))⟩;have bx:R<w.heap.size:=ltOf HR.o;rw[e,gU bx,af.1] at h3;have:=a0.o;omega
theorem infoQue:(prog.info? 60).map (λi=>(i.zero,i.size,i.bytes))=some (some (.agg #[Sv ByteArray.empty,I6 0,I6 0,Sv ByteArray.empty]),4,48):=by kernel_rfl
theorem aK8 (N R k cb i:Nat) (sa:Option Addr) (sn sc:Nat) (l:List Que) (ac:Nat->Nat) (O:Value->Obj) (ao:∀(w:World) (v:Value),w.heap[R]?=some (O v)->Ce w R 7 v/\w.frozen? ⟨R,7,none⟩=false) (a6:∀(w:World) (v u:Value),w.heap[R]?=some (O v)->(w.setCell ⟨R,7,none⟩ u).heap[R]?=some (O u))
 (s:BA) (hs:s.size<=4000) (w:World) (ai:RowAt queK 60 N ac i w sa sn sc l) (av:1<=i/\i<=6) (bk:sn<=5000) (a0:w.heap[cb]?=some (.cells #[Pt R 1] 47)) (hR:w.heap[R]?=some (O (Sl sa sn sc))) (hk:w.heap[k]?=some (scA s false)) (au:TB3 w N)
 (ax:ac R=7) (an:ac k=10) (am:ac cb=9) (bw:N<=R) (bu:R<k) :
 CP 19 #[Pt k 0,Pt cb 0] w (yP queK 60 N R k i ac O sa sn sc l (λx=>x.nm.size<=4000/\x.tx.size<=4000) w):=by
 obtain⟨ti,hi,b2,bx,b0⟩:=jr infoQue;obtain⟨al,ae,cs,bd,ar,bf⟩:=ai;have bj:=ar.lt;have ah:∀w',Turn (λj=>j=k) w.drew w'->Tabs w'/\ZTab w'/\NumVars w':=λw' t=>((au.turn (S:=λj=>j=k) (Turn.of_below (bR w).drew) (λj hj=>by omega)).turn t (λj hj=>by omega)).all;obtain⟨a,ha⟩:=xe ((cI s).1)
 obtain⟨s1,az⟩:=xe ((cI s).2)
 have bl:a.size<=4000:=by rw[ha];exact io (aM s).1 ga
 have a8:s1.size<=4000:=by rw[az];exact io (aM s).2 ga
 have bm:=f8 (λ(f:Bool) (v:World) (h:v.heap[k]?=some (scA s f)) (t:Turn (λj=>j=k) w.drew v)=>cU s f ga k v h (ah v t).2.2);rw[<-ha,<-az] at bm;obtain⟨s2,aw⟩:=xe ((cI s1).2)
 have bb:s2.size<=4000:=by rw[aw];exact io (aM s1).2 ga
 have a1:=f8 (λ(f:Bool) (v:World) (h:v.heap[k]?=some (scA s1 f)) (t:Turn (λj=>j=k) w.drew v)=>dM s1 f ga k v h (ah v t).2.2 (λw' t'=>(ah w' (t.trans t')).2.2));rw[<-aw] at a1;obtain⟨s3,aq⟩:=xe ((cI s2).2)
 have bg:s3.size<=4000:=by rw[aq];exact io (aM s2).2 ga
 have a5:=f8 (λ(f:Bool) (v:World) (h:v.heap[k]?=some (scA s2 f)) (t:Turn (λj=>j=k) w.drew v)=>dM s2 f ga k v h (ah v t).2.2 (λw' t'=>(ah w' (t.trans t')).2.2));rw[<-aq] at a5;obtain⟨s4,ap⟩:=xe ((cI s3).2)
 have a2:s4.size<=4000:=by rw[ap];exact io (aM s3).2 ga
 have a3:=f8 (λ(f:Bool) (v:World) (h:v.heap[k]?=some (scA s3 f)) (t:Turn (λj=>j=k) w.drew v)=>rI s3 f ga k v h (λw' t'=>(ah w' (t.trans t')).2.2));rw[<-ap] at a3;obtain⟨be,cf,b8,bi,ce⟩:=h_5 bl a8 bb bg a2;have HC:=f8 (λ(w':World) (h:w'.heap[cb]?=some (.cells #[Pt R 1] 47)/\w'.heap[R]?=some (O (Sl sa sn sc)))=>(show Ce w' cb 0 (Pt R 1)/\Ce w' R 7 (Sl sa sn sc) from⟨aA h.1 0,(ao _ _ h.2).1⟩))
 have bq:=f8 (λ(w':World) (h:Turn (λj=>j=k) w.drew w')=>(show w'.ownsRow N 60 4 (Sl sa sn sc) sn (cs.flatMap Que.cs) from gJ ar λg o hg ho=>h.keep (show w.drew.heap[g]?=some o from ho) (λe=>by have:=ae g hg;rw[e,an] at this;omega)));have b3:f7 (w.drew.heap[cb]?=some (.cells #[Pt R 1] 47)):=f8 a0;have HR:f7 (w.drew.heap[R]?=some (O (Sl sa sn sc))):=f8 hR;have H0:f7 (w.drew.heap[k]?=some (scA s false)):=f8 hk;have T0:=f8 (Turn.refl (λj=>j=k) w.drew)
 have ad:=f8 (show R≠k/\cb≠k/\cb≠R from⟨by omega,λe=>by rw[e,an] at am;omega,λe=>by rw[e,ax] at am;omega⟩);have af:=f8 (show ac R=7/\ac k=10/\ac cb=9/\∀r,(Value.slice sa sn sc).ownBlock=some r->1<=ac r/\ac r<=6 from⟨ax,an,am,λr hr=>by rw[ae r hr];exact av⟩);have bh:=f8 bk;have bc:=f8 (show N<=w.heap.size from au.size);obtain⟨cd,a7,bo,bt⟩:=h_4 hs ao a6 bf;have ak:=f8 (λr (hr:(Value.slice sa sn sc).ownBlock=some r)=>ie (ae r hr) (bj r hr));obtain⟨ay,a4,bz⟩:=h_3 al av bd;have ca:=f8 ah
 clear ha bl az a8 aw bb aq bg ap a2 a0 hR hk au ah bj ar bf ae al bd ax an am bw bu bk ao a6 av hs;go_enter func19,ntmps19
 go_upto_region 0 with (fail)
 refine bK 16 (λw'=>w'.heap[cb]?=some (.cells #[Pt R 1] 47)/\w'.heap[R]?=some (O (Sl sa sn sc))) gd gd gd gb (⟨b3.o,HR.o⟩) (λhS=>?_);simp only[zdm,zdn,zdp,zdq];refine tC 0 HC ?_;refine tC 1 HC ?_;refine tC 2 HC ?_;refine tC 3 HC ?_;refine tC 4 HC ?_;refine tC 5 HC ?_;refine tC 7 HC ?_;refine tC 9 HC ?_;refine tC 11 HC ?_;refine yr 6 λK hK=>?_;go_simp;go_at_call 20;refine(bm.o _ w.drew H0.o T0.o).mono ?_;rintro x v1 ⟨rfl,h9,aa⟩;have H1:=f8 h9;have T1:=f8 (T0.trans aa);have U1:=f8 aa;clear h9;refine kOQ hK (⟨aa.keep hS.1 ad.2.1,aa.keep hS.2 ad.1⟩) λhS=>?_;clear hK K
 refine yr 8 λK hK=>?_;go_simp;go_at_call 12;refine(a1.o _ v1 H1.o T1.o).mono ?_;rintro x v2 ⟨n,f2,rfl,ag,h9,aa⟩;have H2:=f8 h9;have T2:=f8 (T1.trans aa);obtain⟨U2,b7⟩:=h_2 aa ag;clear ag;clear h9;refine kOQ hK (⟨aa.keep hS.1 ad.2.1,aa.keep hS.2 ad.1⟩) λhS=>?_;clear hK K
 refine yr 10 λK hK=>?_;go_simp;go_at_call 12;refine(a5.o _ v2 H2.o T2.o).mono ?_;rintro x v3 ⟨m,f3,rfl,ag,h9,aa⟩;have H3:=f8 h9;have T3:=f8 (T2.trans aa);obtain⟨U3,b4⟩:=h_2 aa ag;clear ag;clear h9;refine kOQ hK (⟨aa.keep hS.1 ad.2.1,aa.keep hS.2 ad.1⟩) λhS=>?_;clear hK K
 refine yr 12 λK hK=>?_;go_simp;go_at_call 21;refine(a3.o _ v3 H3.o T3.o).mono ?_;rintro x v4 ⟨t,f4,rfl,ag,h9,aa⟩;have H4:=f8 h9;have T4:=f8 (T3.trans aa);obtain⟨U4,ba⟩:=h_2 aa ag;clear ag;clear h9;refine kOQ hK (⟨aa.keep hS.1 ad.2.1,aa.keep hS.2 ad.1⟩) λhS=>?_;clear hK K
 refine tC 13 HC ?_;refine yr 14 λK hK=>?_;have bn:=f8 (bq.o v4 T4.o);go_simp;refine kOQ hK (⟨aC _ hS.1,aC _ hS.2⟩) λhS=>?_;clear hK K
 refine yr 15 λK hK=>?_;refine step_append_lies _ gh _ _ _ gh N 60 ti _ 4 48 underlying24 hi b2 bx b0 rfl ga (Sl sa sn sc) sn (cs.flatMap Que.cs) gh (bn.alloc _) ⟨v4.heap.size,0,none⟩ 1 1 [Sv a,I6 n,I6 m,Sv t] gh gh (World.news_of_block (ib v4 _)) gj ga (by have:=bh.o;unfold maxLen;omega) (by have:=bh.o;omega) (by have h1:=T4.size;have h3:=bc.o;simp at h1 ⊢;omega) (v4.heap.size+1) ge ?_;intro gg cap w4 aj ab bv br
 obtain⟨b5,a9⟩:=h_2 aj ab;have b1:=f8 bv
 have H9:=f8 (aL ab (aC (.cells #[Sv a,I6 n,I6 m,Sv t] 60) H4.o) (λe=>by have h1:=af.2.2.2 _ e.symm;have h2:=af.2.1;omega));refine kOQ hK (⟨aL ab hS.1 (λe=>by have h1:=af.2.2.2 _ e.symm;have h2:=af.2.2.1;omega),aL ab hS.2 (λe=>by have h1:=af.2.2.2 _ e.symm;have h2:=af.1;omega)⟩) λhS=>?_;clear hK K
 refine iq gd ?_ _
 (try dsimp only)
 have HS:=f8 hS;have r5:=(a7.o _ _ hS.2).2;have q5:=(a7.o _ _ hS.2).1;clear hS;go_wp2;have b9:=T4.size;have cc:w.drew.heap.size=w.heap.size:=rfl;have ai:RowAt queK 60 N (sF ac w.heap.size gg i) i w4 (So gg 0) (sn+1) cap (l++[⟨a,n,m,t⟩]) :=
  RowAt.push (K:=queK) (w:=w) (w1:=v4) (a:=sa) (k:=sn) (cap:=sc) (cs:=cs) (c:=⟨a,n,m,t⟩) (by have:=a4.o;omega) ay.o (λr hr=>⟨(ak.o r hr).1,(ak.o r hr).2.2⟩) bz.o bt.o bc.o ga
   (λb h1 h2 h3=>T4.block b h2 (λe=>by have:=af.2.1;rw[<-e,h3] at this;omega))
   (⟨rfl,by have:=be.o;show a.size<=_;omega,b7.o,b4.o,by have:=ba.o;have:=bi.o;show t.size<=_;omega⟩) b5.o a9.o b1.o
 have bs:Turn (λj=>j=k\/j=R\/(Value.slice sa sn sc).ownBlock=some j) w w4 :=
  (((Turn.of_below (bR w).drew:Turn _ w w.drew).trans (T4.mono λj hj=>.inl hj)).trans (Turn.of_below ((gx _ v4).alloc lr (.cells #[Sv a,I6 n,I6 m,Sv t] 60)))).trans (Turn.of_grown a9.o (λr hr=>.inr (.inr hr)))
 have bp:∀b,b<w4.heap.size->(b=R->False)->(w4.setCell ⟨R,7,none⟩ (Sl (So gg 0) (sn+1) cap)).heap[b]?=w4.heap[b]?:=λb _ hb=>ij _ _ _ _ hb;refine jj (iu rfl _ _ _) rfl ⟨rfl,gg,cap,_,_,⟨a,n,m,t⟩,bo.o _ _ _ HS.2,aD _ _ H9.o (λe=>ad.1 e.symm),ai.keep (by simp[World.setCell]) (λb _=>rfl) (λb h1 h2 h3=>bp b h2 (λe=>?_)),⟨be.o,by have:=ba.o;have:=bi.o;show t.size<=_;omega⟩,bs.trans (Turn.setCell ⟨R,7,none⟩ _ (.inr (.inl rfl)))⟩;have b6:R<w.heap.size:=ltOf HR.o;rw[e,gU b6,af.1] at h3;have:=a4.o;omega
theorem aEw:(prog.info? 94).map (λi=>(i.zero,i.size,i.bytes))=some (some (.agg #[I6 0,Sv ByteArray.empty,I6 0,Sv ByteArray.empty,I6 0,Z0,I6 0,Z0,Sv ByteArray.empty,I6 0,.bool false,I6 0,I6 0,I6 0,Sv ByteArray.empty,Z0,Z0,Sv ByteArray.empty]),18,248):=by kernel_rfl
theorem aLi (N R k cb i:Nat) (sa:Option Addr) (sn sc:Nat) (l:List Ef) (ac:Nat->Nat) (O:Value->Obj) (aq:∀(w:World) (v:Value),w.heap[R]?=some (O v)->Ce w R 9 v/\w.frozen? ⟨R,9,none⟩=false) (bi:∀(w:World) (v u:Value),w.heap[R]?=some (O v)->(w.setCell ⟨R,9,none⟩ u).heap[R]?=some (O u))
 (s:BA) (hs:s.size<=4000) (w:World) (ai:RowAt efK 94 N ac i w sa sn sc l) (ar:1<=i/\i<=6) (a3:sn<=5000) (be:w.heap[cb]?=some (.cells #[Pt R 0] 42)) (hR:w.heap[R]?=some (O (Sl sa sn sc))) (hk:w.heap[k]?=some (scA s false)) (ay:TB3 w N)
 (ax:ac R=7) (am:ac k=10) (an:ac cb=9) (b4:N<=R) (b2:R<k) :
 CP 59 #[Pt k 0,Pt cb 0] w (yP efK 94 N R k i ac O sa sn sc l (λx=>x.nm.size<=4000/\x.nd.size<=4000/\x.tx.size<=4000) w):=by
 obtain⟨ti,hi,bv,b5,bb⟩:=jr aEw;obtain⟨al,ae,cs,bm,ao,a7⟩:=ai;have a2:=ao.lt;have ah:∀w',Turn (λj=>j=k) w.drew w'->Tabs w'/\ZTab w'/\NumVars w':=λw' t=>((ay.turn (S:=λj=>j=k) (Turn.of_below (bR w).drew) (λj hj=>by omega)).turn t (λj hj=>by omega)).all;obtain⟨a,ha⟩:=xe ((cI s).1)
 obtain⟨s1,az⟩:=xe ((cI s).2)
 have bn:a.size<=4000:=by rw[ha];exact io (aM s).1 ga
 have a0:s1.size<=4000:=by rw[az];exact io (aM s).2 ga
 have a8:=f8 (λ(f:Bool) (v:World) (h:v.heap[k]?=some (scA s f)) (t:Turn (λj=>j=k) w.drew v)=>cU s f ga k v h (ah v t).2.2);rw[<-ha,<-az] at a8;obtain⟨s2,aw⟩:=xe ((cI s1).2)
 have a5:s2.size<=4000:=by rw[aw];exact io (aM s1).2 ga
 have bf:=f8 (λ(f:Bool) (v:World) (h:v.heap[k]?=some (scA s1 f)) (t:Turn (λj=>j=k) w.drew v)=>dM s1 f ga k v h (ah v t).2.2 (λw' t'=>(ah w' (t.trans t')).2.2));rw[<-aw] at bf;obtain⟨s3,av⟩:=xe ((cI s2).2)
 have a1:s3.size<=4000:=by rw[av];exact io (aM s2).2 ga
 have bj:=f8 (λ(f:Bool) (v:World) (h:v.heap[k]?=some (scA s2 f)) (t:Turn (λj=>j=k) w.drew v)=>rH s2 f ga k v h (λw' t'=>ie (ah w' (t.trans t')).2.2 (ah w' (t.trans t')).1));rw[<-av] at bj;obtain⟨s4,au⟩:=xe ((cI s3).2)
 have a4:s4.size<=4000:=by rw[au];exact io (aM s3).2 ga
 have bh:=f8 (λ(f:Bool) (v:World) (h:v.heap[k]?=some (scA s3 f)) (t:Turn (λj=>j=k) w.drew v)=>rI s3 f ga k v h (λw' t'=>(ah w' (t.trans t')).2.2));rw[<-au] at bh;obtain⟨a6,ci,ca,bd,b8⟩:=h_5 bn a0 a5 a1 a4;have HC:=f8 (λ(w':World) (h:w'.heap[cb]?=some (.cells #[Pt R 0] 42)/\w'.heap[R]?=some (O (Sl sa sn sc)))=>(show Ce w' cb 0 (Pt R 0)/\Ce w' R 9 (Sl sa sn sc) from⟨aA h.1 0,(aq _ _ h.2).1⟩))
 have b1:=f8 (λ(w':World) (h:Turn (λj=>j=k) w.drew w')=>(show w'.ownsRow N 94 18 (Sl sa sn sc) sn (cs.flatMap EfC.cs) from gJ ao λg o hg ho=>h.keep (show w.drew.heap[g]?=some o from ho) (λe=>by have:=ae g hg;rw[e,am] at this;omega)));have b6:f7 (w.drew.heap[cb]?=some (.cells #[Pt R 0] 42)):=f8 be;have HR:f7 (w.drew.heap[R]?=some (O (Sl sa sn sc))):=f8 hR;have H0:f7 (w.drew.heap[k]?=some (scA s false)):=f8 hk;have T0:=f8 (Turn.refl (λj=>j=k) w.drew)
 have ad:=f8 (show R≠k/\cb≠k/\cb≠R from⟨by omega,λe=>by rw[e,am] at an;omega,λe=>by rw[e,ax] at an;omega⟩);have af:=f8 (show ac R=7/\ac k=10/\ac cb=9/\∀r,(Value.slice sa sn sc).ownBlock=some r->1<=ac r/\ac r<=6 from⟨ax,am,an,λr hr=>by rw[ae r hr];exact ar⟩);have bc:=f8 a3;have bl:=f8 (show N<=w.heap.size from ay.size);obtain⟨cc,bk,bz,bo⟩:=h_4 hs aq bi a7;have ak:=f8 (λr (hr:(Value.slice sa sn sc).ownBlock=some r)=>ie (ae r hr) (a2 r hr));obtain⟨ap,bg,bp⟩:=h_3 al ar bm;have cf:=f8 ah
 clear ha bn az a0 aw a5 av a1 au a4 be hR hk ay ah a2 ao a7 ae al bm ax am an b4 b2 a3 aq bi ar hs;go_enter func59,ntmps59
 go_upto_region 0 with (fail)
 refine bK 17 (λw'=>w'.heap[cb]?=some (.cells #[Pt R 0] 42)/\w'.heap[R]?=some (O (Sl sa sn sc))) gd gd gd gb (⟨b6.o,HR.o⟩) (λhS=>?_);simp only[zdm,zdn,zdp,zdq];refine tC 0 HC ?_;refine tC 1 HC ?_;refine tC 2 HC ?_;refine tC 3 HC ?_;refine tC 4 HC ?_;refine tC 5 HC ?_;refine tC 6 HC ?_;refine tC 8 HC ?_;refine tC 10 HC ?_;refine tC 12 HC ?_;refine yr 7 λK hK=>?_;go_simp;go_at_call 20;refine(a8.o _ w.drew H0.o T0.o).mono ?_;rintro x v1 ⟨rfl,h9,aa⟩;have H1:=f8 h9;have T1:=f8 (T0.trans aa);have U1:=f8 aa;clear h9;refine kOQ hK (⟨aa.keep hS.1 ad.2.1,aa.keep hS.2 ad.1⟩) λhS=>?_;clear hK K
 refine yr 9 λK hK=>?_;go_simp;go_at_call 12;refine(bf.o _ v1 H1.o T1.o).mono ?_;rintro x v2 ⟨n,f2,rfl,ag,h9,aa⟩;have H2:=f8 h9;have T2:=f8 (T1.trans aa);obtain⟨U2,b9⟩:=h_2 aa ag;clear ag;clear h9;refine kOQ hK (⟨aa.keep hS.1 ad.2.1,aa.keep hS.2 ad.1⟩) λhS=>?_;clear hK K
 refine yr 11 λK hK=>?_;go_simp;go_at_call 60;refine(bj.o _ v2 H2.o T2.o).mono ?_;rintro x v3 ⟨q,qd,f3,rfl,ag,h9,aa⟩;have H3:=f8 h9;have T3:=f8 (T2.trans aa);obtain⟨U3,bw⟩:=h_2 aa ag;clear ag;clear h9;refine kOQ hK (⟨aa.keep hS.1 ad.2.1,aa.keep hS.2 ad.1⟩) λhS=>?_;clear hK K
 refine yr 13 λK hK=>?_;go_simp;go_at_call 21;refine(bh.o _ v3 H3.o T3.o).mono ?_;rintro x v4 ⟨t,f4,rfl,ag,h9,aa⟩;have H4:=f8 h9;have T4:=f8 (T3.trans aa);obtain⟨U4,ba⟩:=h_2 aa ag;clear ag;clear h9;refine kOQ hK (⟨aa.keep hS.1 ad.2.1,aa.keep hS.2 ad.1⟩) λhS=>?_;clear hK K
 refine tC 14 HC ?_;refine yr 15 λK hK=>?_;have b3:=f8 (b1.o v4 T4.o);go_simp;refine kOQ hK (⟨aC _ hS.1,aC _ hS.2⟩) λhS=>?_;clear hK K
 refine yr 16 λK hK=>?_
 refine step_append_lies _ gh _ _ _ gh N 94 ti _ 18 248 underlying28 hi bv b5 bb rfl ga (Sl sa sn sc) sn (cs.flatMap EfC.cs) gh (b3.alloc _) ⟨v4.heap.size,0,none⟩ 1 1 [I6 1,Sv a,I6 n,Sv t,I6 q.e,Sl q.a q.n q.c,I6 0,Z0,.string ⟨#[]⟩,I6 0,.bool false,I6 0,I6 0,I6 0,.string ⟨#[]⟩,Z0,Z0,.string ⟨#[]⟩] gh gh (World.news_of_block (ib v4 _)) gj ga (by have:=bc.o;unfold maxLen;omega) (by have:=bc.o;omega) (by have h1:=T4.size;have h3:=bl.o;simp at h1 ⊢;omega) (v4.heap.size+1) ge ?_
 intro gg cap w4 aj ab bu bs;obtain⟨b7,a9⟩:=h_2 aj ab;have bq:=f8 bu
 have H9:=f8 (aL ab (aC (.cells #[I6 1,Sv a,I6 n,Sv t,I6 q.e,Sl q.a q.n q.c,I6 0,Z0,.string ⟨#[]⟩,I6 0,.bool false,I6 0,I6 0,I6 0,.string ⟨#[]⟩,Z0,Z0,.string ⟨#[]⟩] 94) H4.o) (λe=>by have h1:=af.2.2.2 _ e.symm;have h2:=af.2.1;omega));refine kOQ hK (⟨aL ab hS.1 (λe=>by have h1:=af.2.2.2 _ e.symm;have h2:=af.2.2.1;omega),aL ab hS.2 (λe=>by have h1:=af.2.2.2 _ e.symm;have h2:=af.1;omega)⟩) λhS=>?_;clear hK K
 refine iq gd ?_ _
 (try dsimp only)
 have HS:=f8 hS;have r5:=(bk.o _ _ hS.2).2;have q5:=(bk.o _ _ hS.2).1;clear hS;go_wp2;have ce:=T4.size;have cg:w.drew.heap.size=w.heap.size:=rfl;have bb:=T2.size;have ch:=U3.size;have cd:=U4.size;have bx:IsSt (λb=>w.heap.size<=b/\b<v4.heap.size) v4 q qd:=bw.same λj hj=>⟨⟨by omega,by omega⟩,U4.block j hj.2 (λe=>by have:=ltOf H2.o;omega)⟩
 have ai:RowAt efK 94 N (sF ac w.heap.size gg i) i w4 (So gg 0) (sn+1) cap (l++[⟨1,a,n,t,qd,⟨0,[]⟩,⟨#[]⟩,0,false,zV,⟨#[]⟩⟩]) :=
  RowAt.push (K:=efK) (w:=w) (w1:=v4) (a:=sa) (k:=sn) (cap:=sc) (cs:=cs) (c:=⟨1,a,n,t,q,⟨0,none,0,0⟩,⟨#[]⟩,0,false,⟨0,0,0,⟨#[]⟩,none,0,0,none,0,0⟩,⟨#[]⟩⟩) (by have:=bg.o;omega) ap.o (λr hr=>⟨(ak.o r hr).1,(ak.o r hr).2.2⟩) bp.o bo.o bl.o ga
   (λb h1 h2 h3=>T4.block b h2 (λe=>by have:=af.2.1;rw[<-e,h3] at this;omega))
   (⟨rfl,rfl,by have:=a6.o;show a.size<=_;omega,rfl,rfl,by have:=ba.o;have:=bd.o;show t.size<=_;omega,bx,⟨rfl,(show I64 0 from⟨by decide,by decide⟩),aFv _ _⟩,rfl,rfl,(show I64 0 from⟨by decide,by decide⟩),rfl,aIl _ _,rfl,(show(⟨#[]⟩:BA).size<=140737488351232 by decide)⟩) b7.o a9.o bq.o
 have bt:Turn (λj=>j=k\/j=R\/(Value.slice sa sn sc).ownBlock=some j) w w4 :=
  (((Turn.of_below (bR w).drew:Turn _ w w.drew).trans (T4.mono λj hj=>.inl hj)).trans (Turn.of_below ((gx _ v4).alloc lr (.cells #[I6 1,Sv a,I6 n,Sv t,I6 q.e,Sl q.a q.n q.c,I6 0,Z0,.string ⟨#[]⟩,I6 0,.bool false,I6 0,I6 0,I6 0,.string ⟨#[]⟩,Z0,Z0,.string ⟨#[]⟩] 94)))).trans (Turn.of_grown a9.o (λr hr=>.inr (.inr hr)))
 have b0:∀b,b<w4.heap.size->(b=R->False)->(w4.setCell ⟨R,9,none⟩ (Sl (So gg 0) (sn+1) cap)).heap[b]?=w4.heap[b]?:=λb _ hb=>ij _ _ _ _ hb;refine jj (iu rfl _ _ _) rfl ⟨rfl,gg,cap,_,_,⟨1,a,n,t,qd,⟨0,[]⟩,⟨#[]⟩,0,false,zV,⟨#[]⟩⟩,bz.o _ _ _ HS.2,aD _ _ H9.o (λe=>ad.1 e.symm),ai.keep (by simp[World.setCell]) (λb _=>rfl) (λb h1 h2 h3=>b0 b h2 (λe=>?_)),⟨a6.o,(show(⟨#[]⟩:BA).size<=4000 by decide),by have:=ba.o;have:=bd.o;show t.size<=_;omega⟩,bt.trans (Turn.setCell ⟨R,9,none⟩ _ (.inr (.inl rfl)))⟩
 have br:R<w.heap.size:=ltOf HR.o;rw[e,gU br,af.1] at h3;have:=bg.o;omega
end Go.Proofs.YtoodnaghjpkjfaaGreatDoor
