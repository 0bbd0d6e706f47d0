/- A part. -/
import Derived.Test.YtoodnaghjpkjfaaGreatDoorSE46Mrg
namespace Go.Proofs.YtoodnaghjpkjfaaGreatDoor
open Tryz
set_option linter.unusedVariables false
set_option maxRecDepth 100000
set_option maxHeartbeats 64000000
set_option linter.unusedSimpArgs false
open Go Go.RowKit Go.Shelf
section
attribute [-go_sem] loadCellsFrom storeCells
attribute [local go_sem] mG mF mB mA
theorem aLk (s:ByteArray) (hs:s.size<=4000) (w:World) (hT:Tabs w) (hZ:ZTab w) (hN:NumVars w) :
 CP 5 #[Sv s] w (DecWP s w):=by
 obtain⟨mx,cv⟩:=hN.2.2;obtain⟨n,hn⟩:=xe (Lib.countB s ⟨#[10]⟩+1)
 obtain⟨ls,av⟩:=xe (Lib.splitB ⟨#[10]⟩ 0 (Lib.countB s ⟨#[10]⟩) s)
 have ax:=aMq s;rw[<-av,<-hn] at ax;obtain⟨LN,b7⟩:=xe (.cells (ls.map Value.string).toArray 9:Obj)
 obtain⟨W,hW⟩:=xe ((((((w.alloc (.cells #[I6 0,I6 0,I6 0,Z0,Z0,Z0,Z0,Z0,Z0] 30)).alloc LN).alloc (.cells #[Sl (So (w.heap.size+1) 0) n n,I6 0,I6 0,I6 0,Z0,Z0,Z0,Z0,Z0,Z0,.bool false] 46)).alloc (.cells #[Pt (w.heap.size+2) 0] 42)).alloc (.cells #[Pt (w.heap.size+2) 1] 47)))
 have cd:BB w W:=by rw[hW];exact((((((bR w).alloc lr _).alloc ge _).alloc gi _).alloc gi _).alloc gi _)
 have gZ:W.heap[w.heap.size]?=some (.cells #[I6 0,I6 0,I6 0,Z0,Z0,Z0,Z0,Z0,Z0] 30):=by rw[hW];exact aC _ (aC _ (aC _ (aC _ (ib w _))))
 have gL:W.heap[w.heap.size+1]?=some LN:=by rw[hW];exact aC _ (aC _ (aC _ (aN _ _ _ ge)))
 have gR:W.heap[w.heap.size+2]?=some (.cells #[Sl (So (w.heap.size+1) 0) n n,I6 0,I6 0,I6 0,Z0,Z0,Z0,Z0,Z0,Z0,.bool false] 46):=by rw[hW];exact aC _ (aC _ (aN _ _ _ ge))
 have g4:W.heap[w.heap.size+3]?=some (.cells #[Pt (w.heap.size+2) 0] 42):=by rw[hW];exact aC _ (aN _ _ _ ge)
 have g5:W.heap[w.heap.size+4]?=some (.cells #[Pt (w.heap.size+2) 1] 47):=by rw[hW];exact aN _ _ _ ge
 have zW:W.heap.size=w.heap.size+5:=by rw[hW];simp
 have dq:f7 (CP 10 #[Sv s,.string ⟨#[10]⟩] (w.alloc (.cells #[I6 0,I6 0,I6 0,Z0,Z0,Z0,Z0,Z0,Z0] 30)) λe w'=>e=.returned (Sl (some ⟨(w.alloc (.cells #[I6 0,I6 0,I6 0,Z0,Z0,Z0,Z0,Z0,Z0] 30)).heap.size,0,none⟩) n n)/\w'=(w.alloc (.cells #[I6 0,I6 0,I6 0,Z0,Z0,Z0,Z0,Z0,Z0] 30)).alloc LN):=f8 (by
  have h:=Tryz.strings_Split s ⟨#[10]⟩ mx (w.alloc (.cells #[I6 0,I6 0,I6 0,Z0,Z0,Z0,Z0,Z0,Z0] 30)) ga (pN ((bR w).alloc lr _) cv) gt;rw[<-av,<-hn,<-b7] at h;exact h)
 have ci:TB3 W w.heap.size:=⟨w,hT,hZ,hN,cd,gy _,by omega⟩
 obtain⟨N,bz⟩:=xe w.heap.size
 obtain⟨L,bi⟩:=xe (w.heap.size+1)
 obtain⟨R,a6⟩:=xe (w.heap.size+2)
 obtain⟨B4,ca⟩:=xe (w.heap.size+3)
 obtain⟨B5,b8⟩:=xe (w.heap.size+4)
 have HW:=f8 hW;have aj:=f8 (show N=w.heap.size/\L=w.heap.size+1/\R=w.heap.size+2/\B4=w.heap.size+3/\B5=w.heap.size+4 from⟨bz,bi,a6,ca,b8⟩);have dd:=f8 cd;rw[<-bi] at gL;rw[<-a6,<-bi] at gR;rw[<-ca,<-a6] at g4;rw[<-b8,<-a6] at g5;rw[<-bz] at gZ ci;have dm:LinesAt W L 0 ls:=λj hj=>by
  rw[aA (show W.heap[L]?=some (.cells (ls.map Value.string).toArray 9) by rw[gL,b7]) (0+j)];simp[n3 hj]
 have cj:=f8 (show ∀p∈[(N,(.cells #[I6 0,I6 0,I6 0,Z0,Z0,Z0,Z0,Z0,Z0] 30)),(B4,bxR R),(B5,bxM R)],p.1≠R/\p.1≠L/\p.1<W.heap.size/\W.heap[p.1]?=some p.2 from λp hp=>by
  simp only[kd,jt,kj] at hp;rcases hp with rfl|rfl|rfl
  ·exact⟨by dsimp only;omega,by dsimp only;omega,by dsimp only;omega,gZ⟩
  ·exact⟨by dsimp only;omega,by dsimp only;omega,by dsimp only;omega,g4⟩
  ·exact⟨by dsimp only;omega,by dsimp only;omega,by dsimp only;omega,g5⟩)
 have eo:=f8 (uE ⟨#[115,110,97,112,115,104,111,116]⟩ gb zSnC false R L 0 n ls (by have:=yN ls;rw[ax.1] at this;omega) (Nat.le_of_eq ax.2) ga W (by rw[ax.2];exact gR) dm);have dw:=f8 (show Wt ls<=4001 by rw[ax.1];omega);obtain⟨GZ,GR,es,em,a7,cL⟩:=h_6 gZ gR g4 g5 zW ci;have ae:=f8 (show R≠B5/\B5≠R/\R≠B4/\B4≠R/\N<=R/\N<=L/\L≠R/\N<R by omega);have c4:=aA g4 0
 (try dsimp only at c4)
 obtain⟨e5,e0,e4,ez⟩:=h_4 hT hZ hN hs;clear cv hn av ax b7 hW cd gZ gL gR g4 g5 zW ci bz bi a6 ca b8 dm hT hZ hN hs;go_enter func5,ntmps5
 go_upto_region 3 with (go_at_call 10;refine dq.mono ?_;rintro r w3 ⟨rfl,dj⟩;rw[dj];clear dj)
 rw[<-HW.o,<-aj.2.2.2.2,<-aj.2.2.2.1,<-aj.1];go_upto_region 4 with (go_at_call 11;refine eo.mono ?_;rintro e w2 (⟨rfl,b9⟩|⟨ln,rest,tl,k,i',ao,av,dc,dx,rfl,di,cR,c2,cq,dl,de⟩))
 ·have gz:=aB b9 GZ.o;have c3:=aMo (P:=prog) [I6 0,I6 0,I6 0,Z0,Z0,Z0,Z0,Z0,Z0] gz rfl gj;have g:=ke w2 N _ #[I6 0,I6 0,I6 0,Z0,Z0,Z0,Z0,Z0,Z0] _ (0,0) gz;obtain⟨HG,el⟩:=h_2 g b9;clear gz g b9 c4;go_wp2;refine ig (aFf (vs:=[I6 0,I6 0,I6 0,Z0,Z0,Z0,Z0,Z0,Z0]) rfl rfl rfl HG.o) rfl ⟨.inr rfl,?_⟩
  have:=aj.1;exact(dd.trans (el.mono (by have:=a7.o;omega))).trans (this▸eJ w2 N _)
 ·obtain⟨ex,dv,dp,bj,ee,ep,d2⟩:=h_7 di c2 dl de cq dc av;have ah:=f8 (show W.heap.size<=k from cR);clear di c2 dl de cq dc av cR dx c4;go_upto_region 6 with (fail)
  obtain⟨s1,cl⟩:=xe ((cI rest).2)
  obtain⟨s2,cb⟩:=xe ((cI s1).2)
  obtain⟨s3,c5⟩:=xe ((cI s2).2)
  have ei:ln.size+1+Wt tl<=4001:=by have:=dw.o;rw[d2.o,sL] at this;exact this
  have dk:rest.size<=4000:=by have:=ep.o;omega
  have cr:s1.size<=4000:=by rw[cl];exact io (aM rest).2 dk
  have d0:s2.size<=4000:=by rw[cb];exact io (aM s1).2 cr
  have ej:f7 (TB3 w2.drew N):=f8 ((cL.turn bj.o (λj hj=>by have:=ae.o;omega)).below (gx _ w2).drew);have ar:∀w',Turn (λj=>j=k) w2.drew w'->NumVars w':=λw' t=>(ej.turn t (λj hj=>by have:=ah.o;have:=a7.o;have:=aj.1;omega)).all.2.2;have c8:=f8 (λ(f:Bool) (v:World) (h:v.heap[k]?=some (scA rest f)) (t:Turn (λj=>j=k) w2.drew v)=>dM rest f ga k v h (ar v t) (λw' t'=>ar w' (t.trans t')))
  have ct:=f8 (λ(f:Bool) (v:World) (h:v.heap[k]?=some (scA s1 f)) (t:Turn (λj=>j=k) w2.drew v)=>dM s1 f ga k v h (ar v t) (λw' t'=>ar w' (t.trans t')));have dn:=f8 (λ(f:Bool) (v:World) (h:v.heap[k]?=some (scA s2 f)) (t:Turn (λj=>j=k) w2.drew v)=>dM s2 f ga k v h (ar v t) (λw' t'=>ar w' (t.trans t')));rw[<-cl] at c8;rw[<-cb] at ct;rw[<-c5] at dn;have ah:f7 (k≠B5/\B5≠k/\k≠B4/\B4≠k/\k≠R/\R≠k/\k≠L/\k≠N/\W.heap.size<=k):=f8 (by have h1:=ah.o;have h2:=a7.o;have h3:=aj.o;omega);have H0:f7 (w2.drew.heap[k]?=some (scA rest false)):=f8 ex.o
  have dz:f7 (w2.drew.heap[B5]?=some (bxM R)):=f8 (bj.keep em.o ae.2.1);have dt:f7 (w2.drew.heap[R]?=some (.cells #[(Sl (So L i') tl.length ao),I6 0,I6 0,I6 0,Z0,Z0,Z0,Z0,Z0,Z0,.bool false] 46)):=f8 dv.o;have T0:=f8 (Turn.refl (λj=>j=k) w2.drew);have d6:=f8 (show Wt tl<=4001 by omega);have ag:=f8 (λ(w':World) (h:w'.heap[B5]?=some (bxM R))=>(show Ce w' B5 0 (Pt R 1) from aA h 0));clear cl cb c5 ei dk cr d0 ar
  refine iz (S:=(λw'=>w'.heap[B5]?=some (bxM R))) gd (dz.o) (λhS=>?_);refine tC 0 ag ?_;refine tC 1 ag ?_;refine tC 2 ag ?_;refine tC 3 ag ?_;refine tC 5 ag ?_;refine tC 7 ag ?_;refine yr 4 λK hK=>?_;go_simp;go_at_call 12;refine(c8.o _ _ H0.o T0.o).mono ?_;rintro x v1 ⟨a0,f1,rfl,ak,h9,ab⟩;have H1:=f8 h9;have T1:=f8 (T0.trans ab);have bh:=f8 ak;clear h9 ak;refine kOQ hK (ab.keep hS (by have:=ah.o;omega)) λhS=>?_;clear hK K
  refine yr 6 λK hK=>?_;go_simp;go_at_call 12;refine(ct.o _ _ H1.o T1.o).mono ?_;rintro x v2 ⟨a1,f2,rfl,ak,h9,ab⟩;have H2:=f8 h9;have T2:=f8 (T1.trans ab);have bk:=f8 ak;clear h9 ak;refine kOQ hK (ab.keep hS (by have:=ah.o;omega)) λhS=>?_;clear hK K
  refine yr 8 λK hK=>?_;go_simp;go_at_call 12;refine(dn.o _ _ H2.o T2.o).mono ?_;rintro x v3 ⟨a2,f3,rfl,ak,h9,ab⟩;have H3:=f8 h9;have T3:=f8 (T2.trans ab);have bp:=f8 ak;clear h9 ak;have G0:=f8 (T3.keep dt.o (by have:=ah.o;omega));refine kOQ hK (ab.keep hS (by have:=ah.o;omega)) λhS=>?_;clear hK K
  refine tC 9 ag ?_;refine tC 10 ag ?_;refine yr 11 λK hK=>?_;have d3:=aF G0.o 1;have df:=aA G0.o 1;(try dsimp only at df);go_simp;have ai:=aG (o:=1) (I6 a0) G0.o;simp only[jm,jn,jo] at ai;have G1:=f8 ai;clear ai d3 df;refine kOQ hK (aD _ _ hS (by have:=ae.o;dsimp only;omega)) λhS=>?_;clear hK K
  refine tC 12 ag ?_;refine tC 13 ag ?_;refine yr 14 λK hK=>?_;have ev:=aF G1.o 2;have co:=aA G1.o 2;(try dsimp only at co);go_simp;have ai:=aG (o:=2) (I6 a1) G1.o;simp only[jm,jn,jo] at ai;have G2:=f8 ai;clear ai ev co;refine kOQ hK (aD _ _ hS (by have:=ae.o;dsimp only;omega)) λhS=>?_;clear hK K
  refine tC 15 ag ?_;refine tC 16 ag ?_;refine yr 17 λK hK=>?_;have d8:=aF G2.o 3;have c6:=aA G2.o 3;(try dsimp only at c6);go_simp;have ai:=aG (o:=3) (I6 a2) G2.o;simp only[jm,jn,jo] at ai;have G3:=f8 ai;clear ai d8 c6;refine kOQ hK (aD _ _ hS (by have:=ae.o;dsimp only;omega)) λhS=>?_;clear hK K
  refine iq gd ?_ _
  (try dsimp only)
  skip
  obtain⟨W7,da⟩:=xe ((((v3.setCell ⟨R,1,none⟩ (I6 a0)).setCell ⟨R,2,none⟩ (I6 a1)).setCell ⟨R,3,none⟩ (I6 a2)))
  have g3:=G3.o;have t7:Turn (λj=>j=R) W (((v3.setCell ⟨R,1,none⟩ (I6 a0)).setCell ⟨R,2,none⟩ (I6 a1)).setCell ⟨R,3,none⟩ (I6 a2)):=((((bj.trans (Turn.of_below (gx _ w2).drew)).fresh T3.o (λj hj e=>by have:=ah.o;omega)).trans (Turn.setCell (R:=λj=>j=R) ⟨R,1,none⟩ _ rfl)).trans (Turn.setCell (R:=λj=>j=R) ⟨R,2,none⟩ _ rfl)).trans (Turn.setCell (R:=λj=>j=R) ⟨R,3,none⟩ _ rfl)
  have k7:=aD ⟨R,3,none⟩ (I6 a2) (aD ⟨R,2,none⟩ (I6 a1) (aD ⟨R,1,none⟩ (I6 a0) H3.o (by have:=ah.o;dsimp only;omega)) (by have:=ah.o;dsimp only;omega)) (by have:=ah.o;dsimp only;omega);rw[<-da] at g3 t7 k7 ⊢;have bq:f7 (W7.drew.heap[R]?=some (.cells #[(Sl (So L i') tl.length ao),I6 a0,I6 a1,I6 a2,Z0,Z0,Z0,Z0,Z0,Z0,.bool false] 46)):=f8 g3;have eg:f7 (W7.drew.heap[B4]?=some (bxR R)/\W7.drew.heap[k]?=some (scA s3 f3)):=f8 ⟨t7.keep es.o (by have:=ae.o;omega),k7⟩;have T7:=f8 t7
  have an:=f8 (λ(w':World) (h:w'.heap[B4]?=some (bxR R)/\w'.heap[k]?=some (scA s3 f3))=>(show Ce w' B4 0 (Pt R 0)/\Ce w' k 1 (.bool f3) from⟨aA h.1 0,aA h.2 1⟩));clear g3 t7 k7 da;go_upto_region 7 with (fail)
  refine iz (S:=(λw'=>w'.heap[B4]?=some (bxR R)/\w'.heap[k]?=some (scA s3 f3))) gd (eg.o) (λhS=>?_);refine tC 0 an ?_;refine tC 1 an ?_;refine tC 2 an ?_;refine tC 3 an ?_;refine tC 4 an ?_;refine tC 5 an ?_;refine tC 6 an ?_;refine yr 7 λK hK=>?_;have q7:=aF bq.o 10;have p7:=aA bq.o 10;(try dsimp only at p7);go_simp;refine kOQ hK (⟨aD _ _ hS.1 (by have:=ae.o;dsimp only;omega),aD _ _ hS.2 (by have:=ah.o;dsimp only;omega)⟩) λhS=>?_;clear hK K
  refine iq gd ?_ _
  (try dsimp only)
  clear hS;obtain⟨W8,bm⟩:=xe ((W7.setCell ⟨R,10,none⟩ (.bool f3)).drew)
  rw[<-bm];have t8:Turn (λj=>j=R) W W8:=by rw[bm];exact(T7.trans (Turn.setCell (R:=λj=>j=R) ⟨R,10,none⟩ _ rfl)).trans (Turn.of_below (gx _ _).drew)
  have g8:W8.heap[R]?=some (.cells #[(Sl (So L i') tl.length ao),I6 a0,I6 a1,I6 a2,Z0,Z0,Z0,Z0,Z0,Z0,.bool f3] 46):=by
   have h:=aG (o:=10) (.bool f3) bq.o;simp only[jm,jn,jo] at h;rw[bm];exact h
  have bl:L<W.heap.size:=by have:=a7.o;have:=aj.o;omega
  have ch:LinesAt W8 L i' tl:=dp.same ((t8.block L bl (by have:=ae.o;omega)).trans (bj.block L bl (by have:=ae.o;omega)).symm);obtain⟨e6,G8,ey⟩:=h_3 t8 g8 ch;have ce:SnRI (RdK N R L [(N,(.cells #[I6 0,I6 0,I6 0,Z0,Z0,Z0,Z0,Z0,Z0] 30)),(B4,bxR R),(B5,bxM R)] 0 10000) R L tl.length f3 W8:=SnRI.begin bh.o bk.o bp.o rfl ee.o d6.o g8 ch (ix bl t8.size) ae.2.2.2.2.2.2.1 (λp hp=>by
   obtain⟨h1,h2,h3,h4⟩:=cj.o p hp;exact⟨h1,h2,ix h3 t8.size,t8.keep h4 h1⟩) (cL.turn t8 (λj hj=>by have:=ae.o;omega))
  have c4:=aA (ce.kept (ja _ (iw ..))) 0
  (try dsimp only at c4)
  have ew:=f8 ce;have cw:=f8 (show BB w W8 from dd.trans (t8.below (N:=w.heap.size) (λj hj=>by have:=ae.o;have:=aj.1;omega) (by have:=a7.o;omega)));clear t8 g8 ch bm ce bl;go_wp2;clear c4
  obtain⟨WF,bg⟩:=xe (W8.alloc (.cells #[.func (.func 13) #[Pt R 0] #[],.func (.func 14) #[] #[Pt B4 0,Pt B5 0],.func (.func 17) #[] #[Pt B4 0,Pt B5 0],.func (.func 18) #[] #[Pt B4 0,Pt B5 0],.func (.func 22) #[] #[Pt B4 0,Pt B5 0],.func (.func 26) #[Pt R 0] #[]] 1))
  obtain⟨fb,bt⟩:=xe W8.heap.size
  rw[<-bg,<-bt]
  have bc:SnRI (RdK N R L ((fb,(.cells #[.func (.func 13) #[Pt R 0] #[],.func (.func 14) #[] #[Pt B4 0,Pt B5 0],.func (.func 17) #[] #[Pt B4 0,Pt B5 0],.func (.func 18) #[] #[Pt B4 0,Pt B5 0],.func (.func 22) #[] #[Pt B4 0,Pt B5 0],.func (.func 26) #[Pt R 0] #[]] 1)) :: [(N,(.cells #[I6 0,I6 0,I6 0,Z0,Z0,Z0,Z0,Z0,Z0] 30)),(B4,bxR R),(B5,bxM R)]) 0 10000) R L tl.length f3 WF:=by rw[bg,bt];exact ew.more _
  have bx:BB w WF:=by rw[bg];exact cw.alloc cw.size _
  obtain⟨kp,a4⟩:=xe ((fb,(.cells #[.func (.func 13) #[Pt R 0] #[],.func (.func 14) #[] #[Pt B4 0,Pt B5 0],.func (.func 17) #[] #[Pt B4 0,Pt B5 0],.func (.func 18) #[] #[Pt B4 0,Pt B5 0],.func (.func 22) #[] #[Pt B4 0,Pt B5 0],.func (.func 26) #[Pt R 0] #[]] 1)) :: [(N,(.cells #[I6 0,I6 0,I6 0,Z0,Z0,Z0,Z0,Z0,Z0] 30)),(B4,bxR R),(B5,bxM R)])
  have au:=f8 (show(fb,(.cells #[.func (.func 13) #[Pt R 0] #[],.func (.func 14) #[] #[Pt B4 0,Pt B5 0],.func (.func 17) #[] #[Pt B4 0,Pt B5 0],.func (.func 18) #[] #[Pt B4 0,Pt B5 0],.func (.func 22) #[] #[Pt B4 0,Pt B5 0],.func (.func 26) #[Pt R 0] #[]] 1))∈kp by rw[a4];exact iw ..)
  have cz:=f8 (show(N,(.cells #[I6 0,I6 0,I6 0,Z0,Z0,Z0,Z0,Z0,Z0] 30))∈kp by rw[a4];exact ja _ (iw ..));have ay:=f8 (show(B4,bxR R)∈kp by rw[a4];exact ja _ (ja _ (iw ..)));have be:=f8 (show(B5,bxM R)∈kp by rw[a4];exact ja _ (ja _ (ja _ (iw ..))));rw[<-a4] at bc;obtain⟨m0,cp⟩:=xe tl.length
  obtain⟨b0,dg⟩:=xe f3
  obtain⟨u0,cc⟩:=xe WF
  rw[<-cp,<-dg,<-cc] at bc;rw[<-cc] at bx ⊢;obtain⟨bh,ba⟩:=h_2 bc bx;have ds:=f8 (Turn.refl (λj=>N<=j/\j≠L) u0);have az:=f8 ae.2.2.2.2.2.2.1;have aw:=f8 ae.2.2.2.2.1;have a3:=f8 ae.2.2.2.2.2.1;clear bg bt bc a4 cp dg cc bx;have bs:∀args w,(callFunc 13 args).run prog w=.ok (.enter 13 args) w:=jd func13 gd rfl;have bw:∀args w,(callFunc 14 args).run prog w=.ok (.enter 14 args) w:=jd func14 gd rfl
  have cf:∀args w,(callFunc 17 args).run prog w=.ok (.enter 17 args) w:=jd func17 gd rfl;have ck:∀args w,(callFunc 18 args).run prog w=.ok (.enter 18 args) w:=jd func18 gd rfl;have cn:∀args w,(callFunc 22 args).run prog w=.ok (.enter 22 args) w:=jd func22 gd rfl;have bu:∀args w,(callFunc 26 args).run prog w=.ok (.enter 26 args) w:=jd func26 gd rfl;refine lx 7 ?_;rw[jk];have f0:=aA (bh.kept au.o) 0
  (try dsimp only at f0)
  go_wp2_with (go_at_call 13;refine(aC0 N R L kp az.o aw.o a3.o m0 b0 u0 bh.o).mono ?_;rintro r u1 ⟨rfl,⟨m1,b1,ad⟩,ab⟩;have bk:=f8 ad;have d9:=f8 (ds.trans ab);clear ad ab)
  clear f0;rw[jk];have f1:=aA (bk.kept au.o) 1
  (try dsimp only at f1)
  go_wp2_with (go_at_call 14;refine(aI3 N R L B4 B5 kp ay.o be.o az.o aw.o a3.o m1 b1 u1 bk.o).mono ?_;rintro r u2 ⟨rfl,⟨m2,b2,ad⟩,ab⟩;have bp:=f8 ad;have d7:=f8 (d9.trans ab);clear ad ab)
  clear f1;rw[jk];have f2:=aA (bp.kept au.o) 2
  (try dsimp only at f2)
  go_wp2_with (go_at_call 17;refine(aI2 N R L B4 B5 kp ay.o be.o az.o aw.o a3.o m2 b2 u2 bp.o).mono ?_;rintro r u3 ⟨rfl,⟨m3,b3,ad⟩,ab⟩;have cu:=f8 ad;have ed:=f8 (d7.trans ab);clear ad ab)
  clear f2;rw[jk];have f3:=aA (cu.kept au.o) 3
  (try dsimp only at f3)
  go_wp2_with (go_at_call 18;refine(aI1 N R L B4 B5 kp ay.o be.o az.o aw.o a3.o m3 b3 u3 cu.o).mono ?_;rintro r u4 ⟨rfl,⟨m4,b4,ad⟩,ab⟩;have c7:=f8 ad;have d1:=f8 (ed.trans ab);clear ad ab)
  clear f3;rw[jk];have f4:=aA (c7.kept au.o) 4
  (try dsimp only at f4)
  go_wp2_with (go_at_call 22;refine(aI0 N R L B4 B5 kp ay.o be.o az.o aw.o a3.o m4 b4 u4 c7.o).mono ?_;rintro r u5 ⟨rfl,⟨m5,b5,ad⟩,ab⟩;have cy:=f8 ad;have eu:=f8 (d1.trans ab);clear ad ab)
  clear f4;rw[jk];have f5:=aA (cy.kept au.o) 5
  (try dsimp only at f5)
  go_wp2_with (go_at_call 26;refine(aHu N R L kp az.o aw.o a3.o m5 b5 u5 cy.o).mono ?_;rintro r u6 ⟨rfl,⟨m6,b6,ad⟩,ab⟩;have bn:=f8 ad;have eb:=f8 (eu.trans ab);clear ad ab)
  clear f5;clear bs bw cf ck cn bu;have cx:=bn.kept cz.o;have c4:=aA (bn.kept ay.o) 0;obtain⟨c,ic,cap,e3,h1,h2,h3,cg,ea,⟨h0,d,ek,k1,k2,k3,k4⟩,h7⟩:=id bn.o;have c9:ek N=9:=(k3 _ cz.o).1;have bf:=k1.isSn k2;have dr:=f8 bf;have bo:=f8 (k2.less (ii _));obtain⟨et,du⟩:=h_2 c9 cg;have dh:=f8 (show BB w u6 from ba.trans (eb.below (λj hj=>by have:=aj.1;omega) ba.size))
  have db:=f8 (pX c d u6 (bf.same λb hb=>⟨hb.2.1,rfl⟩) k4.all.1 k4.all.2.1 bo.zn (λx hx=>by have:=(bo.zl x hx).2;omega) (λh=>aAe d bf bo.o h));obtain⟨tx,cm⟩:=xe ((jL d).1)
  obtain⟨er,br⟩:=xe ((jL d).2)
  rw[<-cm,<-br] at db;have eh:=f8 (show jL d=(tx,er) by rw[cm,br]);have a8:(loadCellsFrom ⟨R,1,none⟩ 0 9 #[]).run prog u6=.ok #[I6 c.v,I6 c.e,I6 c.t,Sl c.na c.nl c.nc,Sl c.aa c.al c.ac,Sl c.sa c.sl c.sc,Sl c.qa c.ql c.qc,Sl c.la c.ll c.lc,Sl c.pa c.pl c.pc] u6 :=
   ldMid (vs:=[I6 c.v,I6 c.e,I6 c.t,Sl c.na c.nl c.nc,Sl c.aa c.al c.ac,Sl c.sa c.sl c.sc,Sl c.qa c.ql c.qc,Sl c.la c.ll c.lc,Sl c.pa c.pl c.pc]) cg
  have d5:=f8 cx
  (try dsimp only at c4)
  clear cx h1 h2 h3 cg ea h0 k1 k2 k3 k4 h7 c9 bf cm br;rw[jk];go_upto_region 14 with (go_at_call 27;refine db.mono ?_;rintro r am ⟨rfl,a5⟩;have af:=f8 a5;clear a5)
  clear a8 c4;have bv:=aB af.o du.o;have bb:=aB af.o d5.o;have c4:=aA (aB af.o (bn.kept ay.o)) 0;have ec:=aA bv 10
  (try dsimp only at c4 ec)
  have a8:(loadCellsFrom ⟨R,1,none⟩ 0 9 #[]).run prog am=.ok #[I6 c.v,I6 c.e,I6 c.t,Sl c.na c.nl c.nc,Sl c.aa c.al c.ac,Sl c.sa c.sl c.sc,Sl c.qa c.ql c.qc,Sl c.la c.ll c.lc,Sl c.pa c.pl c.pc] am:=ldMid (vs:=[I6 c.v,I6 c.e,I6 c.t,Sl c.na c.nl c.nc,Sl c.aa c.al c.ac,Sl c.sa c.sl c.sc,Sl c.qa c.ql c.qc,Sl c.la c.ll c.lc,Sl c.pa c.pl c.pc]) bv;have c3:=aMo (P:=prog) [I6 0,I6 0,I6 0,Z0,Z0,Z0,Z0,Z0,Z0] bb rfl gj
  have aq:=aMo (P:=prog) [I6 c.v,I6 c.e,I6 c.t,Sl c.na c.nl c.nc,Sl c.aa c.al c.ac,Sl c.sa c.sl c.sc,Sl c.qa c.ql c.qc,Sl c.la c.ll c.lc,Sl c.pa c.pl c.pc] bb rfl gj;have ap:=f8 (ke am N _ #[I6 0,I6 0,I6 0,Z0,Z0,Z0,Z0,Z0,Z0] _ (0,0) bb);have a9:=f8 (ke am N _ #[I6 c.v,I6 c.e,I6 c.t,Sl c.na c.nl c.nc,Sl c.aa c.al c.ac,Sl c.sa c.sl c.sc,Sl c.qa c.ql c.qc,Sl c.la c.ll c.lc,Sl c.pa c.pl c.pc] _ (0,0) bb)
  have dy:=f8 (show BB w am from dh.trans (af.mono dh.size));have bd:=f8 (λ(cs:Array Value)=>(show BB w (am.setRow N cs) from dy.trans (by have h:=aj.1;rw[<-h];exact eJ am N cs)));clear bv bb;by_cases hb:b6=true
  ·subst hb;clear a8 aq;go_wp2;exact ig (aFf (vs:=[I6 0,I6 0,I6 0,Z0,Z0,Z0,Z0,Z0,Z0]) rfl rfl rfl ap.o) rfl ⟨.inr rfl,bd.o _⟩
  rw[pk] at hb;subst hb;by_cases he:¬ er=0
  ·have e1:(er==0)=false:=by simp[he]
   have e2:(er != 0)=true:=by simp[he]
   clear a8 aq he;go_wp2;exact ig (aFf (vs:=[I6 0,I6 0,I6 0,Z0,Z0,Z0,Z0,Z0,Z0]) rfl rfl rfl ap.o) rfl ⟨.inr rfl,bd.o _⟩
  have he:=Classical.not_not.1 he;subst he;by_cases ht:tx=s
  ·have q1:(tx.toList==s.toList)=true:=by rw[ht];exact beq_self_eq_true _
   have q2:(tx.toList != s.toList)=false:=by simp[bne,q1]
   have en:=f8 ht;clear c3 ht;go_wp2;refine ig (aFf (vs:=[I6 c.v,I6 c.e,I6 c.t,Sl c.na c.nl c.nc,Sl c.aa c.al c.ac,Sl c.sa c.sl c.sc,Sl c.qa c.ql c.qc,Sl c.la c.ll c.lc,Sl c.pa c.pl c.pc]) rfl rfl rfl a9.o) rfl ⟨.inl ⟨c,d,rfl,dr.same λb hb=>⟨⟨by have:=aj.1;omega,by rw[ky];exact ix hb.2.1 af.size⟩,(ko am N b _ (λe=>by have h1:=hb.2.2;have h2:=et.o;rw[e] at h1;omega)).trans (af.block b hb.2.1)⟩,bo.o,by rw[eh.o,en.o]⟩,bd.o _⟩
  ·have q1:(tx.toList==s.toList)=false:=by rw[aOm];simp[ht]
   have q2:(tx.toList != s.toList)=true:=by simp[bne,q1]
   clear a8 aq ht;go_wp2;exact ig (aFf (vs:=[I6 0,I6 0,I6 0,Z0,Z0,Z0,Z0,Z0,Z0]) rfl rfl rfl ap.o) rfl ⟨.inr rfl,bd.o _⟩
end
end Go.Proofs.YtoodnaghjpkjfaaGreatDoor
