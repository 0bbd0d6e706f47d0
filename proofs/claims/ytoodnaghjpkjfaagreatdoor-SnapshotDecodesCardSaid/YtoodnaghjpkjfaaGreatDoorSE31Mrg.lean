/- A part. -/
import Derived.Test.YtoodnaghjpkjfaaGreatDoorSE30Mrg
namespace Go.Proofs.YtoodnaghjpkjfaaGreatDoor
open Tryz
set_option linter.unusedVariables false
set_option maxRecDepth 100000
set_option maxHeartbeats 64000000
set_option linter.unusedSimpArgs false
open Go Go.RowKit Go.Shelf
section
attribute [local go_sem] cQ fE cS dJ bV cA
def Rd.fin (r:Rd):Rd:=if r.e=0/\r.k≠0 then r.fail r.p 13 else r
theorem aF6 (b:Nat) (s:BA) (r:Rd) (w:World) (h:IsRd w b s r) :
 CP 108 #[Pt b 0] w λx w'=>x=.returned (.tuple #[])/\IsRd w' b s r.fin/\w.grownBy w' (some b):=by
 have HR:=f8 h;have ac:=f8 (bH b s r r.p 13 w h);have HG:=f8 (show w.grownBy w (some b) from⟨rfl,rfl,rfl,gy _,λ_ _ _=>rfl⟩);obtain⟨W,hW,hw⟩:=h.put;clear h;subst hw;by_cases he:r.e=0
 ·have HE:=f8 he;have qe:(r.e==0)=true:=by simp[he]
  by_cases hk:r.k=0
  ·have HF:=f8 (show r.fin=r by unfold Rd.fin;rw[f9 (λh=>h.2 hk)]);have qk:((r.k:Int)==0)=true:=by simp;omega
   have aa:((r.k:Int) != 0)=false:=by simp;omega
   clear he hk;go_enter func108,ntmps108
   go_wp2;refine jj (iu rfl _ _ _) rfl ?_;exact⟨rfl,by rw[HF.o];exact HR.o,HG.o⟩
  ·have HF:=f8 (show r.fin=r.fail r.p 13 by unfold Rd.fin;rw[gw ⟨he,hk⟩]);have qk:((r.k:Int)==0)=false:=by simp;omega
   have aa:((r.k:Int) != 0)=true:=by simp;omega
   clear he hk;go_enter func108,ntmps108
   go_wp2_with (go_at_call 162;refine ac.mono ?_;rintro e w2 ⟨rfl,h2,ab⟩)
   refine jj (iu rfl _ _ _) rfl ?_;exact⟨rfl,by rw[HF.o];exact h2,ab⟩
 ·have HF:=f8 (show r.fin=r by unfold Rd.fin;rw[f9 (λh=>he h.1)]);have qe:(r.e==0)=false:=by simp[he]
  clear he;go_enter func108,ntmps108
  go_wp2;refine jj (iu rfl _ _ _) rfl ?_;exact⟨rfl,by rw[HF.o];exact HR.o,HG.o⟩
end
section
theorem aD9 {w w0 w':World} {b:Nat} (h0:Below b w w0) (hg:w0.grownBy w' (some b)) (hlt:b<=w0.heap.size):Below b w w' :=
 h0.trans ⟨hg.os,hg.tape,hg.output,hg.size,λk hk=>hg.block k ga gi⟩
theorem mR (w:World) (N:Nat) (cs:Array Value):Below N w (w.setRow N cs):=⟨rfl,rfl,rfl,by rw[ky];exact gy _,λk hk=>ko w N k cs ga⟩
abbrev rdZero:Rd:=⟨0,0,0,⟨#[]⟩,⟨#[]⟩,0,0,false,false,0,0⟩
theorem wM {s:BA} (hs:s.size<=65536):pB s=rdZero.adv s:=by unfold pB;rw[f9 ga]
theorem aK7 {s:BA} (hs:s.size<=65536):RdI s (pB s):=by
 rw[wM hs];exact mU ⟨λ_ _=>rfl,⟨ii _,ii _,by simp[I64],by simp⟩,ii _⟩
theorem aGd (s:BA) (w:World) (hs:s.size<=65536) (hT:Tabs w) (ac:NumVars w) :
 CP 106 #[Sv s] w λx w'=>x=.returned (Pt w.heap.size 0)/\IsRd w' w.heap.size s (pB s)/\Below w.heap.size w w':=by
 obtain⟨b,hb⟩:=xe w.heap.size
 obtain⟨w0,aa⟩:=xe (w.alloc (.cells (rdA s 0 0 0 ⟨#[]⟩ ⟨#[]⟩ 0 0 false false 0 0) 174))
 have ad:IsRd w0 b s rdZero:=⟨by rw[aa,hb];exact ib w _,⟨λ_=>rfl,ii _,ii _⟩⟩
 have ab:Below b w w0:=by rw[aa,hb];exact(bR w).alloc lr _
 have ae:w0.heap.size=b+1:=by rw[aa,jb,<-hb]
 have af:TB w0 b:=⟨w,hT,ac,(by rw[hb] at ab;exact ab),by omega⟩
 have ah:=f8 (oQ b s rdZero w0 ad ga af);have qs:¬ (65536:Int)<(s.size:Int):=ga
 obtain⟨HW,HB,ak,al⟩:=h_4 aa hb ab ae;have aj:=f8 (wM hs);rw[<-hb];clear aa hb ab ae ad af hs hT ac;go_enter func106,ntmps106
 go_upto_region 2 with (fail)
 rw[<-HW.o,<-HB.o];go_wp2_with (go_at_call 163;refine ah.mono ?_;rintro e w1 ⟨rfl,h1,ag⟩;obtain⟨H1,ai⟩:=h_2 h1 ag;clear h1 ag)
 refine ig (v:=.pointer (So b 0)) (by simp[results,results106,go_sem]) rfl ?_;exact⟨rfl,by rw[aj.o];exact H1.o,aD9 ak.o ai.o (by have:=al.o;omega)⟩
section
attribute [-go_sem] loadCellsFrom storeCells
attribute [local go_sem] mG mF pT tF tE sY mB mA
theorem mY (s:BA) (w:World) (hs:s.size<=65536) (hT:Tabs w) (b5:NumVars w) :
 CP 58 #[Sv s] w λx w'=>∃c:VC,x=.returned (.tuple #[c.v,I6 (fK s).2.1,I6 (fK s).2.2])/\IsVal (λi=>w.heap.size<=i/\i<w'.heap.size) w' c (fK s).1/\Below w.heap.size w w':=by
 obtain⟨N,hN⟩:=xe w.heap.size
 obtain⟨b,hb⟩:=xe (N+1)
 obtain⟨w0,am⟩:=xe (w.alloc valZ)
 have a9:w0.heap.size=b:=by rw[am,jb];omega
 have b2:w0.heap[N]?=some valZ:=by rw[am,hN];exact ib w _
 have ag:Below N w w0:=by rw[am,hN];exact(bR w).alloc lr _
 have a7:Tabs w0:=hT.below (by rw[hN] at ag;exact ag);have bm:NumVars w0:=b5.below (by rw[hN] at ag;exact ag);have ao:=aGd s w0 hs a7 bm;rw[a9] at ao;obtain⟨r0,ap⟩:=xe (pB s)
 have bq:RdI s r0:=by rw[ap];exact aK7 hs
 obtain⟨q,hq⟩:=xe (rdV s 8 r0)
 obtain⟨f,hf⟩:=xe q.2.fin
 have b6:f.e=0->q.2.e=0:=by
  rw[hf];unfold Rd.fin;split
  ·intro h;exact absurd h (Rd.fail_e _ _ _ gb)
  ·exact id
 have b0:fK s=if (if f.e=0/\fH q.1=false then bG q.1 else f.e)≠0 then (eS,f.o,(if f.e=0/\fH q.1=false then bG q.1 else f.e)) else (q.1,0,0):=by
  unfold fK rdEnd;rw[<-ap,<-hq];have e1:(if q.2.e=0/\q.2.k≠0 then q.2.fail q.2.p 13 else q.2)=f:=by rw[hf];rfl
  dsimp only;rw[e1]
 rw[<-ap] at ao;have a5:=f8 (λ(w2:World) (cur:Array Value) (hc:cur.size=6) (x0 x1 x2 x3 x4 x5:Value) (h1:∀v∈[x0,x1,x2,x3,x4,x5],v.oneCell'=true) (hz:w2.heap[N]?=some (.cells cur 67)) =>
  (show(storeCells ⟨N,0,none⟩ [x0,x1,x2,x3,x4,x5] 0).run prog w2=.ok () (w2.setRow N #[x0,x1,x2,x3,x4,x5])/\(loadCellsFrom ⟨N,0,none⟩ 0 6 #[]).run prog (w2.setRow N #[x0,x1,x2,x3,x4,x5])=.ok #[x0,x1,x2,x3,x4,x5] (w2.setRow N #[x0,x1,x2,x3,x4,x5]) from
    ⟨st6 hz hc x0 x1 x2 x3 x4 x5 h1,ld6 (ke w2 N _ #[x0,x1,x2,x3,x4,x5] 67 (0,0) hz)⟩))
 rw[<-hN];obtain⟨cy,HI,bt,a0,HQ,HF,HW,HN⟩:=h_8 ao bq b6 b0 hq hf am hN;have aa:=f8 (show N<b/\b=N+1/\b≠N by omega);obtain⟨cz,cR,ca,c5,c6,HT⟩:=h_6 b2 ag a9 a7 bm hT;have c2:s.size<=100000:=ga
 clear ao bq b6 b0 hq hf am hN hb b2 ag a9 a7 bm ap hT b5;go_enter func58,ntmps58
 go_upto_region 1 with (fail)
 rw[<-HW.o,<-HN.o];go_upto_region 2 with (go_at_call 106;refine cy.mono ?_;rintro e w1 ⟨rfl,h1,bo⟩;obtain⟨H1,bf⟩:=h_2 h1 bo;clear h1 bo)
 have bj:w1.heap[N]?=some valZ:=(bf.block N aa.1).trans cz.o;have cb:=f8 bj;have bc:=f8 (cR.trans (bf.mono (by have:=aa.o;omega)));have ai:TB w1 b:=⟨w0,c5.o,c6.o,(show Below _ w0 w1 by rw[ca.o];exact bf.o),by rw[ca.o];exact gy _⟩
 have hv:=vG 8 lr b s r0 0 w1 H1.o HI.o c2 ai rfl;rw[<-HQ.o] at hv;have HV:=f8 hv;have b4:N<w1.heap.size:=ltOf bj;have co:=f8 b4;clear hv ai bj b4;go_upto_region 3 with (go_at_call 107;refine HV.mono ?_;rintro e w2 ⟨c,d,rfl,cc,b8,br,ax⟩;obtain⟨cr,HD,cu,cj⟩:=h_4 cc b8 br ax;obtain⟨da,cm⟩:=a5.o w2 _ rfl (I6 c.k) (I6 c.i) (I6 c.s) (Sv c.t) (Sl c.la c.ll c.lc) (Sl c.fa c.fl c.fc) gj (aX ax cb.o (by have:=aa.o;omega));clear cc b8 br ax)
 clear da cm;obtain⟨w3,ah⟩:=xe (w2.setRow N #[I6 c.k,I6 c.i,I6 c.s,Sv c.t,Sl c.la c.ll c.lc,Sl c.fa c.fl c.fc])
 rw[<-ah];have b9:w2.heap[N]?=some valZ:=aX cj.o cb.o (by have:=aa.o;omega);have cg:w3.heap[N]?=some (oV c 67):=by rw[ah];exact ke w2 N _ _ 67 (0,0) b9
 have a6:IsRd w3 b s q.2:=by rw[ah];exact aI cu.o (by have:=aa.o;omega)
 have bz:IsVal (λi=>b<i/\i<w3.heap.size) w3 c d:=by
  rw[ah];exact cr.same λi hi=>⟨⟨by have:=H1.lt;omega,by rw[ky];exact hi.2⟩,ko w2 N i _ (by have:=co.o;omega)⟩
 have bs:Below N w w3:=by
  rw[ah];exact bc.trans ((aD9 (gx _ _) cj.o (ou H1.lt)).mono (by have:=aa.o;omega) |>.trans (mR w2 N _))
 have cp:=f8 (aF6 b s q.2 w3 a6);obtain⟨cL,cl,c9⟩:=h_3 cg bz bs;have bg:=f8 a6.lt;clear ah b9 cg a6 bz bs;go_upto_region 4 with (go_at_call 108;refine cp.mono ?_;rintro e w4 ⟨rfl,af,ch⟩;obtain⟨cv,ar⟩:=h_2 af ch;clear af ch)
 have af:IsRd w4 b s f:=by rw[HF.o];exact cv.o
 have a8:w4.heap[N]?=some (oV c 67):=aX ar.o cL.o (by have:=aa.o;omega);have ba:IsVal (λi=>b<i/\i<w4.heap.size) w4 c d:=cl.same λi hi=>⟨⟨hi.1,by have:=ar.size;omega⟩,ar.block i hi.2 gi⟩
 have bu:Below N w w4:=c9.trans ((aD9 (gx _ _) ar.o (ou bg.o)).mono (by have:=aa.o;omega));obtain⟨nb,bk⟩:=xe (eO c.k c.i c.s c.t c.ll c.fl)
 have bx:fH d=nb:=by rw[bk];exact iN ba
 have be:=bT c.k c.i c.s c.t c.la c.ll c.lc c.fa c.fl c.fc w4;rw[<-bk] at be;have bh:=f8 be;obtain⟨E,hE⟩:=xe (if f.e=0/\nb=false then bG d else f.e:Int)
 have cd:fK s=if E≠0 then (eS,f.o,E) else (q.1,0,0):=by
  rw[a0.o];by_cases h0:f.e=0
  ·have hd:d=q.1:=HD.o (bt.o h0);rw[hE,<-hd,bx]
  ·have e1:(if f.e=0/\fH q.1=false then bG q.1 else f.e)=f.e:=f9 (λh=>h0 h.1);have e2:(if f.e=0/\nb=false then bG d else f.e)=f.e:=f9 (λh=>h0 h.1);rw[e1,hE,e2]
 have bv:E=0->d=q.1:=λh=>HD.o (bt.o (by
  by_cases h0:f.e=0
  ·exact h0
  ·have e2:(if f.e=0/\nb=false then bG d else f.e)=f.e:=f9 (λh=>h0 h.1);rw[hE,e2] at h;exact h))
 obtain⟨bp,cx,HE⟩:=h_3 cd bv hE;obtain⟨tb,bn⟩:=xe ((decide (f.e=0) && !nb):Bool)
 have ae:=f8 bn;have ce:Ce w4 b 10 (I6 f.e):=aA af.at_ 10;have c3:=ld6 a8;have H4:=f8 (show w4.heap[N]?=some (oV c 67)/\IsRd w4 b s f/\IsVal (λi=>b<i/\i<w4.heap.size) w4 c d/\Below N w w4 from⟨a8,af,ba,bu⟩);clear af a8 ba bu bk bx be hE cd bv bn
 go_cut [21] (λv wz=>v=.bool tb/\wz.heap[N]?=some (oV c 67)/\IsRd wz b s f/\IsVal (λi=>b<i/\i<wz.heap.size) wz c d/\Below N w wz)
 case first =>
  by_cases he:f.e=0
  ·have qe:(f.e==0)=true:=by simp[he]
   have cq:=f8 he;clear he;cases nb
   ·have ht:tb=true:=by rw[ae.o,cq.o];rfl
    have aj:=f8 ht;clear ht;go_wp2_with (go_at_call 109;refine bh.mono ?_;rintro e w5 ⟨rfl,ad⟩;have ac:=f8 ad;clear ad)
    go_meet
    obtain⟨a1,a2,a3,a4⟩:=H4.o;exact⟨by rw[aj.o],aB ac.o a1,bN a2 ac.o a2.lt,a3.same λi hi=>⟨⟨hi.1,by have:=ac.size;omega⟩,ac.block i hi.2⟩,a4.trans (ac.mono (by have:=ltOf a1;omega))⟩
   ·have ht:tb=false:=by rw[ae.o];simp
    have aj:=f8 ht;clear ht;go_wp2_with (go_at_call 109;refine bh.mono ?_;rintro e w5 ⟨rfl,ad⟩;have ac:=f8 ad;clear ad)
    go_meet
    obtain⟨a1,a2,a3,a4⟩:=H4.o;exact⟨by rw[aj.o],aB ac.o a1,bN a2 ac.o a2.lt,a3.same λi hi=>⟨⟨hi.1,by have:=ac.size;omega⟩,ac.block i hi.2⟩,a4.trans (ac.mono (by have:=ltOf a1;omega))⟩
  ·have qe:(f.e==0)=false:=by simp[he]
   have ht:tb=false:=by rw[ae.o];simp[he]
   have aj:=f8 ht;clear he ht;go_wp2
   go_meet
   exact⟨by rw[aj.o],H4.o⟩
 case rest =>
 clear ce c3 bh H4;obtain⟨rfl,aq,bd,aw,ad⟩:=hcut;obtain⟨w5,b1⟩:=xe wc
 rw[<-b1] at aq bd aw ad ⊢;clear b1;have c4:=ld6 aq;have ak:=iV c d w5 (aw.same λi hi=>⟨hi.2,rfl⟩) (HT.below (by rw[HN.o] at ad;exact ad));have b7:=f8 ak;have H5:=f8 (show w5.heap[N]?=some (oV c 67)/\IsRd w5 b s f/\IsVal (λi=>b<i/\i<w5.heap.size) w5 c d/\Below N w w5 from⟨aq,bd,aw,ad⟩);clear aq bd aw ad ak
 go_upto_if 21 with (fail)
 go_cut [] (λwr=>wr.heap[N]?=some (oV c 67)/\wr.heap[b]?=some (.cells (rdA s f.nx f.k f.p f.t f.b f.n f.sc f.d f.x E f.o) 174)/\IsVal (λi=>b<i/\i<wr.heap.size) wr c d/\Below N w wr)
 case first =>
  cases tb
  ·have ay:=f8 (show E=f.e by
    rw[HE.o,f9];intro ⟨h1,h2⟩;have:=ae.o;rw[h1,h2] at this;exact absurd this gb)
   go_wp2
   go_meet
   obtain⟨a1,a2,a3,a4⟩:=H5.o;exact⟨a1,by rw[ay.o];exact a2.at_,a3,a4⟩
  ·have ay:=f8 (show E=bG d by
    rw[HE.o,gw];have:=ae.symm;rw[kg,jw] at this;exact⟨this.1,by simpa using this.2⟩)
   obtain⟨ck,ak⟩:=xe (bG d)
   have dd:=f8 ak;clear ak;go_wp2_with (go_at_call 110;refine b7.mono ?_;rintro e w6 ⟨rfl,ci⟩;have al:=f8 ci;have h6:=(al.block b H5.2.1.lt).trans H5.2.1.at_;have cw:=aA h6 10;have dc:=aF h6 10;have H6:=f8 h6;clear ci h6)
   go_meet
   obtain⟨a1,a2,a3,a4⟩:=H5.o;have c7:=aB al.o a1;exact⟨aD _ _ c7 (by have:=aa.o;dsimp only;omega),by rw[ay.o];exact aG (o:=10) (I6 (bG d)) H6.o,
    a3.same λi hi=>⟨⟨hi.1,by rw[World.size_setCell];have:=al.size;omega⟩,(ij w6 ⟨b,10,none⟩ _ i gl).trans (al.block i hi.2)⟩,
    (a4.trans (al.mono (by have:=ltOf a1;omega))).setCell (p:=⟨b,10,none⟩) (by have:=aa.o;dsimp only;omega) _⟩
 case rest =>
 clear c4 b7 H5 ae;obtain⟨au,an,bb,bl⟩:=hcut;obtain⟨wr,b3⟩:=xe wc
 rw[<-b3] at au an bb bl ⊢;clear b3;obtain⟨bw,cn,ct,cf⟩:=h_4 au an bb bl;have cw:Ce wr b 10 (I6 E):=aA an 10;have db:=ld6 au;clear au an bb bl;by_cases h0:E=0
 ·have av:=f8 h0;have q0:(E != 0)=false:=by simp[h0]
  clear h0;obtain⟨c8,bi⟩:=a5.o wr _ rfl (I6 c.k) (I6 c.i) (I6 c.s) (Sv c.t) (Sl c.la c.ll c.lc) (Sl c.fa c.fl c.fc) gj bw.o;go_wp2;refine ig (v:=.tuple #[c.v,I6 0,I6 0]) (by simp[results,results58,go_sem,bi]) rfl ?_;have az:=f8 (show fK s=(q.1,0,0) by rw[bp.o,f9 (by simp[av.o])]);rw[az.o];dsimp only;rw[<-cx.o av.o];exact⟨c,rfl,ct.same λi hi=>⟨⟨by have:=aa.o;omega,by rw[ky];exact hi.2⟩,ko wr N i _ (by have:=aa.o;omega)⟩,cf.trans (mR wr N _)⟩
 ·have av:=f8 h0;have q0:(E != 0)=true:=by simp[h0]
  clear h0;have ab:=f8 (λ(w':World) (h:w'.heap[b]?=some (.cells (rdA s f.nx f.k f.p f.t f.b f.n f.sc f.d f.x E f.o) 174))=>(show Ce w' b 10 (I6 E)/\Ce w' b 11 (I6 (f.o:Int)) from⟨aA h 10,aA h 11⟩));obtain⟨c8,bi⟩:=a5.o wr.drew _ rfl (I6 0) (I6 0) (I6 0) (Sv ⟨#[]⟩) Z0 Z0 gj (show wr.drew.heap[N]?=some (oV c 67) from bw.o);go_upto_region 7 with (fail)
  refine iz (S:=(λw'=>w'.heap[b]?=some (.cells (rdA s f.nx f.k f.p f.t f.b f.n f.sc f.d f.x E f.o) 174))) gd (cn.o) (λhS=>?_);refine tC 0 ab ?_;refine tC 1 ab ?_;refine tC 2 ab ?_;refine tC 3 ab ?_;refine tC 4 ab ?_;refine tC 5 ab ?_;refine tC 6 ab ?_;refine tC 7 ab ?_;refine tC 8 ab ?_;refine yr 9 λK hK=>?_;go_simp;refine kOQ hK ((ko wr.drew N b _ aa.2.2).trans hS) λhS=>?_;clear hK K
  refine tC 10 ab ?_;refine tC 11 ab ?_;refine iq gd ?_ _
  (try dsimp only)
  clear hS;go_wp2;refine ig (v:=.tuple #[.agg #[I6 0,I6 0,I6 0,Sv ⟨#[]⟩,Z0,Z0],I6 (f.o:Int),I6 E]) (by simp[results,results58,go_sem,bi]) rfl ?_;have az:=f8 (show fK s=(eS,f.o,E) by rw[bp.o,gw av.o]);rw[az.o];exact⟨⟨0,0,0,⟨#[]⟩,none,0,0,none,0,0⟩,rfl,dT 0 0 gr gr,cf.trans ((gx N wr).drew.trans (mR wr.drew N _))⟩
end
end
end Go.Proofs.YtoodnaghjpkjfaaGreatDoor
