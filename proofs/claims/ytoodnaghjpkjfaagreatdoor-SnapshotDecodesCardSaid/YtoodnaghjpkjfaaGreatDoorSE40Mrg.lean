/- A part. -/
import Derived.Test.YtoodnaghjpkjfaaGreatDoorSE38Mrg
import Derived.Test.YtoodnaghjpkjfaaGreatDoorSE39Mrg
namespace Go.Proofs.YtoodnaghjpkjfaaGreatDoor
open Tryz
set_option linter.unusedVariables false
set_option maxRecDepth 100000
set_option maxHeartbeats 64000000
set_option linter.unusedSimpArgs false
open Go Go.RowKit Go.Shelf
theorem aH2 {d d':Sta} {a b:BA} (h:eV d a b=some d'):4<=a.size:=by
 unfold eV at h;by_cases h1:a=wState
 ·rw[h1];decide
 rw[f9 h1] at h;by_cases h2:a=wSlot
 ·rw[h2];decide
 rw[f9 h2] at h;by_cases h3:d.l=[]
 ·rw[gw h3] at h;cases h
 rw[f9 h3] at h;by_cases h4:a=wItem
 ·rw[h4];decide
 rw[f9 h4] at h;by_cases h5:(fK b).2.2=0/\a=wValue
 ·rw[h5.2];decide
 ·rw[f9 h5] at h;cases h
theorem uA:∀(l:List (ByteArray × BA)) (d d':Sta),eU d l=some d'->∀x∈l,4<=x.1.size
 | [],_,_,_,x,hx=>absurd hx ge
 | (a,b) :: l,d,d',h,x,hx=>by
   rw[eU] at h;cases hq:eV d a b with
   | none=>rw[hq] at h;cases h
   | some e =>
     rw[hq] at h;rcases List.mem_cons.1 hx with rfl|hx
     ·exact aH2 hq
     ·exact uA l e d' h x hx
theorem aJ0:∀l:List UInt8,((lns l).map List.length).sum=l.length
 | []=>rfl
 | x :: r=>by
   have ih:=aJ0 r;rw[lns];by_cases h:x=10
   ·rw[gw h,jv,mz,ih];simp only[im,i7];omega
   ·rw[f9 h];cases hl:lns r with
    | nil=>rw[hl] at ih;have ih:0=r.length:=ih;show 1+0=_;rw[im];omega
    | cons a t=>rw[hl,jv,mz] at ih;show((x :: a) :: t |>.map List.length).sum=_;rw[jv,mz,im,im];omega
theorem aIv:∀(L:List (List UInt8)) (p:List (ByteArray × ByteArray)),p <+: L.map aDi->(∀x∈p,4<=x.1.size)->4 * p.length<=(L.map List.length).sum
 | _,[],_,_=>ii _
 | [],x :: p,h,_=>by simp at h
 | y :: L,x :: p,h,hw=>by
   rw[jv,List.cons_prefix_cons] at h;have ih:=aIv L p h.2 (λz hz=>hw z (ja _ hz));have h1:=hw x (iw ..);have h2:=(vE y).1;rw[h.1] at h1;simp;omega
theorem wH (s:BA) (hs:s.size<=7900) (p:List (ByteArray × BA)) (d:Sta) (hp:p <+: fR s) (h:eU ⟨0,0,[]⟩ p=some d):p.length<=1999:=by
 have h1:=aIv _ p hp (uA p _ d h);rw[aJ0,tQ] at h1;omega
theorem decS_sz {s:BA} {d:Sta} (hs:s.size<=7900) (h:aLl s=some d):Sz 2000 d.l:=by
 unfold aLl at h;cases hr:eU ⟨0,0,[]⟩ (fR s) with
 | none=>rw[hr] at h;cases h
 | some e =>
   rw[hr] at h;have h1:=wH s hs _ e (List.prefix_refl _) hr;have h2:=pA (fR s) 0 ⟨0,0,[]⟩ e ⟨gy _,λx hx=>absurd hx ge⟩ hr;have he:e=d:=by
    by_cases hq:jQ e=(s,0)
    ·simp only[hq,je] at h;exact jp h
    ·simp only[hq,kz] at h;cases h
   rw[<-he];exact⟨by have:=h2.1;omega,λx hx=>by have:=h2.2 x hx;omega⟩
theorem aIq:∀r:List ByteArray,(Lib.joinTail [10] (r.map (·.data.toList))).length=Wt r
 | []=>rfl
 | x :: r=>by
   have ih:=aIq r;unfold Lib.joinTail at ih ⊢;rw[sL];simp at ih ⊢;rw[ih];have:x.data.size=x.size:=rfl;omega
theorem join_wt (x:ByteArray) (r:List ByteArray):(Lib.join ((x :: r).map (·.data.toList)) [10]).length+1=Wt (x :: r):=by
 rw[jv,Lib.join_cons,ik,aIq,sL,lu];have:x.data.size=x.size:=rfl;omega
theorem Wt_app (a b:List BA):Wt (a++b)=Wt a+Wt b:=by unfold Wt;rw[kh,List.sum_append]
theorem aOq (k:Nat) (l:List BA):Wt (l.take k)+Wt (l.drop k)=Wt l:=by rw[<-Wt_app,List.take_append_drop]
section
theorem aNo:(prog.info? 85).map (λi=>(i.zero,i.size,i.bytes))=some (some (.agg #[I6 0,I6 0,Z0]),3,40):=by kernel_rfl
theorem aNn:(prog.info? 85).map (·.size)=some 3:=by kernel_rfl
section
attribute [-go_sem] loadCellsFrom storeCells
attribute [local go_sem] mG mF mB mA
theorem aC0 (N R L:Nat) (kp:List (Nat × Obj)) (db:L≠R) (b3:N<=R) (de:N<=L) (n0:Nat) (bm:Bool) (w:World) (hI:SnRI (RdK N R L kp 0 10000) R L n0 bm w) :
 CP 13 #[Pt R 0] w (yO N R L kp w):=by
 obtain⟨ti,hi,cn,c4,cv⟩:=jr aNo;have HI:=f8 hI;clear hI;go_enter func13,ntmps13
 go_wp2
 go_loopw [2] (λ_ wr=>(∃m b,SnRI (RdK N R L kp 0 10000) R L m b wr)/\Turn (λj=>N<=j/\j≠L) w wr) (λ_ wr=>kS wr R)
 case atStart=>exact⟨⟨n0,bm,HI.o⟩,Turn.refl _ _⟩
 case round =>
  obtain⟨⟨m,bd,hI⟩,ht⟩:=hrel;have bx:=hI.lenAt;have a4:=f8 hI;obtain⟨c,i,cap,ls,h1,h2,h3,hR,h5,hk,h7⟩:=id hI;obtain⟨n,hn⟩:=xe ls.length
  rw[<-hn] at hR;have dg:n<=4001:=by rw[hn];exact io (yN ls) h3
  have cr:m=n:=by rw[hn,h1]
  subst cr;have ak:=aA hR 10;have b0:=aA hR 0
  (try dsimp only at ak b0)
  obtain⟨HT,be,bj,HR,HL,HK,ca,c5⟩:=h_8 ht bx h3 hR h5 hk h7 hn;have ai:=f8 h2;clear ht hI bx h1 h2 h3 hR h5 hk h7;by_cases a6:bd=true
  ·subst a6;clear hn;go_wp2;exact jj (iu rfl _ _ _) rfl ⟨rfl,⟨m,true,a4.o⟩,HT.o⟩
  rw[pk] at a6;subst a6;rcases ls with _|⟨ln,tl⟩
  ·obtain rfl:m=0:=hn;go_wp2;exact jj (iu rfl _ _ _) rfl ⟨rfl,⟨0,false,a4.o⟩,HT.o⟩
  have hq:=HL.o 0 ge;simp only[Nat.add_zero,k8] at hq;have HP:=f8 (λ(w:World)=>Tryz.strings_HasPrefix ln ⟨#[115,116,97,116,101,32]⟩ w);obtain⟨pf,a0⟩:=xe (Lib.hasPrefix ln.data.toList (⟨#[115,116,97,116,101,32]⟩:ByteArray).data.toList)
  rw[<-a0] at HP;have dh:=f8 a0;have c8:(0:Int)<(m:Int):=by rw[hn];simp
  clear a0 hn;cases pf
  ·go_wp2_with (go_at_call 46;refine(HP.o _).mono ?_;rintro e w3 ⟨rfl,am⟩;obtain rfl:=am.symm)
   exact jj (iu rfl _ _ _) rfl ⟨rfl,⟨m,false,a4.o⟩,HT.o⟩
  ·go_upto_region 1 with (go_at_call 46;refine(HP.o _).mono ?_;rintro e w3 ⟨rfl,am⟩;obtain rfl:=am.symm)
   obtain⟨wl,rfl⟩:=xe (wr:World)
   have bn:=f8 (λ(k:Nat) (h:k<(ln :: tl).length)=>HL.o k h);have an:=f8 (show m=(ln :: tl).length by have:=c5.o;exact this);have aq:=f8 (λ(x p:ByteArray) (w:World)=>(show CP 46 #[Sv x,Sv p] w λe w'=>∃bb,e=.returned (.bool bb)/\w'=w from(Tryz.strings_HasPrefix x p w).mono λe w' h=>⟨_,h.1,h.2⟩))
   go_upto_block 2 with (fail)
   go_cut [2] (λv wz=>wz=wl/\∃k:Nat,v=I6 k/\1<=k/\k<=m)
   case first =>
    go_wp2
    go_loopw [2] (λiv wz=>wz=wl/\∃k:Nat,iv=I6 k/\1<=k/\k<=m) (λiv _=>m-(intOf iv).toNat)
    case atStart=>exact⟨rfl,1,rfl,gy _,by omega⟩
    case round =>
     obtain⟨hw,k,rfl,af,ag⟩:=hrel;subst hw;have dc:IntKind.i64.wrap ((k:Int)+1)=(k:Int)+1:=ip _ ga;have ct:(0:Int)<=(k:Int):=ga
     by_cases cc:k<m
     ·have hq:=bn.o k (by have:=an.o;omega);obtain⟨x,hx⟩:∃x,x=(ln :: tl)[k]'(by have:=an.o;omega):=⟨_,rfl⟩
      rw[<-hx] at hq;have a5:(k:Int)<(m:Int):=ga
      clear hx;go_wp2_with (go_at_call 46;refine(aq.o _ _ _).mono ?_;rintro e w3 ⟨bb,rfl,am⟩;obtain rfl:=am.symm;cases bb)
      all_goals first
       | (go_meet;exact⟨rfl,k,rfl,af,ag⟩)
       | (go_roundw
          ·exact⟨by trivial,k+1,by go_num,by omega,by omega⟩
          ·simp[intOf];omega)
     ·have a5:¬ (k:Int)<(m:Int):=ga
      go_wp2
      go_meet
      exact⟨rfl,k,rfl,af,ag⟩
   case rest =>
   obtain⟨hw,k,rfl,af,ag⟩:=hcut;have hw:=hw.symm;subst hw;have da:(k:Int)<=(cap:Int):=by have:=ai.o;omega
   have c9:(k:Int)<=(m:Int):=ga
   have ct:(0:Int)<=(k:Int):=ga
   obtain⟨J,hJ⟩:=xe (⟨(Lib.join (((ln :: tl).take k).map (·.data.toList)) (⟨#[10]⟩:ByteArray).data.toList).toArray⟩:ByteArray)
   have bv:((ln :: tl).take k).length=k:=by rw[ma];have:=an.o;omega
   have c2:=aOq k (ln :: tl);have co:J.size+1=Wt ((ln :: tl).take k):=by
    rw[hJ,show k=(k-1)+1 by omega,List.take_succ_cons];exact(congrArg (· + 1) gt).trans (join_wt ln (tl.take (k-1)))
   have b7:J.size+1<=4001:=by have:=bj.o;omega
   have HJ:=f8 (Tryz.strings_Join L i cap ((ln :: tl).take k) ⟨#[10]⟩ wl (λj x hj=>by
    obtain⟨ci,b1⟩:=List.getElem?_eq_some_iff.1 hj;rw[List.getElem_take] at b1;rw[<-b1];exact bn.o j (by rw[ma] at ci;omega)) ca.o ga (by have:=ai.o;omega) (by
     have h1:J.size=(Lib.join (((ln :: tl).take k).map (·.data.toList)) (⟨#[10]⟩:ByteArray).data.toList).length:=by rw[hJ];simp[ByteArray.size]
     exact Nat.le_trans (Nat.le_of_eq h1.symm) (by omega)))
   rw[<-hJ,bv] at HJ;have df:¬ 9223372036854775807<J.size+1:=ga
   have az:=f8 (show TB3 wl N from HK.2.choose_spec.choose_spec.2.2.2);have cm:=f8 (λ(w':World) (h:BB wl w')=>aCa (J++⟨#[10]⟩) w' (by rw[ly];show J.size+1<=_;omega) (wH _ (by rw[ly];show J.size+1<=_;omega)) (λx hx=>LnOK.small (by have:=aE6 _ x hx;rw[ly] at this;have:x.2.size<=J.size+1:=this;omega)) (az.below h).all.1 (az.below h).all.2.1 (az.below h).all.2.2);have cu:=f8 (show Wt ((ln :: tl).drop k)<=4001 by have:=bj.o;omega)
   have cq:=f8 (λ(d:Sta) (h:aLl (J++⟨#[10]⟩)=some d)=>decS_sz (by rw[ly];show J.size+1<=_;omega) h);obtain⟨bw,ba⟩:=h_2 af ag;clear bv c2 co b7 hJ af ag;go_upto_region 5 with (first
    | (go_at_call 47;refine(cm.o _ al.o).mono ?_;rintro e w3 ⟨cs,ds,E,rfl,bp,hE,bg⟩;obtain⟨cb,HE,a9⟩:=h_3 bp hE bg;clear bp hE bg;have sq:=vR w3 85 #[I6 0,I6 0,Z0] [I6 cs.n,I6 cs.t,.slice cs.a cs.l cs.c] aNn rfl gj)
    | (go_at_call 48;refine HJ.mono ?_;rintro e w2 ⟨rfl,bo⟩;have al:=f8 bo;clear bo))
   clear sq;obtain⟨P,hP⟩:=xe w3.heap.size
   obtain⟨y4,ap⟩:=xe (w3.alloc (.cells #[I6 cs.n,I6 cs.t,Sl cs.a cs.l cs.c] 85))
   rw[<-ap,<-hP];have ao:BB w3 y4:=by rw[ap];exact(gx _ w3).alloc lr _
   have bk:y4.heap[P]?=some (.cells #[I6 cs.n,I6 cs.t,Sl cs.a cs.l cs.c] 85):=by rw[ap,hP];exact ib w3 _
   have a8:BB wl y4:=al.trans ((a9.trans (ao.mono a9.size)).mono al.size);have av:y4.heap[R]?=some (snrO (Sl (So L i) m cap) c false):=aB a8 HR.o;have aq:=f8 (show wl.heap.size<=P by rw[hP];exact io al.size a9.size);have bi:=f8 (show R<wl.heap.size from ltOf HR.o);have a7:=f8 (show IsSta (λb=>wl.heap.size<=b/\b<y4.heap.size) y4 cs ds from cb.same λb hb=>⟨⟨by have:=al.size;omega,by have:=ao.size;omega⟩,ao.block b hb.2⟩);obtain⟨c3,cx,cj⟩:=h_3 a8 bk av;clear ak b0 hq;have ak:=aA av 10
   have cd:=aF av 10
   (try dsimp only at ak)
   clear ao bk a8 av hP ap
   go_cut [] (λwz=>∃z:Bool,wz=y4.setCell ⟨R,10,none⟩ (.bool z))
   case first =>
    rcases HE.o with ⟨rfl,_⟩|⟨rfl,_,_⟩
    all_goals
     go_wp2
     go_meet
     exact⟨_,rfl⟩
   case rest =>
   obtain⟨z,hz⟩:=hcut;obtain⟨wz,bl⟩:=xe (wc:World)
   rw[<-bl] at hz ⊢;clear bl ak cd;have gR:=aG (o:=10) (.bool z) cj.o;simp only[jm,jn,jo] at gR;have gP:=aD ⟨R,10,none⟩ (.bool z) cx.o (by have:=aq.o;have:=bi.o;dsimp only;omega);have tz:=(Turn.of_below (R:=λj=>j=R) c3.o).trans (Turn.setCell ⟨R,10,none⟩ (.bool z) rfl);have bz:∀b,b≠R->(y4.setCell ⟨R,10,none⟩ (.bool z)).heap[b]?=y4.heap[b]?:=λb hb=>ij _ _ _ _ hb;have sz:(y4.setCell ⟨R,10,none⟩ (.bool z)).heap.size=y4.heap.size:=by simp[World.setCell]
   rw[<-hz] at gR gP tz bz sz;have cl:f7 (wz.drew.heap[R]?=some (snrO (Sl (So L i) m cap) c z)/\wz.drew.heap[P]?=some (.cells #[I6 cs.n,I6 cs.t,Sl cs.a cs.l cs.c] 85)):=f8 ⟨gR,gP⟩;obtain⟨TZ,BZ,SZ⟩:=h_3 tz bz sz;clear gR gP tz bz sz hz;obtain⟨h0,d,bu,k1,k2,k3,k4,k5⟩:=HK.scan (Turn.refl _ wl) b3;obtain⟨ab,ac,xs,aw,ax,au⟩:=id k1.ns
   have cp:=f8 (λ(w':World) (h:Turn (λj=>j=R) wl w')=>(show w'.ownsRow N 85 3 (Sl c.na c.nl c.nc) c.nl (xs.flatMap StC.cs) from gJ ax λg o hg ho=>h.keep ho (λe=>by have:=ac g hg;rw[e,k1.cR] at this;omega)));have br:=f8 (ie k1.cR ac);have ae:=f8 (λr (hr:Value.ownBlock (Sl c.na c.nl c.nc)=some r)=>ie (ac r hr) (ax.lt r hr));have bt:=f8 (show c.nl<=5000 by have:=k2.ns;omega);have b4:=f8 (show N<=wl.heap.size from k4.size);have b8:=f8 (ie h0 (ie k1 (ie k2 (ie k3 (ie k4 k5)))))
   have cf:=f8 (ie ab (ie aw au));have HC:=f8 (λ(w':World) (h:w'.heap[R]?=some (snrO (Sl (So L i) m cap) c z)/\w'.heap[P]?=some (.cells #[I6 cs.n,I6 cs.t,Sl cs.a cs.l cs.c] 85))=>(show Ce w' R 4 (Sl c.na c.nl c.nc)/\(loadCellsFrom ⟨P,0,none⟩ 0 3 #[]).run prog w'=.ok #[I6 cs.n,I6 cs.t,Sl cs.a cs.l cs.c] w' from⟨aA h.1 4,nO h.2⟩));clear h0 k1 k2 k3 k4 k5 ab ac aw ax au;go_upto_region 6 with (fail)
   refine bK 10 (λw'=>w'.heap[R]?=some (snrO (Sl (So L i) m cap) c z)/\w'.heap[P]?=some (.cells #[I6 cs.n,I6 cs.t,Sl cs.a cs.l cs.c] 85)) gd gd gd gb (cl.o) (λhS=>?_);simp only[zdm,zdn,zdp,zdq];refine tC 0 HC ?_;refine tC 1 HC ?_;refine tC 2 HC ?_;refine tC 3 HC ?_;refine tC 4 HC ?_;refine tC 5 HC ?_;refine tC 6 HC ?_;refine tC 7 HC ?_;refine yr 8 λK hK=>?_;generalize hy9:World.drew _=y9 at hS ⊢;have bs:∀b:Nat,y9.heap[b]?=wz.heap[b]?:=λb=>by rw[<-hy9];rfl
   have T9:=f8 (show Turn (λj=>j=R) wl y9 by rw[<-hy9];exact TZ.trans (Turn.of_below (gx _ wz).drew));have b6:=f8 (show y9.heap.size=wz.heap.size by rw[<-hy9];rfl);have ce:=f8 bs;have cy:=f8 (cp.o y9 T9.o);clear hy9 bs;go_simp;refine kOQ hK (⟨aC _ hS.1,aC _ hS.2⟩) λhS=>?_;clear hK K
   refine yr 9 λK hK=>?_;refine step_append_lies _ gh _ _ _ gh N 85 ti _ 3 40 underlying22 hi cn c4 cv rfl ga (Sl c.na c.nl c.nc) c.nl (xs.flatMap StC.cs) gh (cy.alloc _) ⟨y9.heap.size,0,none⟩ 1 1 [I6 cs.n,I6 cs.t,Sl cs.a cs.l cs.c] gh gh (World.news_of_block (ib y9 _)) gj ga (by have:=bt.o;unfold maxLen;omega) (by have:=bt.o;omega) (by have h1:=T9.size;have h3:=b4.o;simp at h1 ⊢;omega) (y9.heap.size+1) ge ?_;intro gg gc w4 aj aa ck cg
   obtain⟨c7,bq⟩:=h_2 aj aa;have b9:=f8 ck
   refine kOQ hK (⟨aL aa hS.1 (λe=>by have h1:=br.2 _ e.symm;have h2:=br.1;omega),aL aa hS.2 (λe=>by have h1:=(ae.o _ e.symm).2.2;have h2:=aq.o;omega)⟩) λhS=>?_;clear hK K
   refine iq gd ?_ _
   (try dsimp only)
   have HS:=f8 hS;have r4:=aF hS.1 4;have q4:=aA hS.1 4
   (try dsimp only at q4)
   clear hS;go_upto_region 7 with (fail)
   obtain⟨w7,ad⟩:=xe (w4.setCell ⟨R,4,none⟩ (Sl (So gg 0) (c.nl+1) gc))
   rw[<-ad];have g7:=aG (o:=4) (Sl (So gg 0) (c.nl+1) gc) HS.1;simp only[jm,jn,jo] at g7;have b5:f7 (∀(i' c':Nat),m-k<=c'->(m-k=0\/i'=i+k)->SnRI (RdK N R L kp 0 10000) R L (m-k) z (w7.setCell ⟨R,0,none⟩ (Sl (So L i') (m-k) c'))/\Turn (λj=>N<=j/\j≠L) w (w7.setCell ⟨R,0,none⟩ (Sl (So L i') (m-k) c'))):=f8 (λi' c' hc hi'=>by
    obtain⟨h0,k1,k2,k3,k4,k5⟩:=b8.o;obtain⟨ab,aw,au⟩:=cf.o;have z1:=T9.size;have z2:=b6.o;have z3:=SZ.o;have z4:=bi.o;have c6:IsSta (λb=>wl.heap.size<=b/\b<y9.heap.size) y9 cs ds:=a7.same λb hb=>⟨⟨hb.1,by omega⟩,(ce.o b).trans (BZ.o b ga)⟩
    have ay:RowAt staK 85 N (sF bu wl.heap.size gg 1) 1 w4 (So gg 0) (c.nl+1) gc (d.ns++[ds]) :=
     RowAt.push (K:=staK) (w:=wl) (w1:=y9) (a:=c.na) (k:=c.nl) (cap:=c.nc) (cs:=xs) (c:=cs) gb ab (λr hr=>⟨(ae.o r hr).1,(ae.o r hr).2.2⟩) aw au b4.o z1
      (λb h1 h2 h3=>T9.block b h2 (λe=>by rw[e,k1.cR] at h3;omega)) c6 c7.o bq.o b9.o
    have ch:Turn (λj=>j=wl.heap.size\/j=R\/Value.ownBlock (Sl c.na c.nl c.nc)=some j) wl (w7.setCell ⟨R,0,none⟩ (Sl (So L i') (m-k) c')):=by
     rw[ad];exact((((T9.mono λj hj=>.inr (.inl hj)).trans (Turn.of_below ((gx _ y9).alloc lr (.cells #[I6 cs.n,I6 cs.t,Sl cs.a cs.l cs.c] 85)))).trans (Turn.of_grown bq.o (λr hr=>.inr (.inr hr)))).trans (Turn.setCell ⟨R,4,none⟩ _ (.inr (.inl rfl)))).trans (Turn.setCell ⟨R,0,none⟩ _ (.inr (.inl rfl)))
    obtain⟨X,x3,x4,x5⟩:=k1.fin (g:=gg) (k:=wl.heap.size) (i:=1) k3 k4 (k5 _ lr) b3 z4 gb k1.ns.lt ch;have bh:((ln :: tl).drop k).length=m-k:=by rw[ju];have:=an.o;omega
    have a3:(w7.setCell ⟨R,0,none⟩ (Sl (So L i') (m-k) c')).heap.size=w4.heap.size:=by rw[ad];simp[World.setCell]
    have ah:=ay.keep (w':=w7.setCell ⟨R,0,none⟩ (Sl (So L i') (m-k) c')) (Nat.le_of_eq a3.symm) (col':=sF bu wl.heap.size gg 1) (λb _=>rfl) (λb h1 h2 h3=>by
     have bc:b≠R:=λe=>by rw[e,gU z4,k1.cR] at h3;omega
     rw[ad];exact(ij _ _ _ _ bc).trans (ij _ _ _ _ bc))
    have hz:Sz 2000 ds.l:=by
     rcases HE.o with ⟨_,h⟩|⟨_,_,h⟩
     ·exact cq.o ds h
     ·rw[h];exact⟨by decide,λx hx=>absurd hx ge⟩
    have af:=bw.o;have ag:=ba.o;have b:=k2.less (Nat.sub_le m k);have hb:=x5.block L k1.lL (λe=>e.2 rfl);have cz:LinesAt (w7.setCell ⟨R,0,none⟩ (Sl (So L i') (m-k) c')) L i' ((ln :: tl).drop k):=(show LinesAt wl L i' ((ln :: tl).drop k) from λj hj=>by
     have h:=HL.o (k+j) (by rw[ju] at hj;omega);rw[List.getElem_drop];rcases hi' with h1|rfl
     ·omega
     ·rwa[Nat.add_assoc]).same hb
    have cw:(w7.setCell ⟨R,0,none⟩ (Sl (So L i') (m-k) c')).heap[R]?=some (snrO (Sl (So L i') ((ln :: tl).drop k).length c') { c with na:=some ⟨gg,0,none⟩,nl:=c.nl+1,nc:=gc } z):=by
     rw[<-ad] at g7;rw[bh];exact aG (o:=0) (Sl (So L i') (m-k) c') g7
    refine⟨⟨{ c with na:=some ⟨gg,0,none⟩,nl:=c.nl+1,nc:=gc },i',c',(ln :: tl).drop k,bh,hc,cu.o,cw,cz,⟨(show 0<=c.pl/\c.pl+(m-k)<=10000 by omega),{ d with ns:=d.ns++[ds] },_,⟨X.v,X.rv,X.e,X.re,X.t,X.rt,ah,X.ar gb,X.se gb,X.qs gb,X.ls gb,X.ps gb,X.cR,X.cL,X.lR,X.lL⟩,⟨(by have:=k2.ns;simp;omega),b.ar,b.se,b.qs,b.ls,b.ps,kQ k2.zn hz,b.za,b.zs,b.zq,b.zl,b.zp⟩,x3,x4⟩,X.lL⟩,HT.trans x5⟩)
   rw[<-ad] at g7;have b0:=aA g7 0;have f0:=aF g7 0
   (try dsimp only at b0)
   clear g7 ad;have b2:=f8 (show m-k<m by have:=bw.o;have:=ba.o;omega);have dd:((m:Int)-(k:Int))=((m-k:Nat):Int):=ga
   rcases mf k cap with cc|hge
   ·go_wp2;obtain⟨a1,a2⟩:=b5.o (i+k) (cap-k) (by have:=ai.o;omega) (.inr rfl);exact⟨⟨⟨m-k,z,a1⟩,a2⟩,by rw[a1.lenAt,be.o];exact b2.o⟩
   ·obtain rfl:cap=k:=by have:=ai.o;have:=ba.o;omega
    have bf:=f8 (show m-cap=0 by have:=ai.o;omega);go_wp2;obtain⟨a1,a2⟩:=b5.o i 0 (by have:=bf.o;omega) (.inl bf.o);exact⟨⟨⟨m-cap,z,a1⟩,a2⟩,by rw[a1.lenAt,be.o];exact b2.o⟩
end
end
end Go.Proofs.YtoodnaghjpkjfaaGreatDoor
