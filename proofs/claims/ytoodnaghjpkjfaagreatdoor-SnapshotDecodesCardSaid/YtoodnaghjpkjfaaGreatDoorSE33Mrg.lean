/- A part. -/
import Derived.Test.YtoodnaghjpkjfaaGreatDoorSE21Mrg
namespace Go.Proofs.YtoodnaghjpkjfaaGreatDoor
open Tryz
set_option linter.unusedVariables false
set_option maxRecDepth 100000
set_option maxHeartbeats 64000000
set_option linter.unusedSimpArgs false
open Go Go.RowKit Go.Shelf
abbrev rqO (x:EfC):Obj:=.cells #[I6 x.rs.e,.slice x.rs.a x.rs.n x.rs.c,.string x.sv,I6 x.ca,.bool x.un,I6 x.bd.k,I6 x.bd.i,I6 x.bd.s,.string x.bd.t,.slice x.bd.la x.bd.ll x.bd.lc,.slice x.bd.fa x.bd.fl x.bd.fc] 92
theorem aH0 (x y:EfC) (dx dy:Ef) (w:World) (hd:IsEf (· < w.heap.size) w x dx) (aa:IsEf (· < w.heap.size) w y dy) :
 CP 176 #[.agg #[I6 x.rs.e,Sl x.rs.a x.rs.n x.rs.c,Sv x.sv,I6 x.ca,.bool x.un,I6 x.bd.k,I6 x.bd.i,I6 x.bd.s,Sv x.bd.t,Sl x.bd.la x.bd.ll x.bd.lc,Sl x.bd.fa x.bd.fl x.bd.fc],.agg #[I6 y.rs.e,Sl y.rs.a y.rs.n y.rs.c,Sv y.sv,I6 y.ca,.bool y.un,I6 y.bd.k,I6 y.bd.i,I6 y.bd.s,Sv y.bd.t,Sl y.bd.la y.bd.ll y.bd.lc,Sl y.bd.fa y.bd.fl y.bd.fc]] w (Rt (.bool (wG dx dy)) w):=by
 obtain⟨u,hu⟩:=xe (mD dx.rs dy.rs)
 obtain⟨v,hv⟩:=xe ((cM dx.bd dy.bd==0))
 have HE:=f8 (show wG dx dy=(u&&((x.sv.toList==y.sv.toList)&&(decide (x.ca=y.ca)&&((x.un==y.un)&&v)))) by rw[wG,hu,hv,hd.sv,aa.sv,hd.ca,aa.ca,hd.un,aa.un]);have ad:BB w ((w.alloc (rqO x)).alloc (rqO y)):=((bR w).alloc lr _).alloc ge _;have hx:=aC (rqO y) (ib w (rqO x));have hy:((w.alloc (rqO x)).alloc (rqO y)).heap[w.heap.size+1]?=some (rqO y):=aN _ _ _ ge;have hz:((w.alloc (rqO x)).alloc (rqO y)).heap.size=w.heap.size+2:=by simp
 obtain⟨w0,ae⟩:=xe ((w.alloc (rqO x)).alloc (rqO y))
 rw[<-ae] at ad hx hy hz;have hk:∀w1,BB w0 w1->∀b,b<w.heap.size->b<w1.heap.size/\w1.heap[b]?=w.heap[b]?:=λw1 h b hb=>⟨by have:=h.size;omega,(h.block b ga).trans (ad.block b hb)⟩
 have ai:f7 (CP 73 #[x.rs.v,y.rs.v] w0 (Rt (.bool u) w0)):=f8 (by rw[hu];exact jV _ _ _ _ w0 (hd.rs.same (hk w0 (gx _ _))) (aa.rs.same (hk w0 (gx _ _))));have aj:f7 (∀w1,BB w0 w1->CP 127 #[x.bd.v,y.bd.v] w1 (Rt (.bool v) w1)):=f8 (λw1 h=>by rw[hv];exact yQ _ _ _ _ w1 (hd.bd.same (hk w1 h)) (aa.bd.same (hk w1 h)));obtain⟨HX,HY,HB,HW⟩:=h_4 hx hy ad ae;obtain⟨a0,a1⟩:=c_2 hx;(try dsimp only at a0 a1);obtain⟨b0,b1⟩:=c_2 hy;(try dsimp only at b0 b1);clear hk hz ad hx hy hu hv hd aa ae;dsimp only[SC.v,VC.v] at ai aj
 go_enter func176,ntmps176
 go_upto_region 1 with (fail)
 rw[<-HW.o]
 go_wp2_with (first|(go_at_call 73;refine ai.mono ?_;rintro e w1 ⟨rfl,ab⟩;have ac:=f8 ab;have ag:=aB ab HX.o;have ah:=aB ab HY.o;clear a0 b0 a1 b1;obtain⟨a0,a1,a2,a3,a4,a5,a6,a7,a8,a9,al⟩:=c_11 ag;(try dsimp only at a0 a1 a2 a3 a4 a5 a6 a7 a8 a9 al);obtain⟨b0,b1,b2,b3,b4,b5,b6,b7,b8,b9,ak⟩:=c_11 ah;(try dsimp only at b0 b1 b2 b3 b4 b5 b6 b7 b8 b9 ak);clear ag ah ab;cases u)|(go_at_call 127;refine(aj.o _ ac.o).mono ?_;rintro e w3 ⟨rfl,af⟩;have am:=f8 af;clear af;cases v))
 all_goals
  go_ret;exact⟨by rw[HE.o];simp[*],by first|exact HB.trans (ac.mono HB.size)|exact HB.trans ((ac.mono HB.size).trans (am.mono (io HB.size ac.size)))⟩
abbrev efO (x:EfC):Obj:=.cells #[I6 x.k,.string x.nm,I6 x.nu,.string x.tx,I6 x.st.e,.slice x.st.a x.st.n x.st.c,I6 x.rs.e,.slice x.rs.a x.rs.n x.rs.c,.string x.sv,I6 x.ca,.bool x.un,I6 x.bd.k,I6 x.bd.i,I6 x.bd.s,.string x.bd.t,.slice x.bd.la x.bd.ll x.bd.lc,.slice x.bd.fa x.bd.fl x.bd.fc,.string x.nd] 94
theorem noInts' (S:Nat->Prop) (w:World):IsInts S w none 0 0 []:=⟨rfl,gy _,by omega,λx hx=>absurd hx ge,.inl rfl⟩
theorem aIl (S:Nat->Prop) (w:World):IsVal S w ⟨0,0,0,⟨#[]⟩,none,0,0,none,0,0⟩ zV:=by
 refine⟨⟨rfl,rfl,rfl,rfl,?_,rfl,rfl,rfl⟩,.inl rfl,.inl rfl⟩;have h:I64 0:=by unfold I64;omega
 exact⟨h,h,h,by decide,by decide,by decide,by decide,by decide⟩
theorem zeroEf (S:Nat->Prop) (w:World):IsEf S w ⟨0,⟨#[]⟩,0,⟨#[]⟩,⟨0,none,0,0⟩,⟨0,none,0,0⟩,⟨#[]⟩,0,false,⟨0,0,0,⟨#[]⟩,none,0,0,none,0,0⟩,⟨#[]⟩⟩ ⟨0,⟨#[]⟩,0,⟨#[]⟩,⟨0,[]⟩,⟨0,[]⟩,⟨#[]⟩,0,false,zV,⟨#[]⟩⟩ :=
 ⟨rfl,rfl,by decide,rfl,rfl,by decide,⟨rfl,(show I64 0 by unfold I64;omega),noInts' S w⟩,⟨rfl,(show I64 0 by unfold I64;omega),noInts' S w⟩,rfl,rfl,(show I64 0 by unfold I64;omega),rfl,aIl S w,rfl,by decide⟩
theorem reqZ (d:Ef):wG d ⟨0,⟨#[]⟩,0,⟨#[]⟩,⟨0,[]⟩,⟨0,[]⟩,⟨#[]⟩,0,false,zV,⟨#[]⟩⟩=nZ d:=by
 unfold wG nZ;rw[aOb];have h1:mD d.rs ⟨0,[]⟩=(decide (d.rs.e=0)&&decide (d.rs.ps.length=0)):=by
  unfold mD;rw[<-Bool.decide_and];simp
 have h2:(d.sv.toList==(⟨#[]⟩:ByteArray).toList)=d.sv.toList.isEmpty:=by
  have:(⟨#[]⟩:ByteArray).toList=[]:=by rw[kw]
  rw[this];cases d.sv.toList<;>rfl
 rw[h1,h2,Bool.and_assoc];cases d.un<;>rfl
theorem qA (s:ByteArray) (hs:s.size<=140737488351232) (w:World) (hT:Tabs w):CP 132 #[Sv s] w λx w'=>x=.returned (.bool (Lib.validD s.data.toList))/\BB w w':=by
 have HV:=f8 (Tryz.utf8_ValidString s w ga hT.1);clear hT;go_enter func132,ntmps132
 go_wp2_with (go_at_call 191;refine HV.mono ?_;rintro e w1 ⟨rfl,hb⟩)
 go_ret;exact⟨rfl,hb⟩
abbrev letO (x:LetC):Obj:=.cells #[I6 x.m.st.e,.slice x.m.st.a x.m.st.n x.m.st.c,I6 x.m.m,.slice x.m.a x.m.n x.m.c,I6 x.m.b.k,I6 x.m.b.i,I6 x.m.b.s,.string x.m.b.t,.slice x.m.b.la x.m.b.ll x.m.b.lc,.slice x.m.b.fa x.m.b.fl x.m.b.fc,.string x.nd,.string x.tx,I6 x.vr] 71
theorem yW (k:Int) (x:LetC) (d:Let) (w:World) (hd:IsLet (· < w.heap.size) w x d) (hT:Tabs w):CP 118 #[I6 k,.agg #[I6 x.m.st.e,Sl x.m.st.a x.m.st.n x.m.st.c,I6 x.m.m,Sl x.m.a x.m.n x.m.c,I6 x.m.b.k,I6 x.m.b.i,I6 x.m.b.s,Sv x.m.b.t,Sl x.m.b.la x.m.b.ll x.m.b.lc,Sl x.m.b.fa x.m.b.fl x.m.b.fc,Sv x.nd,Sv x.tx,I6 x.vr]] w (Rt (I6 (qO d)) w):=by
 have ac:BB w (w.alloc (letO x)):=(gx _ _).alloc lr _;have HB:=f8 ac;have HV:=f8 (qA x.tx hd.txz (w.alloc (letO x)) (hT.below ac));have HM:=f8 (λ(w':World) (hb:BB (w.alloc (letO x)) w')=>by
  have hs:=hb.size;have hz:(w.alloc (letO x)).heap.size=w.heap.size+1:=by simp
  exact eK x.m d.m w' (hd.m.same λb hb'=>⟨by omega,(hb.block b ga).trans (ac.block b hb')⟩) ((hT.below ac).below hb))
 have hE:qO d=if inQ x.vr 1 999=false then 2 else if aH x.nd=false then 12 else if Lib.validD x.tx.data.toList=false then 16 else fF d.m:=by unfold qO;rw[hd.vr,hd.nd,hd.tx]
 obtain⟨me,ae⟩:=xe (fF d.m)
 rw[<-ae] at hE;simp only[<-ae] at HM;dsimp only[MC.v] at HM;have HE:=f8 hE;clear hE ac hd hT ae;obtain⟨xm,nd,tx,vr⟩:=x;dsimp only at HV HM HE HB ⊢;cases h0:inQ vr 1 999
 ·go_enter func118,ntmps118
  go_wp2_with (go_at_call 68;refine(bO _ _ _ _).mono ?_;rintro e w3 ⟨rfl,aa⟩;obtain rfl:=aa)
  go_ret;exact⟨by rw[HE.o,gw h0];rfl,HB.o⟩
 ·cases h1:aH nd
  ·go_enter func118,ntmps118
   go_wp2_with (first|(go_at_call 68;refine(bO _ _ _ _).mono ?_;rintro e w3 ⟨rfl,aa⟩;obtain rfl:=aa)|(go_at_call 78;refine(aS _ _).mono ?_;rintro e w3 ⟨rfl,aa⟩;obtain rfl:=aa))
   go_ret;exact⟨by rw[HE.o,h0,h1];rfl,HB.o⟩
  ·cases h2:Lib.validD tx.data.toList
   ·go_enter func118,ntmps118
    go_wp2_with (first|(go_at_call 68;refine(bO _ _ _ _).mono ?_;rintro e w3 ⟨rfl,aa⟩;obtain rfl:=aa)|(go_at_call 78;refine(aS _ _).mono ?_;rintro e w3 ⟨rfl,aa⟩;obtain rfl:=aa)|(go_at_call 132;refine HV.mono ?_;rintro e w3 ⟨rfl,ab⟩;have ad:=f8 ab;clear ab))
    go_ret;exact⟨by rw[HE.o,h0,h1,h2];rfl,HB.trans (ad.mono HB.size)⟩
   ·go_enter func118,ntmps118
    have HG:=f8 (ib w (letO ⟨xm,nd,tx,vr⟩))
    go_wp2_with (first|(go_at_call 68;refine(bO _ _ _ _).mono ?_;rintro e w3 ⟨rfl,aa⟩;obtain rfl:=aa)|(go_at_call 78;refine(aS _ _).mono ?_;rintro e w3 ⟨rfl,aa⟩;obtain rfl:=aa)|(go_at_call 132;refine HV.mono ?_;rintro e w3 ⟨rfl,ab⟩;have ad:=f8 ab;have ag:=aB ab HG.o;obtain⟨q0,q1,q2,q3,q4,q5,q6,q7,q8,q9⟩:=c_10 ag;(try dsimp only at q0 q1 q2 q3 q4 q5 q6 q7 q8 q9);clear ab ag)|(go_at_call 84;refine(HM.o _ ad.o).mono ?_;rintro e w5 ⟨rfl,af⟩;have ah:=f8 af;clear af))
    go_ret;exact⟨by rw[HE.o,h0,h1,h2];rfl,HB.trans ((ad.mono HB.size).trans (ah.mono (io HB.size ad.size)))⟩
theorem aFb (k:Int) (x:EfC) (d:Ef) (w:World) (hd:IsEf (· < w.heap.size) w x d) (hT:Tabs w) :
 CP 120 #[I6 k,.agg #[I6 x.k,Sv x.nm,I6 x.nu,Sv x.tx,I6 x.st.e,Sl x.st.a x.st.n x.st.c,I6 x.rs.e,Sl x.rs.a x.rs.n x.rs.c,Sv x.sv,I6 x.ca,.bool x.un,I6 x.bd.k,I6 x.bd.i,I6 x.bd.s,Sv x.bd.t,Sl x.bd.la x.bd.ll x.bd.lc,Sl x.bd.fa x.bd.fl x.bd.fc,Sv x.nd]] w (Rt (I6 (efE d)) w):=by
 have ae:BB w (w.alloc (efO x)):=(bR w).alloc lr _;obtain⟨se,am⟩:=xe (aZ d.st)
 obtain⟨z,hz⟩:=xe (nZ d)
 obtain⟨z2,ao⟩:=xe (mD d.rs d.st)
 obtain⟨ce,ai⟩:=xe (bG d.bd)
 have aj:f7 (CP 105 #[x.st.v] (w.alloc (efO x)) λe w'=>e=.returned (I6 se)/\BB (w.alloc (efO x)) w'):=f8 (by rw[am];exact eD (· < w.heap.size) x.st d.st w _ hd.st λb hb=>⟨by simp;omega,ae.block b hb⟩);have hq:∀w1,BB (w.alloc (efO x)) w1->∀b,b<w.heap.size->b<(w1.alloc (rqO x)).heap.size/\(w1.alloc (rqO x)).heap[b]?=w.heap[b]?:=λw1 hb b hb'=>by
  have hs:=hb.size;have bi:(w.alloc (efO x)).heap.size=w.heap.size+1:=by simp
  exact⟨by simp;omega,(iy w1 _ b ga).trans ((hb.block b ga).trans (ae.block b hb'))⟩
 have an:=f8 (λ(w1:World) (hb:BB (w.alloc (efO x)) w1)=>(show CP 176 #[.agg #[I6 x.rs.e,Sl x.rs.a x.rs.n x.rs.c,Sv x.sv,I6 x.ca,.bool x.un,I6 x.bd.k,I6 x.bd.i,I6 x.bd.s,Sv x.bd.t,Sl x.bd.la x.bd.ll x.bd.lc,Sl x.bd.fa x.bd.fl x.bd.fc],.agg #[I6 0,Z0,Sv ⟨#[]⟩,I6 0,.bool false,I6 0,I6 0,I6 0,Sv ⟨#[]⟩,Z0,Z0]] (w1.alloc (rqO x)) λe w'=>e=.returned (.bool z)/\BB (w1.alloc (rqO x)) w' from by
  rw[hz,<-reqZ];exact aH0 x ⟨0,⟨#[]⟩,0,⟨#[]⟩,⟨0,none,0,0⟩,⟨0,none,0,0⟩,⟨#[]⟩,0,false,⟨0,0,0,⟨#[]⟩,none,0,0,none,0,0⟩,⟨#[]⟩⟩ d ⟨0,⟨#[]⟩,0,⟨#[]⟩,⟨0,[]⟩,⟨0,[]⟩,⟨#[]⟩,0,false,zV,⟨#[]⟩⟩ (w1.alloc (rqO x)) (hd.same (hq w1 hb)) (zeroEf _ _)))
 have ap:=f8 (λ(w1:World) (hb:BB (w.alloc (efO x)) w1)=>(show CP 73 #[x.rs.v,x.st.v] (w1.alloc (rqO x)) λe w'=>e=.returned (.bool z2)/\BB (w1.alloc (rqO x)) w' from by
  rw[ao];exact jV _ _ _ _ (w1.alloc (rqO x)) (hd.rs.same (hq w1 hb)) (hd.st.same (hq w1 hb))))
 have au:=f8 (λ(w':World) (hb:BB w w')=>(show CP 110 #[x.bd.v] w' (Rt (I6 ce) w') from by
  rw[ai];exact iV x.bd d.bd w' (hd.bd.same λb hb'=>⟨by have:=hb.size;omega,hb.block b hb'⟩) (hT.below hb)))
 have HE:f7 (efE d=if x.k≠1/\x.k≠2 then 11 else if aH x.nm=false then 12 else if inQ x.nu 1 999999999999999=false then 2 else if se≠0 then se
  else if x.k=1 then (if 65536<x.tx.size then 5 else if z=false\/x.nd.toList.isEmpty=false then 3 else 0)
  else if x.tx.toList.isEmpty=false\/(x.sv.toList==x.nm.toList)=false\/z2=false then 3 else if aH x.nd=false then 12 else if inQ x.ca 0 999999999999999=false then 2 else ce):=f8 (by
  unfold efE;rw[hd.k,hd.nm,hd.nu,hd.tx,hd.nd,hd.sv,hd.ca,am,hz,ao,ai])
 obtain⟨w0,al⟩:=xe (w.alloc (efO x))
 have hx:=ib w (efO x);rw[<-al] at aj an ap ae hx;have c0:=aA hx 0;have c1:=aA hx 1;have c2:=aA hx 2;have c4:=aA hx 4;have c5:=aA hx 5;(try dsimp only at c0 c1 c2 c4 c5);obtain⟨HX,HB,HW⟩:=h_3 hx ae al;clear ae hd hT hz ao am ai hq hx al;obtain⟨xk,nm,nu,tx,st,rs,sv,ca,un,bd,nd⟩:=x;dsimp only[SC.v,VC.v] at aj HE an ap au ⊢;go_enter func120,ntmps120
 go_upto_region 1 with (fail)
 rw[<-HW.o]
 go_wp2_with (first|(go_at_call 78;refine(aS _ _).mono ?_;rintro e w3 ⟨rfl,ar⟩;obtain rfl:=ar)|(go_at_call 68;refine(bO _ _ _ _).mono ?_;rintro e w3 ⟨rfl,ar⟩;obtain rfl:=ar)|(go_at_call 105;refine aj.mono ?_;rintro e w1 ⟨rfl,ah⟩;have aa:=f8 ah;have ak:=aB ah HX.o;obtain⟨a0,a1,a2,a3,a4,a5,a6,a7,a8,a9,bf,bg,ay,ba,be,az,bh,ax⟩:=c_18 ak;(try dsimp only at a0 a1 a2 a3 a4 a5 a6 a7 a8 a9 bf bg ay ba be az bh ax);have ad:=aC (.cells #[I6 rs.e,.slice rs.a rs.n rs.c,.string sv,I6 ca,.bool un,I6 bd.k,I6 bd.i,I6 bd.s,.string bd.t,.slice bd.la bd.ll bd.lc,.slice bd.fa bd.fl bd.fc] 92) ak;have y0:=aA ad 0;have y1:=aA ad 1;have y3:=aA ad 3;have y4:=aA ad 4;have y5:=aA ad 5;have bb:=aA ad 17;(try dsimp only at y0 y1 y3 y4 y5 bb);clear ak ad ah)|(go_at_call 176;refine(an.o _ aa.o).mono ?_;rintro e w4 ⟨rfl,ac⟩;have af:=f8 ac;have ag:=aB ac (aC _ (aB aa.o HX.o));have aq:=aA ag 17;(try dsimp only at aq);clear ag ac)|(go_at_call 73;refine(ap.o _ aa.o).mono ?_;rintro e w4 ⟨rfl,ac⟩;have af:=f8 ac;have ag:=aB ac (aC (.cells #[I6 rs.e,.slice rs.a rs.n rs.c,.string sv,I6 ca,.bool un,I6 bd.k,I6 bd.i,I6 bd.s,.string bd.t,.slice bd.la bd.ll bd.lc,.slice bd.fa bd.fl bd.fc] 92) (aB aa.o HX.o));have aq:=aA ag 17;(try dsimp only at aq);have ab:=aB ac (ib _ (.cells #[I6 rs.e,.slice rs.a rs.n rs.c,.string sv,I6 ca,.bool un,I6 bd.k,I6 bd.i,I6 bd.s,.string bd.t,.slice bd.la bd.ll bd.lc,.slice bd.fa bd.fl bd.fc] 92));have r3:=aA ab 3;have r5:=aA ab 5;have r6:=aA ab 6;have r7:=aA ab 7;have r8:=aA ab 8;have r9:=aA ab 9;have aw:=aA ab 10;(try dsimp only at r3 r5 r6 r7 r8 r9 aw);clear ag ab ac)|(go_at_call 110;refine(au.o _ (HB.trans (((aa.mono HB.size).trans ((gx _ _).alloc (io HB.size aa.size) _)).trans (af.mono (by have h1:=HB.size;have h2:=aa.size;simp at h1 h2 ⊢;omega))))).mono ?_;rintro e w6 ⟨rfl,av⟩;have bc:=f8 av;clear av))
 all_goals
  go_ret
  refine⟨?_,by first|exact HB.o|exact HB.trans (aa.mono HB.size)|exact HB.trans ((aa.mono HB.size).trans ((gx _ _).alloc (io HB.size aa.size) _))|exact HB.trans (((aa.mono HB.size).trans ((gx _ _).alloc (io HB.size aa.size) _)).trans (af.mono (by have h1:=HB.size;have h2:=aa.size;simp at h1 h2 ⊢;omega)))|exact(HB.trans (((aa.mono HB.size).trans ((gx _ _).alloc (io HB.size aa.size) _)).trans (af.mono (by have h1:=HB.size;have h2:=aa.size;simp at h1 h2 ⊢;omega)))).trans (bc.mono (HB.trans (((aa.mono HB.size).trans ((gx _ _).alloc (io HB.size aa.size) _)).trans (af.mono (by have h1:=HB.size;have h2:=aa.size;simp at h1 h2 ⊢;omega)))).size)⟩
  rw[HE.o];clear HE;simp_all<;>(try intro _)<;>omega
theorem aC4 (c:SnC) (d:Snp) (w:World) (hd:IsSn (· < w.heap.size) w c d) (hT:Tabs w):CP 62 #[c.w] w (Rt (I6 (snE d)) w):=by
 obtain⟨cv,ce,ct,na,nl,nc,aa,al,ac,sa,sl,sc,qa,ql,qc,la,ll,lc,pa,pl,pc⟩:=c;dsimp only[SnC.w];have af:=f8 (λ(n a b:Int) (w:World)=>bO n a b w);obtain⟨r1,aw⟩:=xe (aR (λ_ s=>bZ s) 0 d.ns)
 obtain⟨r2,aj⟩:=xe (aR (iC d.ar) 0 d.ar)
 obtain⟨r3,ay⟩:=xe (aR (iC d.se) 0 d.se)
 obtain⟨r4,aq⟩:=xe (aR (λ_ q=>jX q) 0 d.qs)
 obtain⟨r5,ap⟩:=xe (aR (λ_ s=>qO s) 0 d.ls)
 obtain⟨r6,ao⟩:=xe (aR (λ_ s=>efE s) 0 d.ps)
 obtain⟨WB,ah⟩:=xe (((w.alloc (.cells #[I6 cv,I6 ce,I6 ct,Sl na nl nc,Sl aa al ac,Sl sa sl sc,Sl qa ql qc,Sl la ll lc,Sl pa pl pc] 30)).alloc (.cells #[I6 cv,I6 ce,I6 ct,Sl na nl nc,Sl aa al ac,Sl sa sl sc,Sl qa ql qc,Sl la ll lc] 27)))
 have ab:BB w WB:=by rw[ah];exact((bR w).alloc lr _).alloc ge _
 have g1:WB.heap[w.heap.size]?=some (.cells #[I6 cv,I6 ce,I6 ct,Sl na nl nc,Sl aa al ac,Sl sa sl sc,Sl qa ql qc,Sl la ll lc,Sl pa pl pc] 30):=by rw[ah];exact aC _ (ib w _)
 have g2:WB.heap[w.heap.size+1]?=some (.cells #[I6 cv,I6 ce,I6 ct,Sl na nl nc,Sl aa al ac,Sl sa sl sc,Sl qa ql qc,Sl la ll lc] 27):=by rw[ah];exact aN _ _ _ ge
 have a4:=f8 (λ(w':World) (h:BB WB w')=>(show CP 113 #[Sl na nl nc,.func (.func 111) #[] #[]] w' (Rt (I6 r1) w') from by
  rw[aw];have hq:∀b,b<w.heap.size->b<w'.heap.size/\w'.heap[b]?=w.heap[b]?:=λb hb=>⟨by have h1:=h.size;have h2:=ab.size;omega,(h.block b (by have h2:=ab.size;omega)).trans (ab.block b hb)⟩
  exact aCu 111 (jd func111 gd rfl) (λ_ s=>bZ s) _ _ _ _ w' (hd.ns.same hq) (λk hk x w2 hb hx=>aLy k x _ w2 hx (((hT.below ab).below h).below hb))))
 have az:=f8 (λ(w':World) (h:BB WB w')=>(show CP 114 #[Sl aa al ac] w' (Rt (I6 r2) w') from by
  rw[aj];exact sD _ _ _ _ w' (hd.ar.same λb hb=>⟨by have h1:=h.size;have h2:=ab.size;omega,(h.block b (by have h2:=ab.size;omega)).trans (ab.block b hb)⟩)))
 have a3:=f8 (λ(w':World) (h:BB WB w')=>(show CP 114 #[Sl sa sl sc] w' (Rt (I6 r3) w') from by
  rw[ay];exact sD _ _ _ _ w' (hd.se.same λb hb=>⟨by have h1:=h.size;have h2:=ab.size;omega,(h.block b (by have h2:=ab.size;omega)).trans (ab.block b hb)⟩)))
 have a0:=f8 (λ(w':World) (h:BB WB w')=>(show CP 115 #[Sl qa ql qc,.func (.func 116) #[] #[]] w' (Rt (I6 r4) w') from by
  rw[aq];have hq:∀b,b<w.heap.size->b<w'.heap.size/\w'.heap[b]?=w.heap[b]?:=λb hb=>⟨by have h1:=h.size;have h2:=ab.size;omega,(h.block b (by have h2:=ab.size;omega)).trans (ab.block b hb)⟩
  exact aCv 116 (jd func116 gd rfl) (λ_ q=>jX q) _ _ _ _ w' (hd.qs.same hq) (λk hk x w2 hb hx=>(by have he:=hx.e;rw[<-he];exact aE3 k x w2))))
 have a5:=f8 (λ(w':World) (h:BB WB w')=>(show CP 117 #[Sl la ll lc,.func (.func 118) #[] #[]] w' (Rt (I6 r5) w') from by
  rw[ap];have hq:∀b,b<w.heap.size->b<w'.heap.size/\w'.heap[b]?=w.heap[b]?:=λb hb=>⟨by have h1:=h.size;have h2:=ab.size;omega,(h.block b (by have h2:=ab.size;omega)).trans (ab.block b hb)⟩
  exact aCw 118 (jd func118 gd rfl) (λ_ s=>qO s) _ _ _ _ w' (hd.ls.same hq) (λk hk x w2 hb hx=>yW k x _ w2 hx (((hT.below ab).below h).below hb))))
 have a6:=f8 (λ(w':World) (h:BB WB w')=>(show CP 119 #[Sl pa pl pc,.func (.func 120) #[] #[]] w' (Rt (I6 r6) w') from by
  rw[ao];have hq:∀b,b<w.heap.size->b<w'.heap.size/\w'.heap[b]?=w.heap[b]?:=λb hb=>⟨by have h1:=h.size;have h2:=ab.size;omega,(h.block b (by have h2:=ab.size;omega)).trans (ab.block b hb)⟩
  exact aCx 120 (jd func120 gd rfl) (λ_ s=>efE s) _ _ _ _ w' (hd.ps.same hq) (λk hk x w2 hb hx=>aFb k x _ w2 hx (((hT.below ab).below h).below hb))))
 have HC:=f8 (λ(w':World) (h:BB WB w')=>(show Ce w' w.heap.size 8 (Sl pa pl pc)/\w'.cell? ⟨w.heap.size+1,3,none⟩=some (Sl na nl nc)/\w'.cell? ⟨w.heap.size+1,4,none⟩=some (Sl aa al ac)/\w'.cell? ⟨w.heap.size+1,5,none⟩=some (Sl sa sl sc)/\w'.cell? ⟨w.heap.size+1,6,none⟩=some (Sl qa ql qc)/\w'.cell? ⟨w.heap.size+1,7,none⟩=some (Sl la ll lc) from⟨aA (aB h g1) 8,aA (aB h g2) 3,aA (aB h g2) 4,aA (aB h g2) 5,aA (aB h g2) 6,aA (aB h g2) 7⟩))
 have HE:=f8 (show snE d=if inQ cv 0 999=false\/inQ ce 0 1048576=false\/inQ ct 0 17592186044416=false then 2 else if 128<nl then 9 else orL [r1,r2,r3,r4,r5,r6] by
  unfold snE;rw[<-aw,<-aj,<-ay,<-aq,<-ap,<-ao,<-hd.v,<-hd.e,<-hd.t,<-hd.ns.len])
 obtain⟨ae,ag,G2⟩:=h_3 ab ah g2;obtain⟨m0,m1,m2⟩:=c_3 g2;have m3:=aA g2 3
 (try dsimp only at m0 m1 m2 m3)
 clear hd hT ab g1 g2 ah aw aj ay aq ap ao;cases b1:inQ cv 0 999
 ·skip
  go_enter func62,ntmps62
  go_upto_region 2 with (fail)
  rw[<-ag.o];go_wp2_with (go_at_call 68;refine(af.o _ _ _ _).mono ?_;rintro q w3 ⟨rfl,ad⟩;rw[ad];clear ad)
  go_ret;exact⟨by rw[HE.o,gw (by simp[b1])];rfl,ae.o⟩
 ·cases b2:inQ ce 0 1048576
  ·skip
   go_enter func62,ntmps62
   go_upto_region 2 with (fail)
   rw[<-ag.o];go_wp2_with (go_at_call 68;refine(af.o _ _ _ _).mono ?_;rintro q w3 ⟨rfl,ad⟩;rw[ad];clear ad)
   go_ret;exact⟨by rw[HE.o,gw (by simp[b2])];rfl,ae.o⟩
  ·cases b3:inQ ct 0 17592186044416
   ·skip
    go_enter func62,ntmps62
    go_upto_region 2 with (fail)
    rw[<-ag.o];go_wp2_with (go_at_call 68;refine(af.o _ _ _ _).mono ?_;rintro q w3 ⟨rfl,ad⟩;rw[ad];clear ad)
    go_ret;exact⟨by rw[HE.o,gw (by simp[b3])];rfl,ae.o⟩
   ·by_cases b4:(128:Int)<(nl:Int)
    ·have av:128<nl:=ga
     go_enter func62,ntmps62
     go_upto_region 2 with (fail)
     rw[<-ag.o];go_wp2_with (go_at_call 68;refine(af.o _ _ _ _).mono ?_;rintro q w3 ⟨rfl,ad⟩;rw[ad];clear ad)
     go_ret;exact⟨by rw[HE.o,f9 (by simp[b1,b2,b3]),gw av];rfl,ae.o⟩
    ·have av:¬ 128<nl:=ga
     go_enter func62,ntmps62
     go_upto_region 2 with (fail)
     rw[<-ag.o];go_upto_region 7 with (go_at_call 68;refine(af.o _ _ _ _).mono ?_;rintro q w3 ⟨rfl,ad⟩;rw[ad];clear ad)
     clear m0 m1 m2 m3;refine iz (S:=(λw'=>BB WB w')) gd ((gx _ _).drew) (λhS=>?_);refine tC 0 HC ?_;refine tC 1 HC ?_;refine tC 2 HC ?_;refine tC 4 HC ?_;refine tC 5 HC ?_;refine tC 7 HC ?_;refine tC 8 HC ?_;refine tC 10 HC ?_;refine tC 11 HC ?_;refine tC 13 HC ?_;refine tC 14 HC ?_;refine tC 16 HC ?_;refine tC 17 HC ?_;refine yr 3 λK hK=>?_;go_simp;go_at_call 113;refine(a4.o _ hS).mono ?_;rintro e w1 ⟨rfl,an⟩;refine kOQ hK (hS.trans (an.mono hS.size)) λhS=>?_;clear hK K
     refine yr 6 λK hK=>?_;go_simp;go_at_call 114;refine(az.o _ hS).mono ?_;rintro e w2 ⟨rfl,am⟩;refine kOQ hK (hS.trans (am.mono hS.size)) λhS=>?_;clear hK K
     refine yr 9 λK hK=>?_;go_simp;go_at_call 114;refine(a3.o _ hS).mono ?_;rintro e w3 ⟨rfl,ax⟩;refine kOQ hK (hS.trans (ax.mono hS.size)) λhS=>?_;clear hK K
     refine yr 12 λK hK=>?_;go_simp;go_at_call 115;refine(a0.o _ hS).mono ?_;rintro e w4 ⟨rfl,ai⟩;refine kOQ hK (hS.trans (ai.mono hS.size)) λhS=>?_;clear hK K
     refine yr 15 λK hK=>?_;go_simp;go_at_call 117;refine(a5.o _ hS).mono ?_;rintro e w5 ⟨rfl,ak⟩;refine kOQ hK (hS.trans (ak.mono hS.size)) λhS=>?_;clear hK K
     refine yr 18 λK hK=>?_;go_simp;go_at_call 119;refine(a6.o _ hS).mono ?_;rintro e w6 ⟨rfl,au⟩;refine kOQ hK (hS.trans (au.mono hS.size)) λhS=>?_;clear hK K
     refine yr 19 λK hK=>?_;go_simp;refine kOQ hK (hS.trans (((gx _ _).alloc lr _).mono hS.size)) λhS=>?_;clear hK K
     refine yr 20 λK hK=>?_;go_simp;go_at_call 112;refine(aIw [r1,r2,r3,r4,r5,r6] w6 31 ge).mono ?_;rintro e w7 ⟨rfl,a1⟩;obtain rfl:=a1.symm;refine kOQ hK (hS) λhS=>?_;clear hK K
     refine tC 21 HC ?_;refine iq gd ?_ _
     (try dsimp only)
     have a2:=f8 hS;clear hS;go_wp2;go_ret;exact⟨by rw[HE.o,b1,b2,b3,f9 ge,f9 av];rfl,ae.trans ((a2.o).mono ae.size)⟩
end Go.Proofs.YtoodnaghjpkjfaaGreatDoor
