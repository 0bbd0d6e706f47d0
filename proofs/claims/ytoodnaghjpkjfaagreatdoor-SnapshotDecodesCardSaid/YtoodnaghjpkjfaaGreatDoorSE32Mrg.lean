/- A part. -/
import Derived.Test.YtoodnaghjpkjfaaGreatDoorSE26Mrg
import Derived.Test.YtoodnaghjpkjfaaGreatDoorSE31Mrg
import Derived.Test.YtoodnaghjpkjfaaGreatDoorSE24Mrg
import Derived.Lib.CountLaws
namespace Go.Proofs.YtoodnaghjpkjfaaGreatDoor
open Tryz
set_option linter.unusedVariables false
set_option maxRecDepth 100000
set_option maxHeartbeats 64000000
set_option linter.unusedSimpArgs false
open Go Go.RowKit Go.Shelf
section
theorem vV (c:UInt8):∀(k:Nat) (s:BA),s.size<=k->Lib.splitB ⟨#[c]⟩ 0 (Lib.countB s ⟨#[c]⟩) s=fC c s/\(fC c s).length=Lib.countB s ⟨#[c]⟩+1:=by
 intro k
 induction k with
 | zero =>
   intro s hs;rcases sS c s.data.toList with ⟨k1,k2⟩|⟨i,k1,k2,k3⟩
   ·have hm:Lib.indexB s ⟨#[c]⟩ = -1:=k1;rw[Lib.countB_miss s _ hm,sT k2];exact⟨rfl,rfl⟩
   ·rw[zJ] at k2;omega
 | succ k ih =>
   intro s hs;rcases sS c s.data.toList with ⟨k1,k2⟩|⟨i,k1,k2,k3⟩
   ·have hm:Lib.indexB s ⟨#[c]⟩ = -1:=k1;rw[Lib.countB_miss s _ hm,sT k2];exact⟨rfl,rfl⟩
   ·have hm:Lib.indexB s ⟨#[c]⟩=i:=k1;rw[zJ] at k2;have h1:(⟨#[c]⟩:BA).size=1:=rfl;obtain⟨e1,e2⟩:=ih (s.extract (i+1) s.size) (by rw[k9];omega);rw[Lib.countB_hit s _ i (by rw[h1];exact gy 1) hm,Nat.add_comm 1,Lib.splitB_hit _ _ _ _ i hm,aDr k3,h1,e1,im,e2];exact⟨rfl,rfl⟩
theorem stcM2 (a:Addr) (i:Nat) (u v:Value):storeCells a [u,v] i=(do store (a.add i) u;storeCells a [v] (i+1)):=rfl
theorem aNp:(prog.info? 69).map (·.size)=some 10:=by kernel_rfl
theorem aJw (s:BA) (hs:s.size<=1000000) (w:World) (hT:Tabs w) (hN:NumVars w) :
 CP 57 #[Sv s] w λx w'=>∃(c:SC) (E:Int),x=.returned (.tuple #[c.v,I6 E]) /\
  ((E=0/\∃d:St,lS s.data.toList=some d/\IsSt (λb=>w.heap.size<=b/\b<w'.heap.size) w' c d)\/(E=13/\lS s.data.toList=none))/\Below w.heap.size w w' :=
 (rG s hs w hT hN).mono λx w' h=>by
   rcases h.1 with ⟨c,d,h1,h2,h3⟩|⟨h1,h2⟩
   ·exact⟨c,0,h2,.inl ⟨rfl,d,h1,h3⟩,h.2⟩
   ·exact⟨⟨0,none,0,0⟩,13,h2,.inr ⟨rfl,h1⟩,h.2⟩
section
attribute [-go_sem] loadCellsFrom storeCells
attribute [local go_sem] mG mF pT tF tE sY mB mA stcM2
theorem eJ (w:World) (N:Nat) (cs:Array Value):Below N w (w.setRow N cs):=⟨rfl,rfl,rfl,by rw[ky];exact gy _,λk hk=>ko w N k cs ga⟩
theorem aEl {tmps:Array Value} {W:World} {N:Nat} {vs:List Value} {v3:Value} (hl:vs.length=10) (h2:tmps.getD 2 undef=.pointer (So N 0)) (h3:tmps.getD 3 undef=v3)
 (hN:W.heap[N]?=some (.cells vs.toArray 69)):(results Tryz.f25 tmps).run prog W=.ok (.tuple #[.agg vs.toArray,v3]) W:=by
 have ac:tmps[2]?.getD undef=.pointer (So N 0):=by simpa using h2
 have ab:tmps[3]?.getD undef=v3:=by simpa using h3
 have aa:=nO (P:=prog) hN;rw[hl] at aa;simp[results,results25,go_sem,ac,ab,aa]
theorem mBad {W:World} {N:Nat} {w:World} (hb:Below N w W) (hN:W.heap[N]?=some (.cells #[I6 0,Z0,I6 0,Z0,I6 0,I6 0,I6 0,.string ⟨#[]⟩,Z0,Z0] 69)) :
 (W.setRow N #[I6 0,Z0,I6 0,Z0,I6 0,I6 0,I6 0,.string ⟨#[]⟩,Z0,Z0]).heap[N]?=some (.cells #[I6 0,Z0,I6 0,Z0,I6 0,I6 0,I6 0,.string ⟨#[]⟩,Z0,Z0] 69)/\Below N w (W.setRow N #[I6 0,Z0,I6 0,Z0,I6 0,I6 0,I6 0,.string ⟨#[]⟩,Z0,Z0]) :=
 ⟨ke W N _ _ _ (0,0) hN,hb.trans (eJ W N _)⟩
theorem aCp (s:ByteArray) (w:World) (hs:s.size<=120000) (h4:∀a b c e,kO 4 s=[a,b,c,e]->e.size<=65536) (hT:Tabs w) (hZ:ZTab w) (bm:NumVars w) :
 CP 25 #[Sv s] w λx w' =>
  ((∃(c:MC) (d:Msg),uV s=some d/\x=.returned (.tuple #[c.v,I6 0])/\IsMsg (λb=>w.heap.size<=b/\b<w'.heap.size) w' c d) \/
   (uV s=none/\x=.returned (.tuple #[.agg #[I6 0,Z0,I6 0,Z0,I6 0,I6 0,I6 0,.string ⟨#[]⟩,Z0,Z0],I6 3])))/\Below w.heap.size w w':=by
 obtain⟨N,hN⟩:=xe w.heap.size
 obtain⟨w0,a3⟩:=xe (w.alloc (.cells #[I6 0,Z0,I6 0,Z0,I6 0,I6 0,I6 0,.string ⟨#[]⟩,Z0,Z0] 69))
 have a2:w0.heap[N]?=some (.cells #[I6 0,Z0,I6 0,Z0,I6 0,I6 0,I6 0,.string ⟨#[]⟩,Z0,Z0] 69):=by rw[a3,hN];exact ib w _
 have ao:Below N w w0:=by rw[a3,hN];exact(bR w).alloc lr _
 have bk:Tabs w0:=hT.below (by rw[hN] at ao;exact ao);have bf:NumVars w0:=bm.below (by rw[hN] at ao;exact ao);have cb:ZTab w0:=hZ.below (by rw[hN] at ao;exact ao);have dm:N<w0.heap.size:=ltOf a2;have bl:=f8 (show w0.heap.size=N+1 by rw[a3,hN];simp);have a6:=f8 (λ(w2:World) (vs:List Value) (hv:vs.length=10) (h1:∀v∈vs,v.oneCell'=true) (cur:Array Value) (hc:cur.size=10) (hz:w2.heap[N]?=some (.cells cur 69)) =>
  (show(storeCells ⟨N,0,none⟩ vs 0).run prog w2=.ok () (w2.setRow N vs.toArray)/\(loadCellsFrom ⟨N,0,none⟩ 0 10 #[]).run prog (w2.setRow N vs.toArray)=.ok vs.toArray (w2.setRow N vs.toArray) from
    ⟨aMo vs hz (by rw[hc,hv]) h1,by have:=nO (P:=prog) (vs:=vs) (ke w2 N _ vs.toArray 69 (0,0) hz);rw[hv] at this;exact this⟩))
 rw[<-hN];obtain⟨HW,HN,dh⟩:=h_3 a3 hN ao;have HV:=f8 (ie bk (ie bf cb));have c5:=f8 a2;have cq:=f8 (ie hT (ie bm hZ));rcases split4 s w0 hs bf with ⟨pa,pb,pc,pe,hp,au⟩|⟨hp,au⟩
 ·have dp:pa.size<=s.size:=lH 4 s pa (by rw[hp];simp);have cL:pb.size<=s.size:=lH 4 s pb (by rw[hp];simp);have dn:pc.size<=s.size:=lH 4 s pc (by rw[hp];simp);have HZ:=f8 (ie dp (ie cL (ie dn (ie (h4 _ _ _ _ hp) hs))));obtain⟨HP,bu⟩:=h_2 hp au;obtain⟨P,hP⟩:=xe w0.heap.size
  obtain⟨w1,bn⟩:=xe (w0.alloc (.cells #[Sv pa,Sv pb,Sv pc,Sv pe] 9))
  have b8:w1.heap[P]?=some (.cells #[Sv pa,Sv pb,Sv pc,Sv pe] 9):=by rw[bn,hP];exact ib w0 _
  have aw:Below w0.heap.size w0 w1:=by rw[bn];exact(gx _ w0).alloc lr _
  have cl:=f8 (aJw pa ga w1 (bk.below aw) (bf.below aw));have q0:Ce w1 P 0 (Sv pa):=aA b8 0;obtain⟨bd,eh,d0,ee⟩:=h_4 aw b8 bn hP;clear a3 hN a2 ao bk bf cb dm hp au dp cL dn hP bn b8 aw hT hZ bm h4 hs;go_enter func25,ntmps25
  go_upto_region 1 with (fail)
  rw[<-HW.o,<-HN.o];go_upto_region 4 with (go_at_call 56;refine bu.mono ?_;rintro e ew ⟨rfl,rfl⟩)
  rw[<-d0.o,<-ee.o];go_upto_region 5 with (go_at_call 57;refine cl.mono ?_;rintro e w2 ⟨cs,E,rfl,hd,de⟩;obtain⟨HD,dj⟩:=h_2 hd de;clear hd de)
  clear q0;obtain⟨T5,cj⟩:=xe w2.heap.size
  obtain⟨w3,a4⟩:=xe (w2.alloc (.cells #[I6 cs.e,Sl cs.a cs.n cs.c] 63))
  rw[<-a4,<-cj];have cn:=bd.o;have cy:=cn.size;have cr:Below w0.heap.size w0 w2:=cn.trans (dj.mono cy);have b2:Below w0.heap.size w0 w3:=by rw[a4];exact cr.alloc cr.size _
  have p3:w3.heap[P]?=some (.cells #[Sv pa,Sv pb,Sv pc,Sv pe] 9):=by rw[a4];exact aC _ (aB dj.o eh.o)
  have t3:w3.heap[T5]?=some (.cells #[I6 cs.e,Sl cs.a cs.n cs.c] 63):=by rw[a4,cj];exact ib w2 _
  have d3:(E=0/\∃d:St,lS pa.data.toList=some d/\IsSt (λb=>w1.heap.size<=b/\b<w3.heap.size) w3 cs d)\/(E=13/\lS pa.data.toList=none):=by
   rcases HD.o with ⟨h1,d,h2,h3⟩|h
   ·refine .inl ⟨h1,d,h2,h3.same λb hb=>?_⟩;rw[a4];exact⟨⟨hb.1,by rw[jb];omega⟩,dA w2 _ _ hb.2⟩
   ·exact .inr h
  have q1:Ce w3 P 1 (Sv pb):=aA p3 1;have dx:=f8 (kL pb (by have:=HZ.2.1;have:=HZ.2.2.2.2;omega) w3 (HV.2.1.below b2));have H3:=f8 (ie b2 (ie p3 (ie t3 d3)));clear cj a4 cn cy cr b2 p3 t3 d3;go_upto_region 6 with (go_at_call 45;refine dx.mono ?_;rintro e w4 ⟨ev,rfl,bo,c9⟩;obtain⟨dw,ba⟩:=h_2 bo c9;clear bo c9)
  clear q1;have bg:Below w0.heap.size w0 w4:=H3.1.trans (ba.mono H3.1.size);have p4:w4.heap[P]?=some (.cells #[Sv pa,Sv pb,Sv pc,Sv pe] 9):=aB ba.o H3.2.1;have q3:Ce w4 P 3 (Sv pe):=aA p4 3;have d5:=f8 (mY pe w4 HZ.2.2.2.1 (HV.1.below bg) (HV.2.1.below bg));have b9:=λ(w3:World) (c:VC)=>aC2 w3 #[I6 0,I6 0,I6 0,.string ⟨#[]⟩,Z0,Z0] rfl (I6 c.k) (I6 c.i) (I6 c.s) (Sv c.t) (Sl c.la c.ll c.lc) (Sl c.fa c.fl c.fc) gj;have b1:=f8 (ie bg p4);clear bg p4
  go_upto_region 7 with (go_at_call 58;refine d5.mono ?_;rintro e w5 ⟨c,rfl,dq,dl⟩;obtain⟨ds,bh⟩:=h_2 dq dl;clear dq dl)
  clear q3 b9;obtain⟨T9,bs⟩:=xe w5.heap.size
  obtain⟨w6,ap⟩:=xe (w5.alloc (oV c 67))
  rw[<-ap,<-bs];have b3:Below w0.heap.size w0 w5:=b1.1.trans (bh.mono b1.1.size);have bi:Below w0.heap.size w0 w6:=by rw[ap];exact b3.alloc b3.size _
  have ck:∀k o,w3.heap[k]?=some o->w6.heap[k]?=some o:=λk o h=>by rw[ap];exact aC _ (aB bh.o (aB ba.o h))
  have p6:=ck _ _ H3.2.1;have t6:=ck _ _ H3.2.2.1;have v6:w6.heap[T9]?=some (oV c 67):=by rw[ap,bs];exact ib w5 _
  have dv:=ba.size;have em:=bh.size;have dc:w6.heap.size=w5.heap.size+1:=by rw[ap];simp
  have el:=H3.1.size;have d6:(E=0/\∃d:St,lS pa.data.toList=some d/\IsSt (λb=>w0.heap.size<=b/\b<w6.heap.size) w6 cs d)\/(E=13/\lS pa.data.toList=none):=by
   rcases H3.2.2.2 with ⟨h1,d,h2,h3⟩|h
   ·refine .inl ⟨h1,d,h2,h3.same λb hb=>⟨⟨by have:=bd.size;omega,by omega⟩,?_⟩⟩;rw[ap];exact(dA w5 _ _ ga).trans ((bh.block b ga).trans (ba.block b hb.2))
   ·exact .inr h
  have c3:IsVal (λb=>w0.heap.size<=b/\b<w6.heap.size) w6 c (fK pe).1:=ds.same λb hb=>by
   have:=b1.1.size;rw[ap];exact⟨⟨by omega,by rw[jb];omega⟩,dA w5 _ _ hb.2⟩
  have n6:w6.heap[N]?=some (.cells #[I6 0,Z0,I6 0,Z0,I6 0,I6 0,I6 0,.string ⟨#[]⟩,Z0,Z0] 69):=aB bi c5.o;have cp:Below N w w6:=dh.trans (bi.mono (by have:=bl.o;omega));obtain⟨m,hm⟩:=xe (dD pb.data.toList)
  obtain⟨f,hf⟩:=xe ((fK pe).2.2)
  obtain⟨go,cz⟩:=xe ((fK pe).2.1)
  have bo:=dw.o;rw[<-hm,<-hf,<-cz];have al:=(a6.o w6 [I6 0,Z0,I6 0,Z0,I6 0,I6 0,I6 0,.string ⟨#[]⟩,Z0,Z0] rfl gj _ rfl n6).1;have aj:=mBad cp n6;have af:=f8 aj;have H6:=f8 (ie bi (ie p6 (ie t6 (ie v6 (ie d6 (ie c3 (ie n6 cp)))))));have HM:=f8 (ie hm hf);have d7:=f8 (ie dc bs);clear b3 bi ck p6 t6 v6 dv em dc el d6 c3 n6 cp hm hf cz ap bs aj;have ah:=f8 (show(E=13\/dE pb.data.toList=false\/f≠0)->uV s=none from λh=>by
   unfold uV;rw[HP.o];dsimp only;rcases H6.2.2.2.2.1 with ⟨h1,d,h2,_⟩|⟨h1,h2⟩
   ·rw[h2];dsimp only;rw[f9];rintro⟨g1,g2,_⟩;rcases h with h|h|h
    ·omega
    ·rw[g1] at h;cases h
    ·rw[HM.2] at h;exact h g2
   ·rw[h2])
  by_cases hE:E=13
  ·subst hE;go_wp2;refine ig (aEl (vs:=[I6 0,Z0,I6 0,Z0,I6 0,I6 0,I6 0,.string ⟨#[]⟩,Z0,Z0]) rfl rfl rfl af.1) rfl ⟨.inr ⟨ah.o ge,rfl⟩,af.2⟩
  have d8:E=0:=by rcases H6.2.2.2.2.1 with h|h;exact h.1;exact absurd h.1 hE
  subst d8;rcases bo with ⟨hok,rfl⟩|⟨hok,pp,rfl⟩
  ·have co:=f8 hok;clear hok;by_cases bc:f=0
   ·subst bc;clear al;have dt:=ld6 H6.2.2.2.1;have u0:Ce w6 T5 0 (I6 cs.e):=aA H6.2.2.1 0;have u1:Ce w6 T5 1 (Sl cs.a cs.n cs.c):=aA H6.2.2.1 1;obtain⟨M,hM⟩:=xe w6.heap.size
    obtain⟨w7,ay⟩:=xe (w6.alloc (.cells #[I6 cs.e,Sl cs.a cs.n cs.c,I6 m,Z0,I6 c.k,I6 c.i,I6 c.s,Sv c.t,Sl c.la c.ll c.lc,Sl c.fa c.fl c.fc] 69))
    have b9:=vR w6 69 #[I6 0,Z0,I6 0,Z0,I6 0,I6 0,I6 0,.string ⟨#[]⟩,Z0,Z0] [I6 cs.e,Sl cs.a cs.n cs.c,I6 m,Z0,I6 c.k,I6 c.i,I6 c.s,Sv c.t,Sl c.la c.ll c.lc,Sl c.fa c.fl c.fc] aNp rfl gj;go_upto_region 10 with (fail)
    rw[<-ay,<-hM];clear b9 dt u0 u1;have dr:w7.heap[M]?=some (.cells #[I6 cs.e,Sl cs.a cs.n cs.c,I6 m,Z0,I6 c.k,I6 c.i,I6 c.s,Sv c.t,Sl c.la c.ll c.lc,Sl c.fa c.fl c.fc] 69):=by rw[ay,hM];exact ib w6 _
    have s7:w7.heap.size=M+1:=by rw[ay,hM];simp
    have cg:∀k o,w6.heap[k]?=some o->w7.heap[k]?=some o:=λk o h=>by rw[ay];exact aC _ h
    have q2:Ce w7 P 2 (Sv pc):=aA (cg _ _ H6.2.1) 2;obtain⟨L,hL⟩:=xe (fC 44 pc)
    obtain⟨K,hK⟩:=xe L.length
    obtain⟨w8,a1⟩:=xe (w7.alloc (.cells (L.map Value.string).toArray 9))
    have au:CP 10 #[Sv pc,.string ⟨#[44]⟩] w7 λe w'=>e=.returned (Sl (So (M+1) 0) K K)/\w'=w8:=by
     have ea:Below w0.heap.size w0 w7:=by rw[ay];exact H6.1.alloc H6.1.size _
     obtain⟨mm,du⟩:=(HV.2.1.below ea).2.2;obtain⟨g1,g2⟩:=vV 44 pc.size pc lr;refine(Tryz.strings_Split pc ⟨#[44]⟩ mm w7 (by have:=HZ.2.2.1;have:=HZ.2.2.2.2;omega) du (gy 1)).mono ?_;rintro e w' ⟨rfl,rfl⟩;rw[g1,<-g2,s7,<-hL,<-hK];exact⟨rfl,a1.symm⟩
    have b0:=f8 au;have cv:w8.heap[M]?=some (.cells #[I6 cs.e,Sl cs.a cs.n cs.c,I6 m,Z0,I6 c.k,I6 c.i,I6 c.s,Sv c.t,Sl c.la c.ll c.lc,Sl c.fa c.fl c.fc] 69):=by rw[a1];exact aC _ dr
    have db:w8.heap[M+1]?=some (.cells (L.map Value.string).toArray 9):=by rw[a1,<-s7];exact ib w7 _
    have s8:w8.heap.size=M+2:=by rw[a1];simp[s7]
    have df:∀k o,w6.heap[k]?=some o->w8.heap[k]?=some o:=λk o h=>by rw[a1];exact aC _ (cg k o h)
    have ca:N<M:=by rw[hM];exact ltOf H6.2.2.2.2.2.2.1
    have di:Below N w w8:=by
     have h:=H6.2.2.2.2.2.2.2;rw[a1,ay];exact(h.alloc ga _).alloc gi _
    have H8:=f8 (ie cv (ie db (ie s8 (ie df (ie ca di)))));have HL:=f8 (ie hL hK);have bz:=f8 hM;have ey:K<=120001:=by
     have h1:=qG 44 pc;have h2:=HZ.2.2.1;have h3:=HZ.2.2.2.2;rw[<-hL] at h1;omega
    clear ay dr s7 cg hL hK a1 au cv db s8 df ca di hM;go_wp2_with (go_at_call 10;refine b0.mono ?_;rintro e ex ⟨rfl,hw⟩;obtain rfl:=hw.symm)
    go_loopw [67] (λiv wr=>∃(k:Nat) (v:Value),iv=I6 k/\k<=K/\wr.heap[M]?=some (.cells #[I6 cs.e,Sl cs.a cs.n cs.c,I6 m,v,I6 c.k,I6 c.i,I6 c.s,Sv c.t,Sl c.la c.ll c.lc,Sl c.fa c.fl c.fc] 69)/\wr.ownsRow (M+2) 3 1 v k ((L.take k).map λx=>I6 (dD x.data.toList)) /\
     (∀x∈L.take k,dE x.data.toList=true)/\(∀b o,b≠M->w8.heap[b]?=some o->wr.heap[b]?=some o)/\w8.heap.size<=wr.heap.size/\Below N w wr) (λiv _=>K-(intOf iv).toNat)
    case atStart=>exact⟨0,_,rfl,ii _,H8.1,lf _ _ _ _,λx hx=>absurd hx ge,λb o _ h=>h,gy _,H8.2.2.2.2.2⟩
    case round =>
     obtain⟨k,v,rfl,hk,hM,ad,ak,ac,bp,ab⟩:=hrel;have es:=H8.2.2.1;have ca:=H8.2.2.2.2.1;have nr:wr.heap[N]?=some (.cells #[I6 0,Z0,I6 0,Z0,I6 0,I6 0,I6 0,.string ⟨#[]⟩,Z0,Z0] 69):=ac N _ ga (H8.2.2.2.1 _ _ H6.2.2.2.2.2.2.1);by_cases c6:k<K
     ·have cw:k<L.length:=by rw[<-HL.2];exact c6
      obtain⟨x,hx⟩:=xe (L[k])
      have az:x∈L:=by rw[hx];exact kc _
      have q5:wr.cell? ⟨M+1,k,none⟩=some (Sv x):=by
       rw[aA (ac (M+1) _ ga H8.2.1) k,hx];simp[cw]
      have c8:x.size<=1000000:=by
       have h1:=aAb 44 pc x (by rw[<-HL.1];exact az);have h2:=HZ.2.2.1;have h3:=HZ.2.2.2.2;omega
      have cR:=f8 (kL x c8 wr (cq.2.1.below (by rw[HN.o] at ab;exact ab)));have HX:=f8 (ie hx (ie az cw));have HR:=f8 (ie hM (ie ad (ie ak (ie ac (ie bp (ie ab nr))))));have ei:(k:Int)<(K:Int):=ga
      clear hx az c8 hM ad ak ac bp ab nr;have b5:=cR.o;obtain⟨ax,cf⟩:=xe (dD x.data.toList)
      rw[<-cf] at b5
      have bt:=f8 b5
      have bv:=f8 cf;clear b5 cf cR;go_upto_region 14 with (go_at_call 45;refine bt.mono ?_;rintro e w9 ⟨et,rfl,a5,a8⟩;obtain⟨cc,ae⟩:=h_2 a5 a8;clear a5 a8)
      clear q5;rcases cc.o with ⟨hok,rfl⟩|⟨hok,pp,rfl⟩
      ·have be:=aB ae.o HR.1;have u3:Ce w9 M 3 v:=aA be 3;have t3:w9.frozen? ⟨M,3,none⟩=false:=aF be 3;have ar:=fS HR.2.1 ae.o;have dz:=ae.size;have bp:=HR.2.2.2.2.1;have bb:k+1<=maxLen:=by unfold maxLen;omega
       have a9:(k+1) * 8<=140737488355328:=ga
       obtain⟨ti,hi,a2,eo,eb⟩:=jr aEv;have b7:∀b,b<M+2->some b≠v.ownBlock:=λb hb e=>by have:=(World.ownsRow.lt HR.2.1 b e.symm).1;omega
       have ec:=f8 (show ∀w5,(w9.alloc (.cells #[I6 ax] 3)).grownBy w5 v.ownBlock->w5.heap[M]?=some (.cells #[I6 cs.e,Sl cs.a cs.n cs.c,I6 m,v,I6 c.k,I6 c.i,I6 c.s,Sv c.t,Sl c.la c.ll c.lc,Sl c.fa c.fl c.fc] 69) from λw5 h =>
        (h.block M (by have:=ltOf be;simp;omega) (b7 M ga)).trans (aC _ be))
       obtain⟨ej,ch,d9⟩:=h_3 hok ar b7;have cx:M+2<=w9.heap.size:=ga
       clear hok be ar b7;go_wp2_with (at_builtin;go_loud (refine qq _ gh _ _ 61 gh (M+2) 3 ti _ 1 8 underlying61 hi a2 eo eb rfl ga v k _ gh (ch.alloc _) ⟨w9.heap.size,0,none⟩ 1 1 [I6 ax] gh gh (cell_one_new _ _ _) gj bb a9 gi ?_;intro v' w5 am ai ct cm;obtain⟨g,cap,rfl,d1⟩:=aAk am;obtain⟨dd,HG⟩:=h_2 am ai;have a0:=f8 (ec.o w5 ai);have u4:=aA a0.o 3;have t4:=aF a0.o 3;clear am ai ct cm u3 t3 d1))
       have hw:∀b o,b≠M->some b≠v.ownBlock->wr.heap[b]?=some o->(w5.setCell ⟨M,3,none⟩ (Sl (So g 0) (k+1) cap)).heap[b]?=some o:=λb o h1 h2 h=>by
        have h9:=aB ae.o h;have hl:=ltOf h9;exact(ij _ _ _ _ gl).trans ((HG.block b gi h2).trans (aC _ h9))
       have en:=HG.size;simp only[jb] at en;refine⟨⟨k+1,Sl (So g 0) (k+1) cap,by go_num,by omega,dR a0.o,?_,λy hy=>?_,λb o h1 h=>hw b o h1 (d9.o b (by have:=ltOf h;omega)) (HR.2.2.2.1 b o h1 h),by simp[World.setCell];omega,?_⟩,by simp[intOf];omega⟩
       ·rw[mh HX.2.2,<-HX.1,kh,List.map_singleton,<-bv.o];exact aCi dd.o λb o hb h=>(ij _ _ _ _ (by
         have:=(kE dd.o b hb).1;dsimp only;omega)).trans h
       ·rw[mh HX.2.2,<-HX.1] at hy;rcases List.mem_append.1 hy with hy|hy
        ·exact HR.2.2.1 y hy
        ·obtain rfl:=List.mem_singleton.1 hy;exact ej.o
       ·have h1:=HR.2.2.2.2.2.1;have hN:N<=wr.heap.size:=ga
        have h2:=((h1.trans (ae.mono hN)).alloc ga (.cells #[I6 ax] 3)).grown HG.o gi (λb e=>by have:=(World.ownsRow.lt HR.2.1 b e).1;omega);exact h2.setCell (p:=⟨M,3,none⟩) gl _
      ·have n9:=aB ae.o HR.2.2.2.2.2.2;have al:=(a6.o w9 [I6 0,Z0,I6 0,Z0,I6 0,I6 0,I6 0,.string ⟨#[]⟩,Z0,Z0] rfl gj _ rfl n9).1;have aj:=mBad (HR.2.2.2.2.2.1.trans (ae.mono (by have:=ltOf HR.2.2.2.2.2.2;omega))) n9;have aa:=f8 aj;have b6:=f8 (show uV s=none by
        unfold uV;rw[HP.o];dsimp only;split
        ·rfl
        ·rw[f9];rintro⟨_,_,g,_⟩;have h1:=HX.2.1;rw[HL.1] at h1;unfold fC at h1;obtain⟨z,hz,rfl⟩:=List.mem_map.1 h1;have:=List.all_eq_true.1 g z hz;rw[show(⟨z.toArray⟩:ByteArray).data.toList=z from rfl,this] at hok;cases hok)
       clear n9 aj hok;go_wp2;refine ig (aEl (vs:=[I6 0,Z0,I6 0,Z0,I6 0,I6 0,I6 0,.string ⟨#[]⟩,Z0,Z0]) rfl rfl rfl aa.1) rfl ⟨.inr ⟨b6.o,rfl⟩,aa.2⟩
     ·obtain rfl:K=k:=ga
      clear c6;rw[HL.2,List.take_length] at ad;rw[HL.2,List.take_length] at ak;obtain⟨zs,bj⟩:=xe (L.map λx=>dD x.data.toList)
      have a7:L.map (λx=>I6 (dD x.data.toList))=zs.map (Value.int .i64):=by rw[bj,List.map_map];rfl
      rw[a7] at ad;rw[<-HL.2] at ad;obtain⟨a,cap,rfl,av⟩:=oE ad ga (λz hz=>by
       rw[bj] at hz;obtain⟨x,_,rfl⟩:=List.mem_map.1 hz;exact eC _)
      obtain⟨sd,c4,c2⟩:∃d:St,lS pa.data.toList=some d/\IsSt (λb=>w0.heap.size<=b/\b<w6.heap.size) w6 cs d:=by
       rcases H6.2.2.2.2.1 with h|h
       ·exact h.2
       ·exact absurd h.1 gb
      obtain⟨d,hd⟩:=xe (⟨sd,m,zs,(fK pe).1⟩:Msg)
      have cd:∀b,b<w6.heap.size->wr.heap[b]?=w6.heap[b]?:=λb hb=>by
       have h1:=jc hb;rw[h1];exact ac b _ (by have:=bz.o;omega) (H8.2.2.2.1 b _ h1)
      have hi:IsMsg (λb=>w0.heap.size<=b/\b<wr.heap.size) wr ⟨cs,m,a,K,cap,c⟩ d:=by
       have h6:w6.heap.size<=wr.heap.size:=by have:=bz.o;omega
       rw[hd];refine⟨c2.same λb hb=>⟨⟨hb.1,by omega⟩,cd b hb.2⟩,rfl,by show I64 m;rw[HM.1];exact eC _,av.same λb hb=>⟨⟨by have:=H6.1.size;have:=bz.o;omega,hb.2⟩,rfl⟩,H6.2.2.2.2.2.1.same λb hb=>⟨⟨hb.1,by omega⟩,cd b hb.2⟩⟩
      have dg:IsMsg (· < wr.heap.size) wr ⟨cs,m,a,K,cap,c⟩ d:=hi.same λb hb=>⟨hb.2,rfl⟩
      have cu:=mZ ⟨cs,m,a,K,cap,c⟩ d wr dg (cq.1.below (by rw[HN.o] at ab;exact ab)) (cq.2.2.below (by rw[HN.o] at ab;exact ab));obtain⟨t1,bx⟩:=xe ((iB d).1)
      obtain⟨e1,an⟩:=xe ((iB d).2)
      rw[<-bx,<-an] at cu;have bw:=f8 (show uV s=if iB d=(s,0) then some d else none by
       have g1:(spl 44 pc.data.toList).all dE=true:=by
        rw[oc];intro z hz;exact ak ⟨z.toArray⟩ (by rw[HL.1];unfold fC;exact List.mem_map.2 ⟨z,hz,rfl⟩)
       have g2:(spl 44 pc.data.toList).map dD=zs:=by rw[bj,HL.1];unfold fC;rw[List.map_map];rfl
       have g3:dE pb.data.toList=true:=co.o;unfold uV;rw[HP.o];dsimp only;rw[c4];dsimp only;rw[g1,g2,g3,<-HM.2,<-HM.1,<-hd];simp only[true_and])
      have ed:=f8 cu;have br:=f8 (ie bx an);have HI:=f8 hi;have HK:=f8 (ie hM (ie ab nr));have ag:=nO (P:=prog) (vs:=[I6 cs.e,Sl cs.a cs.n cs.c,I6 m,Sl a K cap,I6 c.k,I6 c.i,I6 c.s,Sv c.t,Sl c.la c.ll c.lc,Sl c.fa c.fl c.fc]) hM;have aq:(loadCellsFrom ⟨M,0,none⟩ 0 10 #[]).run prog wr=.ok #[I6 cs.e,Sl cs.a cs.n cs.c,I6 m,Sl a K cap,I6 c.k,I6 c.i,I6 c.s,Sv c.t,Sl c.la c.ll c.lc,Sl c.fa c.fl c.fc] wr:=ag;clear ag ad ak bj a7 av c4 c2 hd cd hi dg cu bx an hM ac bp ab nr
      go_upto_region 19 with (go_at_call 37;refine ed.mono ?_;rintro e w9 ⟨rfl,a8⟩;have ae:=f8 a8;clear a8)
      clear aq;have m9:=aB ae.o HK.1;have n9:=aB ae.o HK.2.2;have ci:Below N w w9:=HK.2.1.trans (ae.mono (by have:=ltOf HK.2.2;omega));have al:=(a6.o w9 [I6 0,Z0,I6 0,Z0,I6 0,I6 0,I6 0,.string ⟨#[]⟩,Z0,Z0] rfl gj _ rfl n9).1;have aa:=f8 (mBad ci n9);have H9:=f8 (ie m9 (ie n9 ci));clear m9 n9 ci;by_cases an:e1=0
      ·subst an;obtain⟨bq,da⟩:∃bq,(t1.toList==s.toList)=bq:=⟨_,rfl⟩
       have eu:(t1.toList != s.toList) = !bq:=by rw[<-da];rfl
       have dk:=f8 da;cases bq
       ·go_wp2;refine ig (aEl (vs:=[I6 0,Z0,I6 0,Z0,I6 0,I6 0,I6 0,.string ⟨#[]⟩,Z0,Z0]) rfl rfl rfl aa.1) rfl ⟨.inr ⟨?_,rfl⟩,aa.2⟩;rw[bw.o,f9];intro h;have h1:=br.1;rw[h] at h1;have h2:=dk.o;rw[h1] at h2;simp at h2
       ·have c7:t1=s:=by
         have h2:=dk.o;rw[aOm] at h2;exact ld h2
        have eg:=f8 c7;clear c7 al;have ep:=(a6.o w9 [I6 cs.e,Sl cs.a cs.n cs.c,I6 m,Sl a K cap,I6 c.k,I6 c.i,I6 c.s,Sv c.t,Sl c.la c.ll c.lc,Sl c.fa c.fl c.fc] rfl gj _ rfl H9.2.1).1;have ag:=nO (P:=prog) (vs:=[I6 cs.e,Sl cs.a cs.n cs.c,I6 m,Sl a K cap,I6 c.k,I6 c.i,I6 c.s,Sv c.t,Sl c.la c.ll c.lc,Sl c.fa c.fl c.fc]) H9.1
        have aq:(loadCellsFrom ⟨M,0,none⟩ 0 10 #[]).run prog w9=.ok #[I6 cs.e,Sl cs.a cs.n cs.c,I6 m,Sl a K cap,I6 c.k,I6 c.i,I6 c.s,Sv c.t,Sl c.la c.ll c.lc,Sl c.fa c.fl c.fc] w9:=ag;clear ag;go_wp2;have b4:=ke w9 N _ #[I6 cs.e,Sl cs.a cs.n cs.c,I6 m,Sl a K cap,I6 c.k,I6 c.i,I6 c.s,Sv c.t,Sl c.la c.ll c.lc,Sl c.fa c.fl c.fc] 69 (0,0) H9.2.1
        refine ig (aEl (vs:=[I6 cs.e,Sl cs.a cs.n cs.c,I6 m,Sl a K cap,I6 c.k,I6 c.i,I6 c.s,Sv c.t,Sl c.la c.ll c.lc,Sl c.fa c.fl c.fc]) rfl rfl rfl b4) rfl ⟨.inl ⟨⟨cs,m,a,K,cap,c⟩,d,?_,rfl,?_⟩,H9.2.2.trans (eJ w9 N _)⟩
        ·rw[bw.o,gw];rw[<-eg.o,br.1];exact Prod.ext rfl br.2.symm
        ·refine HI.same λb hb=>⟨⟨by have:=bl.o;omega,by rw[ky];have:=ae.size;omega⟩,(ko w9 N b _ (by have:=bl.o;omega)).trans (ae.block b hb.2)⟩
      ·have er:(e1==0)=false:=by simp;exact an
       have ek:(e1 != 0)=true:=by simp;exact an
       have dy:=f8 an;clear an;go_wp2;refine ig (aEl (vs:=[I6 0,Z0,I6 0,Z0,I6 0,I6 0,I6 0,.string ⟨#[]⟩,Z0,Z0]) rfl rfl rfl aa.1) rfl ⟨.inr ⟨?_,rfl⟩,aa.2⟩;rw[bw.o,f9];intro h;have h1:=br.2;rw[h] at h1;exact dy.o h1
   ·have er:(f==0)=false:=by simp;exact bc
    have ek:(f != 0)=true:=by simp;exact bc
    have HF:=f8 bc;clear bc;go_wp2;refine ig (aEl (vs:=[I6 0,Z0,I6 0,Z0,I6 0,I6 0,I6 0,.string ⟨#[]⟩,Z0,Z0]) rfl rfl rfl af.1) rfl ⟨.inr ⟨ah.o (.inr (.inr HF.o)),rfl⟩,af.2⟩
  ·have HK:=f8 hok;clear hok;go_wp2;refine ig (aEl (vs:=[I6 0,Z0,I6 0,Z0,I6 0,I6 0,I6 0,.string ⟨#[]⟩,Z0,Z0]) rfl rfl rfl af.1) rfl ⟨.inr ⟨ah.o (.inr (.inl HK.o)),rfl⟩,af.2⟩
 ·have b6:=f8 (show uV s=none by
   unfold uV;split
   ·rename_i h;rw[h] at hp;simp at hp
   ·rfl)
  have bu:=f8 au;clear a3 hN a2 ao bk bf cb dm hp au hT hZ bm h4 hs;go_enter func25,ntmps25
  go_upto_region 1 with (fail)
  rw[<-HW.o,<-HN.o];go_upto_region 2 with (go_at_call 56;refine bu.mono ?_;rintro e w1 ⟨n,k,ce,rfl,aw⟩;obtain⟨d2,bd⟩:=h_2 ce aw;clear ce aw)
  have n1:=aB bd.o c5.o;have al:=(a6.o w1 [I6 0,Z0,I6 0,Z0,I6 0,I6 0,I6 0,.string ⟨#[]⟩,Z0,Z0] rfl gj _ rfl n1).1;have aa:=f8 (mBad (dh.trans (bd.mono (by have:=bl.o;omega))) n1);have ce:(n:Int)<4:=by have:=d2.o;omega
  clear n1;go_wp2;exact ig (aEl (vs:=[I6 0,Z0,I6 0,Z0,I6 0,I6 0,I6 0,.string ⟨#[]⟩,Z0,Z0]) rfl rfl rfl aa.1) rfl ⟨.inr ⟨b6.o,rfl⟩,aa.2⟩
end
end
section
theorem aJv (s:BA) (hs:s.size<=1000000) (w:World) (hT:Tabs w) (hN:NumVars w) :
 CP 57 #[Sv s] w λx w'=>∃(c:SC) (d:St) (E:Int),x=.returned (.tuple #[c.v,I6 E])/\IsSt (λb=>w.heap.size<=b/\b<w'.heap.size) w' c d/\Below w.heap.size w w' :=
 (rG s hs w hT hN).mono λx w' h=>by
   rcases h.1 with ⟨c,d,h1,h2,h3⟩|⟨h1,h2⟩
   ·exact⟨c,d,0,h2,h3,h.2⟩
   ·exact⟨⟨0,none,0,0⟩,⟨0,[]⟩,13,h2,⟨rfl,⟨by decide,by decide⟩,⟨rfl,gy _,by decide,λx hx=>absurd hx ge,.inl rfl⟩⟩,h.2⟩
section
attribute [-go_sem] loadCellsFrom storeCells
attribute [local go_sem] mG mF pT mB mA stcM2
theorem rH (s:BA) (f:Bool) (hs:s.size<=100000) (c:Nat) (w:World) (h:w.heap[c]?=some (scA s f)) (hN:∀w',Turn (λk=>k=c) w w'->NumVars w'/\Tabs w') :
 CP 60 #[Pt c 0] w λe w'=>∃(st:SC) (d:St) (f':Bool),e=.returned st.v/\IsSt (λb=>w.heap.size<=b/\b<w'.heap.size) w' st d/\w'.heap[c]?=some (scA (cI s).2 f')/\Turn (λk=>k=c) w w':=by
 obtain⟨N,ad⟩:=xe w.heap.size
 obtain⟨w1,ae⟩:=xe (w.alloc (.cells #[I6 0,Z0] 63))
 have ar:c<N:=by rw[ad];exact ltOf h
 have n1:w1.heap[N]?=some (.cells #[I6 0,Z0] 63):=by rw[ae,ad];exact ib w _
 have aj:Below w.heap.size w w1:=by rw[ae];exact(bR w).alloc lr _
 have t1:Turn (λk=>k=c) w w1:=Turn.of_below aj;have ag:w1.heap.size=N+1:=by rw[ae,ad];simp
 have HP:=f8 (cU s f hs c w1 (aB aj h) (hN w1 t1).1);obtain⟨a,ha⟩:=xe ((cI s).1)
 obtain⟨b,hb⟩:=xe ((cI s).2)
 rw[<-ha,<-hb] at HP;have au:a.size<=100000:=by rw[ha];exact io (aM s).1 hs
 have HA:=f8 (λ(w':World) (h:Turn (λk=>k=c) w1 w')=>aJv a ga w' (hN w' (t1.trans h)).2 (hN w' (t1.trans h)).1);rw[<-hb];obtain⟨H0,ax,HN,N1,T1,a1,ac⟩:=h_7 h ae ad n1 t1 ag ar;clear ha hb au h hN ad ae ar n1 aj t1 ag;go_enter func60,ntmps60
 go_upto_region 1 with (fail)
 rw[<-ax.o,<-HN.o];go_upto_region 2 with (first
  | (go_at_call 20;refine HP.mono ?_;rintro e w2 ⟨rfl,h2,ao⟩;obtain⟨H2,af⟩:=h_2 h2 ao;clear h2 ao)
  | (go_at_call 57;refine(HA.o _ af.o).mono ?_;rintro e w3 ⟨cs,ds,E,rfl,hd,aq⟩;obtain⟨HD,ah⟩:=h_2 hd aq;clear hd aq))
 obtain⟨T,hT⟩:=xe w3.heap.size
 obtain⟨w4,ab⟩:=xe (w3.alloc (.cells #[I6 cs.e,Sl cs.a cs.n cs.c] 63))
 rw[<-ab,<-hT];have al:=af.size;have ak:=ah.size;have ag:=a1.o;have a0:=ac.o;have q1:w4.heap[T]?=some (.cells #[I6 cs.e,Sl cs.a cs.n cs.c] 63):=by rw[ab,hT];exact ib w3 _
 have aa:Below w3.heap.size w3 w4:=by rw[ab];exact(gx _ w3).alloc lr _
 have q2:w4.heap[c]?=some (scA b f):=aB aa (aB ah.o H2.o);have q3:w4.heap[N]?=some (.cells #[I6 0,Z0] 63):=aB aa (aB ah.o (af.keep N1.o ga));have Q:=f8 (ie q1 (ie q2 q3));have a4:=f8 aa;have ap:N<T:=ga
 have av:=f8 ap;have c1:=aA q2 1;have f1:=aF q2 1;have d0:=aA q1 0;have d1:=aA q1 1
 (try dsimp only at c1 d0 d1)
 have am:Turn (λk=>k=c) w w4:=T1.trans ((af.trans (Turn.of_below ah.o)).trans (Turn.of_below aa));have aw:=f8 am;have az:=f8 (show IsSt (λi=>w.heap.size<=i/\i<w4.heap.size/\i≠N) w4 cs ds from HD.same λi hi=>⟨⟨by rw[<-HN.o];omega,by have:=aa.size;omega,by omega⟩,aa.block i hi.2⟩);have a5:=f8 (show w4.heap.size=T+1 by rw[ab,hT];simp);clear al ak ag a0 q1 q2 q3 aa ap am ab hT;have Q2:=f8 (ie Q.2.1 Q.2.2)
 go_cut [] (λwz=>∃z:Bool,wz=w4.setCell ⟨c,1,none⟩ (.bool z))
 case first =>
  by_cases he:E=0
  ·subst he;cases f
   all_goals
    go_wp2
    go_meet
    exact⟨_,rfl⟩
  ·have h0:(E==0)=false:=by simp[he]
   have h1:(E != 0)=true:=by simp[he]
   clear he;cases f
   all_goals
    go_wp2
    go_meet
    exact⟨_,rfl⟩
 case rest =>
 obtain⟨z,hz⟩:=hcut;obtain⟨wz,an⟩:=xe (wc:World)
 rw[<-an] at hz ⊢;clear an c1 f1 d0 d1;have a2:c<T:=by have:=ac.o;have:=av.o;omega
 have gT:=aD ⟨c,1,none⟩ (.bool z) Q.1 gl;have gN:=aD ⟨c,1,none⟩ (.bool z) Q.2.2 (by have:=ac.o;dsimp only;omega);have gc:=aG (o:=1) (.bool z) Q.2.1;simp only[jm,jn,jo] at gc;have tz:=aw.trans (Turn.setCell (R:=λk=>k=c) ⟨c,1,none⟩ (.bool z) rfl);have bz:∀b,b≠c->(w4.setCell ⟨c,1,none⟩ (.bool z)).heap[b]?=w4.heap[b]?:=λb hb=>ij _ _ _ _ hb;have sz:(w4.setCell ⟨c,1,none⟩ (.bool z)).heap.size=w4.heap.size:=by simp[World.setCell]
 rw[<-hz] at gT gN gc tz bz sz;clear hz;obtain⟨w6,ai⟩:=xe ((wz.setCell ⟨N,0,none⟩ (I6 cs.e)).setCell ⟨N,1,none⟩ (Sl cs.a cs.n cs.c))
 have g6:=aG (o:=1) (Sl cs.a cs.n cs.c) (aG (o:=0) (I6 cs.e) gN);simp only[jm,jn,jo] at g6;have k6:=aD ⟨N,1,none⟩ (Sl cs.a cs.n cs.c) (aD ⟨N,0,none⟩ (I6 cs.e) gc (by have:=ac.o;dsimp only;omega)) (by have:=ac.o;dsimp only;omega);have b6:∀b,b≠N->((wz.setCell ⟨N,0,none⟩ (I6 cs.e)).setCell ⟨N,1,none⟩ (Sl cs.a cs.n cs.c)).heap[b]?=wz.heap[b]?:=λb hb=>(ij _ _ _ _ hb).trans (ij _ _ _ _ hb)
 have s6:((wz.setCell ⟨N,0,none⟩ (I6 cs.e)).setCell ⟨N,1,none⟩ (Sl cs.a cs.n cs.c)).heap.size=wz.heap.size:=by simp[World.setCell]
 have t6:Turn (λk=>k=c\/k=N) w ((wz.setCell ⟨N,0,none⟩ (I6 cs.e)).setCell ⟨N,1,none⟩ (Sl cs.a cs.n cs.c)):=((tz.mono λk hk=>.inl hk).trans (Turn.setCell ⟨N,0,none⟩ _ (.inr rfl))).trans (Turn.setCell ⟨N,1,none⟩ _ (.inr rfl));rw[<-ai] at g6 k6 b6 s6 t6;have a3:=f8 (show ∀k,k<w.heap.size->k≠N by intro k hk;rw[HN.o];omega);obtain⟨d0,d1⟩:=c_2 gT;obtain⟨n0,n1⟩:=c_2 gN;have e0:=aF gN 0;have e1:=aF gN 1;have y0:=aA g6 0;have y1:=aA g6 1
 (try dsimp only at d0 d1 n0 n1 y0 y1)
 obtain⟨ay,G6,K6,B6,S6,T6,BZ,SZ⟩:=h_8 ai g6 k6 b6 s6 t6 bz sz;clear gT gN gc tz bz sz g6 k6 b6 s6 t6 a2 ai;go_wp2;rw[<-ay.o];refine ig (v:=cs.v) (by simp[results,results60,go_sem,y0,y1]) rfl ⟨cs,ds,z,rfl,az.same λi hi=>⟨⟨hi.1,by have h1:=S6.o;have h2:=SZ.o;omega⟩,(B6.o i hi.2.2).trans (BZ.o i (λe=>by have:=hi.1;have:=ltOf H0.o;omega))⟩,K6.o,⟨T6.os,T6.tape,T6.output,T6.size,λk hk h=>T6.block k hk (λe=>e.elim h (a3.o k hk))⟩⟩
end
end
end Go.Proofs.YtoodnaghjpkjfaaGreatDoor
