/- A part. -/
import Derived.Test.YtmgpghoamapfgaaGreatDoorST28Mrg
namespace Go.Proofs.YtmgpghoamapfgaaGreatDoor
set_option linter.unusedVariables false
set_option maxRecDepth 100000
set_option maxHeartbeats 16000000
set_option linter.unusedSimpArgs false
section
open Go Go.RowKit Go.Shelf
abbrev valEqB (d d2:Val):Bool:=cN d d2==0
def iM (d d2:Slot):Bool:=(cN d.k d2.k==0)&&(decide (d.n=d2.n)&&(decide (d.t=d2.t)&&(eqL gG d.items d2.items&&eqL valEqB d.vals d2.vals)))
theorem xD (c c2:SlC) (d d2:Slot) (w:World) (hd:IsSl (· < w.heap.size) w c d) (hd2:IsSl (· < w.heap.size) w c2 d2):CP 86 #[c.v,c2.v] w (Rt (.bool (iM d d2)) w):=by
 obtain⟨⟨kk,ki,ks,kt,kla,kll,klc,kfa,kfl,kfc⟩,n,t,ia,il,ic,va,vl,vc⟩:=c;obtain⟨⟨kk2,ki2,ks2,kt2,kla2,kll2,klc2,kfa2,kfl2,kfc2⟩,n2,t2,ia2,il2,ic2,va2,vl2,vc2⟩:=c2;obtain⟨wb,hwb⟩:=ez (((w.alloc (.cells #[I6 kk,I6 ki,I6 ks,.string kt,.slice kla kll klc,.slice kfa kfl kfc,I6 n,I6 t,.slice ia il ic,.slice va vl vc] 66)).alloc (.cells #[I6 kk2,I6 ki2,I6 ks2,.string kt2,.slice kla2 kll2 klc2,.slice kfa2 kfl2 kfc2,I6 n2,I6 t2,.slice ia2 il2 ic2,.slice va2 vl2 vc2] 66)))
 have hb0:BB w wb:=by rw[hwb];exact((bR w).alloc lr _).alloc gd _
 have g1:wb.heap[w.heap.size]?=some (.cells #[I6 kk,I6 ki,I6 ks,.string kt,.slice kla kll klc,.slice kfa kfl kfc,I6 n,I6 t,.slice ia il ic,.slice va vl vc] 66):=by rw[hwb];exact aD _ (heap_alloc_new w _)
 have g2:wb.heap[w.heap.size+1]?=some (.cells #[I6 kk2,I6 ki2,I6 ks2,.string kt2,.slice kla2 kll2 klc2,.slice kfa2 kfl2 kfc2,I6 n2,I6 t2,.slice ia2 il2 ic2,.slice va2 vl2 vc2] 66):=by rw[hwb];exact aS _ _ _ gd
 have hbig:=hd.items.big;have hbig2:=hd2.items.big;have hbigv:=hd.vals.big;have hbigv2:=hd2.vals.big;have HL:=hid hd.items.len;have He:=hid hd2.items.len;have Hg:=hid hd.vals.len;have Hc:=hid hd2.vals.len;have hq:=hid (show iM d d2=((cN d.k d2.k==0)&&(decide (n=n2)&&(decide (t=t2)&&(eqL gG d.items d2.items&&eqL valEqB d.vals d2.vals)))) by rw[iM,<-hd.n,<-hd2.n,<-hd.t,<-hd2.t]);dsimp only at HL He Hg Hc hbig hbig2 hbigv hbigv2;obtain⟨u,hu⟩:=ez ((cN d.k d2.k==0))
 rw[<-hu] at hq
 have HC:Hid (∀w',BB wb w'->(Ce w' w.heap.size 0 (I6 kk)/\Ce w' w.heap.size 1 (I6 ki)/\Ce w' w.heap.size 2 (I6 ks)/\Ce w' w.heap.size 3 (.string kt)/\Ce w' w.heap.size 4 (.slice kla kll klc)/\Ce w' w.heap.size 5 (.slice kfa kfl kfc)/\Ce w' w.heap.size 6 (I6 n)/\Ce w' w.heap.size 7 (I6 t)/\Ce w' w.heap.size 8 (.slice ia il ic)/\Ce w' w.heap.size 9 (.slice va vl vc))/\(w'.cell? ⟨w.heap.size+1,0,none⟩=some (I6 kk2)/\w'.cell? ⟨w.heap.size+1,1,none⟩=some (I6 ki2)/\w'.cell? ⟨w.heap.size+1,2,none⟩=some (I6 ks2)/\w'.cell? ⟨w.heap.size+1,3,none⟩=some (.string kt2)/\w'.cell? ⟨w.heap.size+1,4,none⟩=some (.slice kla2 kll2 klc2)/\w'.cell? ⟨w.heap.size+1,5,none⟩=some (.slice kfa2 kfl2 kfc2)/\w'.cell? ⟨w.heap.size+1,6,none⟩=some (I6 n2)/\w'.cell? ⟨w.heap.size+1,7,none⟩=some (I6 t2)/\w'.cell? ⟨w.heap.size+1,8,none⟩=some (.slice ia2 il2 ic2)/\w'.cell? ⟨w.heap.size+1,9,none⟩=some (.slice va2 vl2 vc2))/\BB w w'/\(IsRow msgK (· < w.heap.size) w' ia il ic d.items/\IsRow msgK (· < w.heap.size) w' ia2 il2 ic2 d2.items)/\(IsRow valK (· < w.heap.size) w' va vl vc d.vals/\IsRow valK (· < w.heap.size) w' va2 vl2 vc2 d2.vals)):=hid fun w' h=>by
  have hb:=hb0.trans (h.mono hb0.size);have h1:=aB h g1;have h2:=aB h g2;exact⟨⟨aA h1 0,aA h1 1,aA h1 2,aA h1 3,aA h1 4,aA h1 5,aA h1 6,aA h1 7,aA h1 8,aA h1 9⟩,⟨aA h2 0,aA h2 1,aA h2 2,aA h2 3,aA h2 4,aA h2 5,aA h2 6,aA h2 7,aA h2 8,aA h2 9⟩,hb,⟨hd.items.same fun b q=>⟨q,hb.block b q⟩,hd2.items.same fun b q=>⟨q,hb.block b q⟩⟩,⟨hd.vals.same fun b q=>⟨q,hb.block b q⟩,hd2.vals.same fun b q=>⟨q,hb.block b q⟩⟩⟩
 have Hf:Hid (CP 155 #[.agg #[I6 kk,I6 ki,I6 ks,.string kt,.slice kla kll klc,.slice kfa kfl kfc],.agg #[I6 kk2,I6 ki2,I6 ks2,.string kt2,.slice kla2 kll2 klc2,.slice kfa2 kfl2 kfc2]] wb (Rt (.bool u) wb)):=hid (by
  rw[hu];have hs:=hb0.size;exact kS ⟨kk,ki,ks,kt,kla,kll,klc,kfa,kfl,kfc⟩ ⟨kk2,ki2,ks2,kt2,kla2,kll2,klc2,kfa2,kfl2,kfc2⟩ d.k d2.k wb (hd.k.same fun b q=>⟨by omega,hb0.block b q⟩) (hd2.k.same fun b q=>⟨by omega,hb0.block b q⟩))
 have h0:=HC.out _ (Below.refl _ _);rw[hwb] at Hf h0;obtain⟨⟨e0,e1,e2,e3,e4,e5,e6,e7,e8,e9⟩,⟨f0,f1,f2,f3,f4,f5,f6,f7,f8,f9⟩,_⟩:=h0;clear hd hd2 hu g1 g2 hb0;dsimp only[SlC.v];go_enter Tryz.func86,Tryz.ntmps86
 cases u with
 | false =>
   have r:=hid (show iM d d2=false by rw[hq.out];simp[*]);go_wp2_with (go_at_call 155;refine Hf.out.mono ?_;rintro e w1 ⟨rfl,hb1⟩;rw[<-hwb] at hb1;obtain⟨c1,c2,hbw,_,_⟩:=HC.out w1 hb1;clear e0 e1 e2 e3 e4 e5 e6 e7 e8 e9 f0 f1 f2 f3 f4 f5 f6 f7 f8 f9;obtain⟨j0,j1,j2,j3,j4,j5,j6,j7,j8,j9⟩:=c1;obtain⟨l0,l1,l2,l3,l4,l5,l6,l7,l8,l9⟩:=c2)
   go_ret;exact⟨retB r.out.symm,hbw⟩
 | true =>
 by_cases q1:n=n2
 ·subst q1;by_cases q2:t=t2
  ·subst q2;by_cases q4:il=il2
   ·subst q4;by_cases q5:vl=vl2
    ·subst q5;have Hl:=hid (show iM d d2=(eqL gG d.items d2.items&&eqL valEqB d.vals d2.vals) by rw[hq.out];simp[*]);go_wp2_with (go_at_call 155;refine Hf.out.mono ?_;rintro e w1 ⟨rfl,hb1⟩;rw[<-hwb] at hb1;obtain⟨c1,c2,hbw,_,_⟩:=HC.out w1 hb1;clear e0 e1 e2 e3 e4 e5 e6 e7 e8 e9 f0 f1 f2 f3 f4 f5 f6 f7 f8 f9;obtain⟨j0,j1,j2,j3,j4,j5,j6,j7,j8,j9⟩:=c1;obtain⟨l0,l1,l2,l3,l4,l5,l6,l7,l8,l9⟩:=c2)
     clear j0 j1 j2 j3 j4 j5 j6 j7 j8 j9 l0 l1 l2 l3 l4 l5 l6 l7 l8 l9;have Hi:=hid hb1;clear hb1 hbw
     go_loopw [5] (fun i wr=>∃q:Nat,q<=il/\i=I6 q/\(∀j (h1:j<d.items.length) (h2:j<d2.items.length),j<q->gG d.items[j] d2.items[j]=true)/\BB wb wr) (fun i _=>il-(intOf i).toNat)
     case atStart=>exact⟨0,Nat.zero_le _,rfl,fun j _ _ h=>absurd h (Nat.not_lt_zero j),Hi.out⟩
     case round =>
     obtain⟨q,hk,rfl,hall,hbr⟩:=hrel;obtain⟨wp,rfl⟩:=ez (wr:World)
     have HA:=hid hall;have Hb:=hid hbr;obtain⟨⟨j0,j1,j2,j3,j4,j5,j6,j7,j8,j9⟩,⟨l0,l1,l2,l3,l4,l5,l6,l7,l8,l9⟩,hbw,⟨hrx1,hry1⟩,⟨hrx2,hry2⟩⟩:=HC.out wp hbr;have hn63:(il:Int)<=9223372036854775807:=by omega
     clear hall hbr Hi;by_cases hlt:q<il
     ·have hkl:q<d.items.length:=by have:=HL.out;omega
      have hkl2:q<d2.items.length:=by have:=He.out;omega
      obtain⟨b,o,rfl,hb,hx⟩:=hrx1.slot (show 0<il by omega);obtain⟨b2,o2,rfl,hb2,hy⟩:=hry1.slot (show 0<il by omega);obtain⟨x,hxa,hxi⟩:=hx q hkl;obtain⟨y,hya,hyi⟩:=hy q hkl2;have hlt':(q:Int)<(il:Int):=by omega
      have hk0:(0:Int)<=(q:Int):=by omega
      obtain⟨v,hv⟩:=ez (gG d.items[q] d2.items[q])
      have Ha:Hid (∀w',BB wp w'->w'.cell? ⟨w.heap.size,3+5,none⟩=some (.slice (some ⟨b,o,none⟩) il ic)/\w'.cell? ⟨w.heap.size+1,3+5,none⟩=some (.slice (some ⟨b2,o2,none⟩) il ic2)/\(w'.cell? ⟨b,o+q * 10,none⟩=some (I6 x.st.e)/\w'.cell? ⟨b,o+q * 10+1,none⟩=some (.slice x.st.a x.st.n x.st.c)/\w'.cell? ⟨b,o+q * 10+2,none⟩=some (I6 x.m)/\w'.cell? ⟨b,o+q * 10+3,none⟩=some (.slice x.a x.n x.c)/\w'.cell? ⟨b,o+q * 10+4,none⟩=some (I6 x.b.k)/\w'.cell? ⟨b,o+q * 10+5,none⟩=some (I6 x.b.i)/\w'.cell? ⟨b,o+q * 10+6,none⟩=some (I6 x.b.s)/\w'.cell? ⟨b,o+q * 10+7,none⟩=some (.string x.b.t)/\w'.cell? ⟨b,o+q * 10+8,none⟩=some (.slice x.b.la x.b.ll x.b.lc)/\w'.cell? ⟨b,o+q * 10+9,none⟩=some (.slice x.b.fa x.b.fl x.b.fc))/\(w'.cell? ⟨b2,o2+q * 10,none⟩=some (I6 y.st.e)/\w'.cell? ⟨b2,o2+q * 10+1,none⟩=some (.slice y.st.a y.st.n y.st.c)/\w'.cell? ⟨b2,o2+q * 10+2,none⟩=some (I6 y.m)/\w'.cell? ⟨b2,o2+q * 10+3,none⟩=some (.slice y.a y.n y.c)/\w'.cell? ⟨b2,o2+q * 10+4,none⟩=some (I6 y.b.k)/\w'.cell? ⟨b2,o2+q * 10+5,none⟩=some (I6 y.b.i)/\w'.cell? ⟨b2,o2+q * 10+6,none⟩=some (I6 y.b.s)/\w'.cell? ⟨b2,o2+q * 10+7,none⟩=some (.string y.b.t)/\w'.cell? ⟨b2,o2+q * 10+8,none⟩=some (.slice y.b.la y.b.ll y.b.lc)/\w'.cell? ⟨b2,o2+q * 10+9,none⟩=some (.slice y.b.fa y.b.fl y.b.fc))):=hid fun w' h=>by
       have hb':=Hb.out.trans (h.mono Hb.out.size);have hc:=HC.out w' hb';obtain⟨x0,x1,x2,x3,x4,x5,x6,x7,x8,x9⟩:=AtG.m (hxa.same (h.block b (by have:=hbw.size;omega)));obtain⟨y0,y1,y2,y3,y4,y5,y6,y7,y8,y9⟩:=AtG.m (hya.same (h.block b2 (by have:=hbw.size;omega)));exact⟨hc.1.2.2.2.2.2.2.2.2.1,hc.2.1.2.2.2.2.2.2.2.2.1,⟨x0,x1,x2,x3,x4,x5,x6,x7,x8,x9⟩,⟨y0,y1,y2,y3,y4,y5,y6,y7,y8,y9⟩⟩
      have Hd:Hid (∀w',BB wp w'->CP 156 #[.agg #[I6 x.st.e,.slice x.st.a x.st.n x.st.c,I6 x.m,.slice x.a x.n x.c,I6 x.b.k,I6 x.b.i,I6 x.b.s,.string x.b.t,.slice x.b.la x.b.ll x.b.lc,.slice x.b.fa x.b.fl x.b.fc],.agg #[I6 y.st.e,.slice y.st.a y.st.n y.st.c,I6 y.m,.slice y.a y.n y.c,I6 y.b.k,I6 y.b.i,I6 y.b.s,.string y.b.t,.slice y.b.la y.b.ll y.b.lc,.slice y.b.fa y.b.fl y.b.fc]] w' (Rt (.bool v) w')):=hid fun w' h=>by
       rw[hv];have hs:=h.size;have hs1:=hbw.size;exact xI x y _ _ w' (msgK.same (fun b q=>⟨by omega,h.block b ga⟩) hxi) (msgK.same (fun b q=>⟨by omega,h.block b ga⟩) hyi)
      have HU:=hid hv;clear hx hy hxa hxi hya hyi hb hb2 hbw hv hrx1 hry1 hrx2 hry2 j0 j1 j2 j3 j4 j5 j6 j7 j9 l0 l1 l2 l3 l4 l5 l6 l7 l9;cases v with
      | false =>
        go_upto_region 6 with (fail)
        refine aG 12 (fun w'=>BB wp w') ge ge ge gc ((Below.refl _ _).drew) (fun hS=>?_);simp only[zdm,zdn,zdp,zdq];refine tc 0 Ha ?_;refine tc 1 Ha ?_;refine tc 2 Ha ?_;refine tc 3 Ha ?_;refine tc 4 Ha ?_;refine tc 5 Ha ?_;refine tc 6 Ha ?_;refine tc 7 Ha ?_;refine tc 8 Ha ?_;refine tc 9 Ha ?_;refine yr 10 fun K hK=>?_;go_simp;go_at_call 156;refine(Hd.out _ hS).mono ?_;rintro e w4 ⟨rfl,hb4⟩;refine hK.out _ _ (hS.trans (hb4.mono hS.size)) (fun hS=>?_);clear hK K
        (try simp only[Act.put,pq])
        refine tc 11 Ha ?_;refine wpAnyH_done ge ?_ _
        (try dsimp only)
        have hbz:=hS;go_wp2;go_ret;exact⟨retB (by rw[Hl.out,aC3 q hkl hkl2 HU.out.symm];rfl),(HC.out _ (Hb.out.trans (hbz.mono Hb.out.size))).2.2.1⟩
      | true =>
        go_upto_region 6 with (fail)
        refine aG 12 (fun w'=>BB wp w') ge ge ge gc ((Below.refl _ _).drew) (fun hS=>?_);simp only[zdm,zdn,zdp,zdq];refine tc 0 Ha ?_;refine tc 1 Ha ?_;refine tc 2 Ha ?_;refine tc 3 Ha ?_;refine tc 4 Ha ?_;refine tc 5 Ha ?_;refine tc 6 Ha ?_;refine tc 7 Ha ?_;refine tc 8 Ha ?_;refine tc 9 Ha ?_;refine yr 10 fun K hK=>?_;go_simp;go_at_call 156;refine(Hd.out _ hS).mono ?_;rintro e w4 ⟨rfl,hb4⟩;refine hK.out _ _ (hS.trans (hb4.mono hS.size)) (fun hS=>?_);clear hK K
        (try simp only[Act.put,pq])
        refine tc 11 Ha ?_;refine wpAnyH_done ge ?_ _
        (try dsimp only)
        have Hh:=hid hS;clear hS;go_wp2
        go_roundw
        case rel=>exact⟨q+1,by omega,by go_num,fun j h1 h2 h=>by
         by_cases hjk:j<q
         ·exact HA.out j h1 h2 hjk
         ·obtain rfl:j=q:=by omega
          exact HU.out.symm,Hb.out.trans (Hh.out.mono Hb.out.size)⟩
        case measure=>simp[intOf];omega
     ·obtain rfl:q=il:=by omega
      have R8:=hid (vU (f:=gG) (HL.out.symm.trans He.out) fun j h1 h2=>HA.out j h1 h2 (by have:=HL.out;omega));clear hrx1 hry1 hrx2 hry2;go_wp2;clear j0 j1 j2 j3 j4 j5 j6 j7 j8 j9 l0 l1 l2 l3 l4 l5 l6 l7 l8 l9 hbw;have Hi:=Hb;have Hm:=hid (show iM d d2=eqL valEqB d.vals d2.vals by rw[Hl.out,R8.out];rfl);clear HA Hl R8 hlt hk Hb
      go_loopw [6] (fun i wr=>∃q:Nat,q<=vl/\i=I6 q/\(∀j (h1:j<d.vals.length) (h2:j<d2.vals.length),j<q->valEqB d.vals[j] d2.vals[j]=true)/\BB wb wr) (fun i _=>vl-(intOf i).toNat)
      case atStart=>exact⟨0,Nat.zero_le _,rfl,fun j _ _ h=>absurd h (Nat.not_lt_zero j),Hi.out⟩
      case round =>
      obtain⟨q,hk,rfl,hall,hbr⟩:=hrel;obtain⟨wp,rfl⟩:=ez (wr:World)
      have HA:=hid hall;have Hb:=hid hbr;obtain⟨⟨j0,j1,j2,j3,j4,j5,j6,j7,j8,j9⟩,⟨l0,l1,l2,l3,l4,l5,l6,l7,l8,l9⟩,hbw,⟨hrx1,hry1⟩,⟨hrx2,hry2⟩⟩:=HC.out wp hbr;have hn63:(vl:Int)<=9223372036854775807:=by omega
      clear hall hbr Hi;by_cases hlt:q<vl
      ·have hkl:q<d.vals.length:=by have:=Hg.out;omega
       have hkl2:q<d2.vals.length:=by have:=Hc.out;omega
       obtain⟨b,o,rfl,hb,hx⟩:=hrx2.slot (show 0<vl by omega);obtain⟨b2,o2,rfl,hb2,hy⟩:=hry2.slot (show 0<vl by omega);obtain⟨x,hxa,hxi⟩:=hx q hkl;obtain⟨y,hya,hyi⟩:=hy q hkl2;have hlt':(q:Int)<(vl:Int):=by omega
       have hk0:(0:Int)<=(q:Int):=by omega
       obtain⟨v,hv⟩:=ez (valEqB d.vals[q] d2.vals[q])
       have Ha:Hid (∀w',BB wp w'->w'.cell? ⟨w.heap.size,4+5,none⟩=some (.slice (some ⟨b,o,none⟩) vl vc)/\w'.cell? ⟨w.heap.size+1,4+5,none⟩=some (.slice (some ⟨b2,o2,none⟩) vl vc2)/\(w'.cell? ⟨b,o+q * 6,none⟩=some (I6 x.k)/\w'.cell? ⟨b,o+q * 6+1,none⟩=some (I6 x.i)/\w'.cell? ⟨b,o+q * 6+2,none⟩=some (I6 x.s)/\w'.cell? ⟨b,o+q * 6+3,none⟩=some (.string x.t)/\w'.cell? ⟨b,o+q * 6+4,none⟩=some (.slice x.la x.ll x.lc)/\w'.cell? ⟨b,o+q * 6+5,none⟩=some (.slice x.fa x.fl x.fc))/\(w'.cell? ⟨b2,o2+q * 6,none⟩=some (I6 y.k)/\w'.cell? ⟨b2,o2+q * 6+1,none⟩=some (I6 y.i)/\w'.cell? ⟨b2,o2+q * 6+2,none⟩=some (I6 y.s)/\w'.cell? ⟨b2,o2+q * 6+3,none⟩=some (.string y.t)/\w'.cell? ⟨b2,o2+q * 6+4,none⟩=some (.slice y.la y.ll y.lc)/\w'.cell? ⟨b2,o2+q * 6+5,none⟩=some (.slice y.fa y.fl y.fc))):=hid fun w' h=>by
        have hb':=Hb.out.trans (h.mono Hb.out.size);have hc:=HC.out w' hb';obtain⟨x0,x1,x2,x3,x4,x5⟩:=AtG.val (hxa.same (h.block b (by have:=hbw.size;omega)));obtain⟨y0,y1,y2,y3,y4,y5⟩:=AtG.val (hya.same (h.block b2 (by have:=hbw.size;omega)));exact⟨hc.1.2.2.2.2.2.2.2.2.2,hc.2.1.2.2.2.2.2.2.2.2.2,⟨x0,x1,x2,x3,x4,x5⟩,⟨y0,y1,y2,y3,y4,y5⟩⟩
       have Hd:Hid (∀w',BB wp w'->CP 155 #[.agg #[I6 x.k,I6 x.i,I6 x.s,.string x.t,.slice x.la x.ll x.lc,.slice x.fa x.fl x.fc],.agg #[I6 y.k,I6 y.i,I6 y.s,.string y.t,.slice y.la y.ll y.lc,.slice y.fa y.fl y.fc]] w' (Rt (.bool v) w')):=hid fun w' h=>by
        rw[hv];have hs:=h.size;have hs1:=hbw.size;exact kS x y _ _ w' (valK.same (fun b q=>⟨by omega,h.block b ga⟩) hxi) (valK.same (fun b q=>⟨by omega,h.block b ga⟩) hyi)
       have HU:=hid hv;clear hx hy hxa hxi hya hyi hb hb2 hbw hv hrx1 hry1 hrx2 hry2 j0 j1 j2 j3 j4 j5 j6 j7 j8  l0 l1 l2 l3 l4 l5 l6 l7 l8 ;cases v with
       | false =>
         go_upto_region 11 with (fail)
         refine aG 12 (fun w'=>BB wp w') ge ge ge gc ((Below.refl _ _).drew) (fun hS=>?_);simp only[zdm,zdn,zdp,zdq];refine tc 0 Ha ?_;refine tc 1 Ha ?_;refine tc 2 Ha ?_;refine tc 3 Ha ?_;refine tc 4 Ha ?_;refine tc 5 Ha ?_;refine tc 6 Ha ?_;refine tc 7 Ha ?_;refine tc 8 Ha ?_;refine tc 9 Ha ?_;refine yr 10 fun K hK=>?_;go_simp;go_at_call 155;refine(Hd.out _ hS).mono ?_;rintro e w4 ⟨rfl,hb4⟩;refine hK.out _ _ (hS.trans (hb4.mono hS.size)) (fun hS=>?_);clear hK K
         (try simp only[Act.put,pq])
         refine tc 11 Ha ?_;refine wpAnyH_done ge ?_ _
         (try dsimp only)
         have hbz:=hS;go_wp2;go_ret;exact⟨retB (by rw[Hm.out,aC3 q hkl hkl2 HU.out.symm]),(HC.out _ (Hb.out.trans (hbz.mono Hb.out.size))).2.2.1⟩
       | true =>
         go_upto_region 11 with (fail)
         refine aG 12 (fun w'=>BB wp w') ge ge ge gc ((Below.refl _ _).drew) (fun hS=>?_);simp only[zdm,zdn,zdp,zdq];refine tc 0 Ha ?_;refine tc 1 Ha ?_;refine tc 2 Ha ?_;refine tc 3 Ha ?_;refine tc 4 Ha ?_;refine tc 5 Ha ?_;refine tc 6 Ha ?_;refine tc 7 Ha ?_;refine tc 8 Ha ?_;refine tc 9 Ha ?_;refine yr 10 fun K hK=>?_;go_simp;go_at_call 155;refine(Hd.out _ hS).mono ?_;rintro e w4 ⟨rfl,hb4⟩;refine hK.out _ _ (hS.trans (hb4.mono hS.size)) (fun hS=>?_);clear hK K
         (try simp only[Act.put,pq])
         refine tc 11 Ha ?_;refine wpAnyH_done ge ?_ _
         (try dsimp only)
         have Hh:=hid hS;clear hS;go_wp2
         go_roundw
         case rel=>exact⟨q+1,by omega,by go_num,fun j h1 h2 h=>by
          by_cases hjk:j<q
          ·exact HA.out j h1 h2 hjk
          ·obtain rfl:j=q:=by omega
           exact HU.out.symm,Hb.out.trans (Hh.out.mono Hb.out.size)⟩
         case measure=>simp[intOf];omega
      ·obtain rfl:q=vl:=by omega
       have R9:=hid (vU (f:=valEqB) (Hg.out.symm.trans Hc.out) fun j h1 h2=>HA.out j h1 h2 (by have:=Hg.out;omega));clear hrx1 hry1 hrx2 hry2;go_wp2;go_ret;exact⟨retB (by rw[Hm.out,R9.out]),hbw⟩
    ·have q5':¬ (vl:Int)=(vl2:Int):=by omega
     have r:=hid (show iM d d2=false by rw[hq.out,tG (f:=valEqB) (by rw[<-Hg.out,<-Hc.out];exact q5)];simp);go_wp2_with (go_at_call 155;refine Hf.out.mono ?_;rintro e w1 ⟨rfl,hb1⟩;rw[<-hwb] at hb1;obtain⟨c1,c2,hbw,_,_⟩:=HC.out w1 hb1;clear e0 e1 e2 e3 e4 e5 e6 e7 e8 e9 f0 f1 f2 f3 f4 f5 f6 f7 f8 f9;obtain⟨j0,j1,j2,j3,j4,j5,j6,j7,j8,j9⟩:=c1;obtain⟨l0,l1,l2,l3,l4,l5,l6,l7,l8,l9⟩:=c2)
     go_ret;exact⟨retB r.out.symm,hbw⟩
   ·have q4':¬ (il:Int)=(il2:Int):=by omega
    have r:=hid (show iM d d2=false by rw[hq.out,tG (f:=gG) (by rw[<-HL.out,<-He.out];exact q4)];simp);go_wp2_with (go_at_call 155;refine Hf.out.mono ?_;rintro e w1 ⟨rfl,hb1⟩;rw[<-hwb] at hb1;obtain⟨c1,c2,hbw,_,_⟩:=HC.out w1 hb1;clear e0 e1 e2 e3 e4 e5 e6 e7 e8 e9 f0 f1 f2 f3 f4 f5 f6 f7 f8 f9;obtain⟨j0,j1,j2,j3,j4,j5,j6,j7,j8,j9⟩:=c1;obtain⟨l0,l1,l2,l3,l4,l5,l6,l7,l8,l9⟩:=c2)
    go_ret;exact⟨retB r.out.symm,hbw⟩
  ·have r:=hid (show iM d d2=false by rw[hq.out];simp[*]);go_wp2_with (go_at_call 155;refine Hf.out.mono ?_;rintro e w1 ⟨rfl,hb1⟩;rw[<-hwb] at hb1;obtain⟨c1,c2,hbw,_,_⟩:=HC.out w1 hb1;clear e0 e1 e2 e3 e4 e5 e6 e7 e8 e9 f0 f1 f2 f3 f4 f5 f6 f7 f8 f9;obtain⟨j0,j1,j2,j3,j4,j5,j6,j7,j8,j9⟩:=c1;obtain⟨l0,l1,l2,l3,l4,l5,l6,l7,l8,l9⟩:=c2)
   go_ret;exact⟨retB r.out.symm,hbw⟩
 ·have r:=hid (show iM d d2=false by rw[hq.out];simp[*]);go_wp2_with (go_at_call 155;refine Hf.out.mono ?_;rintro e w1 ⟨rfl,hb1⟩;rw[<-hwb] at hb1;obtain⟨c1,c2,hbw,_,_⟩:=HC.out w1 hb1;clear e0 e1 e2 e3 e4 e5 e6 e7 e8 e9 f0 f1 f2 f3 f4 f5 f6 f7 f8 f9;obtain⟨j0,j1,j2,j3,j4,j5,j6,j7,j8,j9⟩:=c1;obtain⟨l0,l1,l2,l3,l4,l5,l6,l7,l8,l9⟩:=c2)
  go_ret;exact⟨retB r.out.symm,hbw⟩
end
section
open Go Go.RowKit Go.Shelf
def mU (d d2:Sta):Bool:=decide (d.n=d2.n)&&(decide (d.t=d2.t)&&eqL iM d.l d2.l)
theorem uE (a a2:Option Addr) (n c n2 c2:Nat) (l l2:List Slot) (w:World) (hd:IsRow slK (· < w.heap.size) w a n c l) (hd2:IsRow slK (· < w.heap.size) w a2 n2 c2 l2) :
 CP 43 #[.slice a n c,.slice a2 n2 c2] w (Rt (.bool (eqL iM l l2)) w):=by
 have hbig:=hd.big;have hbig2:=hd2.big;have HL:=hid hd.len;have He:=hid hd2.len;have HD:=hid hd;have Ho:=hid hd2;clear hd hd2;go_enter Tryz.func43,Tryz.ntmps43
 by_cases q2:n=n2
 ·subst q2;go_wp2
  go_loopw [5] (fun i wr=>∃k:Nat,k<=n/\i=I6 k/\(∀j (h1:j<l.length) (h2:j<l2.length),j<k->iM l[j] l2[j]=true)/\BB w wr) (fun i _=>n-(intOf i).toNat)
  case atStart=>exact⟨0,Nat.zero_le _,rfl,fun j _ _ h=>absurd h (Nat.not_lt_zero j),Below.refl _ _⟩
  case round =>
   obtain⟨k,hk,rfl,hall,hbr⟩:=hrel;have HA:=hid hall;clear hall;obtain⟨wp,rfl⟩:=ez (wr:World)
   have Hb:=hid hbr;have hn63:(n:Int)<=9223372036854775807:=by omega
   by_cases hlt:k<n
   ·have hkl:k<l.length:=by have:=HL.out;omega
    have hkl2:k<l2.length:=by have:=He.out;omega
    obtain⟨b,o,rfl,hb,hx⟩:=HD.out.slot (show 0<n by omega);obtain⟨b2,o2,rfl,hb2,hy⟩:=Ho.out.slot (show 0<n by omega);obtain⟨x,hxa,hxi⟩:=hx k hkl;obtain⟨y,hya,hyi⟩:=hy k hkl2;have hlt':(k:Int)<(n:Int):=by omega
    have hk0:(0:Int)<=(k:Int):=by omega
    obtain⟨u,hu⟩:=ez (iM l[k] l2[k])
    have Ha:Hid (∀w',BB wp w'->(w'.cell? ⟨b,o+k * 10,none⟩=some (I6 x.k.k)/\w'.cell? ⟨b,o+k * 10+1,none⟩=some (I6 x.k.i)/\w'.cell? ⟨b,o+k * 10+2,none⟩=some (I6 x.k.s)/\w'.cell? ⟨b,o+k * 10+3,none⟩=some (.string x.k.t)/\w'.cell? ⟨b,o+k * 10+4,none⟩=some (.slice x.k.la x.k.ll x.k.lc)/\w'.cell? ⟨b,o+k * 10+5,none⟩=some (.slice x.k.fa x.k.fl x.k.fc)/\w'.cell? ⟨b,o+k * 10+6,none⟩=some (I6 x.n)/\w'.cell? ⟨b,o+k * 10+7,none⟩=some (I6 x.t)/\w'.cell? ⟨b,o+k * 10+8,none⟩=some (.slice x.ia x.il x.ic)/\w'.cell? ⟨b,o+k * 10+9,none⟩=some (.slice x.va x.vl x.vc))/\(w'.cell? ⟨b2,o2+k * 10,none⟩=some (I6 y.k.k)/\w'.cell? ⟨b2,o2+k * 10+1,none⟩=some (I6 y.k.i)/\w'.cell? ⟨b2,o2+k * 10+2,none⟩=some (I6 y.k.s)/\w'.cell? ⟨b2,o2+k * 10+3,none⟩=some (.string y.k.t)/\w'.cell? ⟨b2,o2+k * 10+4,none⟩=some (.slice y.k.la y.k.ll y.k.lc)/\w'.cell? ⟨b2,o2+k * 10+5,none⟩=some (.slice y.k.fa y.k.fl y.k.fc)/\w'.cell? ⟨b2,o2+k * 10+6,none⟩=some (I6 y.n)/\w'.cell? ⟨b2,o2+k * 10+7,none⟩=some (I6 y.t)/\w'.cell? ⟨b2,o2+k * 10+8,none⟩=some (.slice y.ia y.il y.ic)/\w'.cell? ⟨b2,o2+k * 10+9,none⟩=some (.slice y.va y.vl y.vc))):=hid fun w' h=>by
     have hb':=Hb.out.trans (h.mono Hb.out.size);obtain⟨x0,x1,x2,x3,x4,x5,x6,x7,x8,x9⟩:=(hxa.same (hb'.block b hb)).slot;obtain⟨y0,y1,y2,y3,y4,y5,y6,y7,y8,y9⟩:=(hya.same (hb'.block b2 hb2)).slot;exact⟨⟨x0,x1,x2,x3,x4,x5,x6,x7,x8,x9⟩,⟨y0,y1,y2,y3,y4,y5,y6,y7,y8,y9⟩⟩
    have Hd:Hid (∀w',BB wp w'->CP 86 #[.agg #[I6 x.k.k,I6 x.k.i,I6 x.k.s,.string x.k.t,.slice x.k.la x.k.ll x.k.lc,.slice x.k.fa x.k.fl x.k.fc,I6 x.n,I6 x.t,.slice x.ia x.il x.ic,.slice x.va x.vl x.vc],.agg #[I6 y.k.k,I6 y.k.i,I6 y.k.s,.string y.k.t,.slice y.k.la y.k.ll y.k.lc,.slice y.k.fa y.k.fl y.k.fc,I6 y.n,I6 y.t,.slice y.ia y.il y.ic,.slice y.va y.vl y.vc]] w' (Rt (.bool u) w')):=hid fun w' h=>by
     rw[hu];have hb':=Hb.out.trans (h.mono Hb.out.size);have hs:=hb'.size;exact xD x y _ _ w' (slK.same (fun b q=>⟨by omega,hb'.block b q⟩) hxi) (slK.same (fun b q=>⟨by omega,hb'.block b q⟩) hyi)
    have HU:=hid hu;clear hx hy hu hxa hya hxi hyi hbr hb hb2;cases u with
    | false =>
      go_upto_region 6 with (fail)
      refine aG 10 (fun w'=>BB wp w') ge ge ge gc ((Below.refl _ _).drew) (fun hS=>?_);simp only[zdm,zdn,zdp,zdq];refine tc 0 Ha ?_;refine tc 1 Ha ?_;refine tc 2 Ha ?_;refine tc 3 Ha ?_;refine tc 4 Ha ?_;refine tc 5 Ha ?_;refine tc 6 Ha ?_;refine tc 7 Ha ?_;refine yr 8 fun K hK=>?_;go_simp;go_at_call 86;refine(Hd.out _ hS).mono ?_;rintro e w4 ⟨rfl,hb4⟩;refine hK.out _ _ (hS.trans (hb4.mono hS.size)) (fun hS=>?_);clear hK K
      (try simp only[Act.put,pq])
      refine tc 9 Ha ?_;refine wpAnyH_done ge ?_ _
      (try dsimp only)
      have hbz:=hS;go_wp2;go_ret;exact⟨retB (aC3 k hkl hkl2 HU.out.symm).symm,Hb.out.trans (hbz.mono Hb.out.size)⟩
    | true =>
      go_upto_region 6 with (fail)
      refine aG 10 (fun w'=>BB wp w') ge ge ge gc ((Below.refl _ _).drew) (fun hS=>?_);simp only[zdm,zdn,zdp,zdq];refine tc 0 Ha ?_;refine tc 1 Ha ?_;refine tc 2 Ha ?_;refine tc 3 Ha ?_;refine tc 4 Ha ?_;refine tc 5 Ha ?_;refine tc 6 Ha ?_;refine tc 7 Ha ?_;refine yr 8 fun K hK=>?_;go_simp;go_at_call 86;refine(Hd.out _ hS).mono ?_;rintro e w4 ⟨rfl,hb4⟩;refine hK.out _ _ (hS.trans (hb4.mono hS.size)) (fun hS=>?_);clear hK K
      (try simp only[Act.put,pq])
      refine tc 9 Ha ?_;refine wpAnyH_done ge ?_ _
      (try dsimp only)
      have Hh:=hid hS;clear hS;go_wp2
      go_roundw
      case rel=>exact⟨k+1,by omega,by go_num,fun j h1 h2 h=>by
       by_cases hjk:j<k
       ·exact HA.out j h1 h2 hjk
       ·obtain rfl:j=k:=by omega
        exact HU.out.symm,Hb.out.trans (Hh.out.mono Hb.out.size)⟩
      case measure=>simp[intOf];omega
   ·obtain rfl:k=n:=by omega
    have r:=hid (vU (f:=iM) (HL.out.symm.trans He.out) fun j h1 h2=>HA.out j h1 h2 (by have:=HL.out;omega));go_wp2;go_ret;exact⟨retB r.out.symm,Hb.out⟩
 ·have q2':¬ (n:Int)=(n2:Int):=by omega
  go_wp2;go_ret;exact⟨retB (tG (by rw[<-HL.out,<-He.out];exact q2)).symm,Below.refl _ _⟩
theorem aB4 (c c2:StC) (d d2:Sta) (w:World) (hd:IsSta (· < w.heap.size) w c d) (hd2:IsSta (· < w.heap.size) w c2 d2):CP 10 #[c.v,c2.v] w (Rt (.bool (mU d d2)) w):=by
 obtain⟨n,t,a,l,c⟩:=c;obtain⟨n2,t2,a2,l2,c2⟩:=c2;obtain⟨wb,hwb⟩:=ez (((w.alloc (.cells #[I6 n,I6 t,.slice a l c] 24)).alloc (.cells #[I6 n2,I6 t2,.slice a2 l2 c2] 24)))
 have hb0:BB w wb:=by rw[hwb];exact((bR w).alloc lr _).alloc gd _
 have g1:wb.heap[w.heap.size]?=some (.cells #[I6 n,I6 t,.slice a l c] 24):=by rw[hwb];exact aD _ (heap_alloc_new w _)
 have g2:wb.heap[w.heap.size+1]?=some (.cells #[I6 n2,I6 t2,.slice a2 l2 c2] 24):=by rw[hwb];exact aS _ _ _ gd
 obtain⟨u,hu⟩:=ez (eqL iM d.l d2.l)
 have hq:=hid (show mU d d2=(decide (n=n2)&&(decide (t=t2)&&u)) by rw[mU,<-hd.n,<-hd2.n,<-hd.t,<-hd2.t,hu]);have Hn:Hid (CP 43 #[.slice a l c,.slice a2 l2 c2] wb (Rt (.bool u) wb)):=hid (by
  rw[hu];have hs:=hb0.size;exact uE a a2 l c l2 c2 d.l d2.l wb (hd.l.same fun b q=>⟨by omega,hb0.block b q⟩) (hd2.l.same fun b q=>⟨by omega,hb0.block b q⟩))
 have x0:=aA g1 0;have x1:=aA g1 1;have x2:=aA g1 2;have y0:=aA g2 0;have y1:=aA g2 1;have y2:=aA g2 2
 (try dsimp only at x0 x1 x2 y0 y1 y2)
 rw[hwb] at x0 x1 x2 y0 y1 y2 Hn;have Hj:=hid hb0;have Hk:=hid hwb;clear hd hd2 hu g1 g2 hb0 hwb;dsimp only[StC.v];go_enter Tryz.func10,Tryz.ntmps10
 by_cases q1:n=n2
 ·subst q1;by_cases q2:t=t2
  ·subst q2;have r:=hid (show mU d d2=u by rw[hq.out];simp);go_wp2_with (go_at_call 43;refine Hn.out.mono ?_;rintro e w3 ⟨rfl,hb3⟩)
   go_ret;rw[<-Hk.out] at hb3;exact⟨retB r.out.symm,Hj.out.trans (hb3.mono Hj.out.size)⟩
  ·have r:=hid (show mU d d2=false by rw[hq.out];simp[*]);go_wp2;go_ret;exact⟨retB r.out.symm,by rw[<-Hk.out];exact Hj.out⟩
 ·have r:=hid (show mU d d2=false by rw[hq.out];simp[*]);go_wp2;go_ret;exact⟨retB r.out.symm,by rw[<-Hk.out];exact Hj.out⟩
end
end Go.Proofs.YtmgpghoamapfgaaGreatDoor
