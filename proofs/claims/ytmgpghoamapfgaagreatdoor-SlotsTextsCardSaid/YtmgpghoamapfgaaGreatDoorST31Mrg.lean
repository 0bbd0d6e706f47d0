/- A part. -/
import Derived.Test.YtmgpghoamapfgaaGreatDoorST30Mrg
namespace Go.Proofs.YtmgpghoamapfgaaGreatDoor
set_option linter.unusedVariables false
set_option maxRecDepth 100000
set_option maxHeartbeats 16000000
set_option linter.unusedSimpArgs false
open Go Go.RowKit Go.Shelf
def aNg:Option Val->Val->Int
 | none,_=>1
 | some p,x=>cN x p
def dG (l:List Slot):Nat->Option Val
 | 0=>none
 | k+1=>(l[k]?).map (·.k)
theorem eQ (l:List Slot) (k:Nat) (h:k<l.length):dG l (k+1)=some l[k].k:=by rw[dG,List.getElem?_eq_getElem h];rfl
def bH:Option Val->List Msg->Nat->List Slot->Int
 | _,_,_,[]=>0
 | prev,acc,nv,x :: r=>if aR x.k≠0/\cF x.k=false then aR x.k else if aNg prev x.k=0 then 7 else if aNg prev x.k = -1 then 24
   else if (aO acc nv x).1≠0 then (aO acc nv x).1 else bH (some x.k) (aO acc nv x).2.1 (aO acc nv x).2.2 r
def aM (d:Sta):Int:=if gP d.n d.t≠0 then gP d.n d.t else if 1024<d.l.length then 9 else bH none [] 0 d.l
theorem ChkAt.self {CT ME B cb:Nat} {w w':World} {acc:List Msg} {nv:Nat} {iv:Value} (h:ChkAt CT ME B cb w w' acc nv iv):ChkAt CT ME B cb w' w' acc nv iv:=⟨⟨Below.refl _ _,h.k.n,h.k.at'⟩,h.r,h.n,h.m,h.v⟩
theorem ChkAt.ext {CT ME B cb:Nat} {w w' w'':World} {acc:List Msg} {nv:Nat} {iv:Value} (h:ChkAt CT ME B cb w w' acc nv iv) (hb:BB w' w''):ChkAt CT ME B cb w'' w'' acc nv iv :=
 ⟨⟨Below.refl _ _,Nat.le_trans h.k.n hb.size,fun p hp=>aB hb (h.k.at' p hp)⟩,h.r.ext h.k.n hb,h.n,h.m,h.v⟩
def SlotPost' (B cb:Nat) (acc:List Msg) (nv:Nat) (d:Slot) (w:World) (v:Int) (e:Ending) (w':World):Prop :=
 e=.returned (I6 v)/\Below B w w'/\B<=w'.heap.size/\(v=0->∃iv,ChkAt 120 86 B cb w w' (aO acc nv d).2.1 (aO acc nv d).2.2 iv)
theorem slotPost'_of {B cb:Nat} {acc:List Msg} {nv:Nat} {d:Slot} {w:World} {v:Int} {e:Ending} {w':World} (h:aFd B cb acc nv d w e w') (hv:v=(aO acc nv d).1):SlotPost' B cb acc nv d w v e w':=by
 subst hv;exact h
theorem fH (c:StC) (d:Sta) (w:World) (hd:IsSta (· < w.heap.size) w c d) (hT:Tabs w):CP 29 #[c.v] w (Rt (I6 (aM d)) w):=by
 obtain⟨sn,st,a,sl,sc⟩:=c;have hbig:=hd.l.big;have HL:=hid hd.l.len;have HDL:=hid hd.l;have HT:=hid hT;have HNT:=hid (And.intro hd.n hd.t);dsimp only at hbig HL HDL HNT;obtain⟨wb,hwb⟩:=ez ((w.alloc (.cells #[I6 sn,I6 st,.slice a sl sc] 24)).alloc (.cells #[.slice none 0 0,I6 0] 120))
 have hb0:BB w wb:=by rw[hwb];exact((bR w).alloc lr _).alloc gd _
 have hsb:wb.heap.size=w.heap.size+2:=by rw[hwb];simp
 have g1:wb.heap[w.heap.size]?=some (.cells #[I6 sn,I6 st,.slice a sl sc] 24):=by rw[hwb];exact aD _ (heap_alloc_new w _)
 have g2:wb.heap[w.heap.size+1]?=some (.cells #[.slice none 0 0,I6 0] 120):=by rw[hwb];exact aS _ _ _ gd
 have hck0:ChkAt 120 86 (w.heap.size+1) (w.heap.size+1) wb wb [] 0 (.slice none 0 0):=⟨⟨Below.refl _ _,by omega,fun p hp=>by simp only[List.mem_cons,List.not_mem_nil,or_false] at hp;rw[hp];exact g2⟩,Kept.nil _ _ _,(fun r e=>by cases e),gd,ga⟩
 have HBOX:=hid (heap_alloc_new w (.cells #[I6 sn,I6 st,.slice a sl sc] 24));have HWB:=hid hwb;have HB0:=hid hb0;have G1:=hid g1;have HCK0:=hid hck0;have HSB:=hid hsb;clear hd hT hwb hb0 hsb g1 g2 hck0;have k0:=aA HBOX.out 0;have k1:=aA HBOX.out 1;have k2:=aA HBOX.out 2
 (try dsimp only at k0 k1 k2)
 dsimp only[StC.v];go_enter Tryz.func29,Tryz.ntmps29
 obtain⟨u,hu⟩:=ez (gP sn st)
 have HU:=hid hu;have HNU:Hid (∀w',CP 65 #[I6 sn,I6 st] w' fun e w2=>e=.returned (I6 u)/\w'=w2):=hid fun w'=>by rw[hu];exact qB sn st w'
 clear hu;by_cases hu0:u=0
 case neg =>
  have r:=hid (show aM d=u by rw[aM,<-HNT.out.1,<-HNT.out.2,<-HU.out,if_pos hu0]);go_wp2_with (go_at_call 65;refine(HNU.out _).mono ?_;rintro e w2 ⟨rfl,rfl⟩)
  go_ret;exact⟨retI r.out.symm,(bR w).alloc lr _⟩
 case pos =>
 subst hu0;by_cases hbl:1024<sl
 ·have hbl':(1024:Int)<(sl:Int):=by omega
  have r:=hid (show aM d=9 by rw[aM,<-HNT.out.1,<-HNT.out.2,<-HU.out,if_neg gc,if_pos (by rw[<-HL.out];exact hbl)]);go_wp2_with (go_at_call 65;refine(HNU.out _).mono ?_;rintro e w2 ⟨rfl,rfl⟩)
  go_ret;exact⟨retI r.out.symm,(bR w).alloc lr _⟩
 have hbl':¬ (1024:Int)<(sl:Int):=by omega
 have R0:=hid (show aM d=bH none [] 0 d.l by rw[aM,<-HNT.out.1,<-HNT.out.2,<-HU.out,if_neg gc,if_neg (by rw[<-HL.out];exact hbl)]);go_wp2_with (go_at_call 65;refine(HNU.out _).mono ?_;rintro e w2 ⟨rfl,rfl⟩)
 clear k0 k1 k2 HNU HU HNT HBOX;rw[<-HWB.out]
 go_loopw [24] (fun i wr=>∃(k:Nat) (acc:List Msg) (nv:Nat) (iv:Value),k<=sl/\i=I6 k/\ChkAt 120 86 (w.heap.size+1) (w.heap.size+1) wr wr acc nv iv/\Below (w.heap.size+1) wb wr/\bH none [] 0 d.l=bH (dG d.l k) acc nv (d.l.drop k)) (fun i _=>sl-(intOf i).toNat)
 case atStart=>exact⟨0,[],0,_,Nat.zero_le _,rfl,HCK0.out,Below.refl _ _,by rw[List.drop_zero];rfl⟩
 case round =>
 obtain⟨k,acc,nv,iv,hks,rfl,hck,hbwp,hit⟩:=hrel;obtain⟨wp,rfl⟩:=ez (wr:World)
 have HIT:=hid hit;have HCK:=hid hck;have HBWP:=hid hbwp;have hsz:w.heap.size+2<=wp.heap.size:=by have:=HSB.out;have:=hbwp.size;omega
 clear hit hck HCK0;by_cases hlt:k<sl
 ·have hkl:k<d.l.length:=by have:=HL.out;omega
  obtain⟨b,o,rfl,hb,hx⟩:=HDL.out.slot (show 0<sl by omega);obtain⟨x,hxa,hxi⟩:=hx k hkl;have hbw:BB w wp:=HB0.out.trans (hbwp.mono ga);obtain⟨x0,x1,x2,x3,x4,x5,x6,x7,x8,x9⟩:=(hxa.same (hbw.block b hb)).slot;have hlt':(k:Int)<(sl:Int):=by omega
  have hk0:(0:Int)<=(k:Int):=by omega
  have hsl:(sl:Int)<=1024:=by omega
  have HB:=hid hb;have HX:=hid hx;have HXI:=hid hxi;have HBA:=hid (show Below (w.heap.size+1) wp (wp.alloc (oS x 66)) from(Below.refl _ wp).alloc ga _);have HBA2:=hid (show BB wp (wp.alloc (oS x 66)) from(Below.refl _ wp).alloc lr _);have HSA:=hid (show w.heap.size+1<=(wp.alloc (oS x 66)).heap.size by simp;omega)
  have HC:Hid (∀w',BB (wp.alloc (oS x 66)) w'->(Ce w' w.heap.size 0 (I6 sn)/\Ce w' w.heap.size 1 (I6 st)/\Ce w' w.heap.size 2 (.slice (some ⟨b,o,none⟩) sl sc))/\(Ce w' wp.heap.size 0 (I6 x.k.k)/\Ce w' wp.heap.size 1 (I6 x.k.i)/\Ce w' wp.heap.size 2 (I6 x.k.s)/\Ce w' wp.heap.size 3 (.string x.k.t)/\Ce w' wp.heap.size 4 (.slice x.k.la x.k.ll x.k.lc)/\Ce w' wp.heap.size 5 (.slice x.k.fa x.k.fl x.k.fc)/\Ce w' wp.heap.size 6 (I6 x.n)/\Ce w' wp.heap.size 7 (I6 x.t)/\Ce w' wp.heap.size 8 (.slice x.ia x.il x.ic)/\Ce w' wp.heap.size 9 (.slice x.va x.vl x.vc))):=hid fun w' h=>by
   have h1:=aB h (heap_alloc_new wp (oS x 66));have h2:=aB h (aD (oS x 66) (gA hbwp G1.out ga));exact⟨⟨aA h2 0,aA h2 1,aA h2 2⟩,aA h1 0,aA h1 1,aA h1 2,aA h1 3,aA h1 4,aA h1 5,aA h1 6,aA h1 7,aA h1 8,aA h1 9⟩
  have hbwa:BB w (wp.alloc (oS x 66)):=hbw.alloc hbw.size _;obtain⟨v,hv⟩:=ez (aR d.l[k].k)
  obtain⟨z,hz⟩:=ez (cF d.l[k].k)
  have HVC:Hid (CP 66 #[.agg #[I6 x.k.k,I6 x.k.i,I6 x.k.s,.string x.k.t,.slice x.k.la x.k.ll x.k.lc,.slice x.k.fa x.k.fl x.k.fc]] (wp.alloc (oS x 66)) fun e w'=>e=.returned (I6 v)/\BB (wp.alloc (oS x 66)) w'):=hid (by rw[hv];exact iG x.k _ _ (hxi.k.same fun b q=>⟨Nat.lt_of_lt_of_le q hbwa.size,hbwa.block b q⟩) (HT.out.below hbwa));have HIS:Hid (∀w',BB (wp.alloc (oS x 66)) w'->CP 67 #[.agg #[I6 x.k.k,I6 x.k.i,I6 x.k.s,.string x.k.t,.slice x.k.la x.k.ll x.k.lc,.slice x.k.fa x.k.fl x.k.fc]] w' (Rt (.bool z) w')):=hid fun w' _=>by rw[hz,gX hxi.k];exact bN _ _ _ _ _ _ _ _ _ _ w'
  have HV:=hid hv;have HZ:=hid hz;clear hxa hxi hx hb hbw hbwa hv hz hbwp;obtain⟨⟨q0,q1,q2⟩,m0,m1,m2,m3,m4,m5,m6,m7,m8,m9⟩:=HC.out _ (Below.refl _ _);by_cases hv0:v=0
  ·subst hv0;have HKEY:=hid (show ¬ (aR d.l[k].k≠0/\cF d.l[k].k=false) from fun h=>h.1 HV.out.symm);by_cases hkz:k=0
   ·have hkf:decide ((0:Int)<(k:Int))=false:=by simp;omega
    have hkf2:decide (0<k)=false:=by simp;omega
    have HKZ:=hid (show dG d.l k=none by rw[hkz,dG]);clear hkz;have HNEXT:=hid (show bH (dG d.l k) acc nv (d.l.drop k)=if (aO acc nv d.l[k]).1≠0 then (aO acc nv d.l[k]).1 else bH (some d.l[k].k) (aO acc nv d.l[k]).2.1 (aO acc nv d.l[k]).2.2 (d.l.drop (k+1)) by
     rw[List.drop_eq_getElem_cons hkl,bH,if_neg HKEY.out,if_neg (by rw[HKZ.out];exact(show ¬ (1:Int)=0 by decide)),if_neg (by rw[HKZ.out];exact(show ¬ (1:Int) = -1 by decide))])
    obtain⟨v2,hv2⟩:=ez ((aO acc nv d.l[k]).1)
    have HSL:Hid (∀w',BB (wp.alloc (oS x 66)) w'->CP 69 #[.pointer (some ⟨w.heap.size+1,0,none⟩),.agg #[I6 x.k.k,I6 x.k.i,I6 x.k.s,.string x.k.t,.slice x.k.la x.k.ll x.k.lc,.slice x.k.fa x.k.fl x.k.fc,I6 x.n,I6 x.t,.slice x.ia x.il x.ic,.slice x.va x.vl x.vc]] w' (SlotPost' (w.heap.size+1) (w.heap.size+1) acc nv d.l[k] w' v2)):=hid fun w' h=>(nV w HT.out (w.heap.size+1) (w.heap.size+1) x d.l[k] acc nv iv w' (HB0.out.trans ((HBWP.out.trans (HBA.out.trans (h.mono HSA.out))).mono ga)) ga lr (HXI.out.same fun b q=>⟨by omega,(HB0.out.trans ((HBWP.out.trans (HBA.out.trans (h.mono HSA.out))).mono ga)).block b q⟩) (HCK.out.ext (HBA2.out.trans (h.mono gd)))).mono fun e w2 h=>slotPost'_of h hv2
    have HV2:=hid hv2;clear hv2;by_cases hv20:v2=0
    ·subst hv20;have hnext:=hid (HNEXT.out.trans (if_neg (fun h=>h HV2.out.symm)));go_wp2_with (first
                 | (go_at_call 69;refine(HSL.out _ hb3).mono ?_;rintro e w5 ⟨rfl,hb5,hn5,hc5⟩)
                 | (go_at_call 66;refine HVC.out.mono ?_;rintro e w3 ⟨rfl,hb3⟩;clear q0 q1 q2 m0 m1 m2 m3 m4 m5 m6 m7 m8 m9;obtain⟨⟨q0,q1,q2⟩,m0,m1,m2,m3,m4,m5,m6,m7,m8,m9⟩:=HC.out _ (hb3)))
     go_roundw
     case rel =>
      obtain⟨iv5,hck5⟩:=hc5 (by first | rfl | trivial);exact⟨k+1,(aO acc nv d.l[k]).2.1,(aO acc nv d.l[k]).2.2,iv5,by omega,by go_num,hck5.self,HBWP.out.trans ((HBA.out.trans (hb3.mono HSA.out)).trans hb5),by rw[HIT.out,hnext.out,eQ d.l k hkl]⟩
     case measure=>simp[intOf];omega
    ·have r:=hid (show aM d=v2 by rw[R0.out,HIT.out,HNEXT.out,if_pos (by rw[<-HV2.out];exact hv20),HV2.out]);go_wp2_with (first
                 | (go_at_call 69;refine(HSL.out _ hb3).mono ?_;rintro e w5 ⟨rfl,hb5,hn5,hc5⟩)
                 | (go_at_call 66;refine HVC.out.mono ?_;rintro e w3 ⟨rfl,hb3⟩;clear q0 q1 q2 m0 m1 m2 m3 m4 m5 m6 m7 m8 m9;obtain⟨⟨q0,q1,q2⟩,m0,m1,m2,m3,m4,m5,m6,m7,m8,m9⟩:=HC.out _ (hb3)))
     go_ret;exact⟨retI r.out.symm,HB0.out.trans ((HBWP.out.trans ((HBA.out.trans (hb3.mono HSA.out)).trans hb5)).mono ga)⟩
   ·obtain⟨k1,hk1⟩:∃k1,k=k1+1:=⟨k-1,by omega⟩
    have hwr:IntKind.i64.wrap ((k:Int)-1)=(k:Int)-1:=IntWalk.i64_in _ ga;have hk1':(0:Int)<=(k:Int)-1:=by omega
    have hk1'':(1:Int)<=(k:Int):=by omega
    have hk1N:1<=k:=by omega
    have hk2':(k:Int)-1<(sl:Int):=by omega
    have hkt:k-1=k1:=by omega
    have hkf:decide ((0:Int)<(k:Int))=true:=by simp;omega
    have hkf2:decide (0<k)=true:=by simp;omega
    have hk1l:k1<d.l.length:=by omega
    obtain⟨y,hya,hyi⟩:=HX.out k1 hk1l;obtain⟨cc,hcc⟩:=ez (cN d.l[k].k d.l[k1].k)
    have HPK:dG d.l k=some d.l[k1].k:=by rw[show dG d.l k=dG d.l (k1+1) by rw[hk1]];exact eQ d.l k1 hk1l
    have HCC:=hid (show cc=aNg (dG d.l k) d.l[k].k by rw[hcc,HPK];rfl);clear HPK;have HY:Hid (∀w',BB (wp.alloc (oS x 66)) w'->w'.cell? ⟨b,o+(k-1) * 10,none⟩=some (I6 y.k.k)/\w'.cell? ⟨b,o+(k-1) * 10+1,none⟩=some (I6 y.k.i)/\w'.cell? ⟨b,o+(k-1) * 10+2,none⟩=some (I6 y.k.s)/\w'.cell? ⟨b,o+(k-1) * 10+3,none⟩=some (.string y.k.t)/\w'.cell? ⟨b,o+(k-1) * 10+4,none⟩=some (.slice y.k.la y.k.ll y.k.lc)/\w'.cell? ⟨b,o+(k-1) * 10+5,none⟩=some (.slice y.k.fa y.k.fl y.k.fc)):=hid fun w' h=>by
     have hw:=HB0.out.trans ((HBWP.out.trans (HBA.out.trans (h.mono HSA.out))).mono ga);rw[hkt];obtain⟨y0,y1,y2,y3,y4,y5,_⟩:=(hya.same (hw.block b HB.out)).slot;exact⟨y0,y1,y2,y3,y4,y5⟩
    have HCMP:Hid (∀w',BB (wp.alloc (oS x 66)) w'->CP 68 #[.agg #[I6 x.k.k,I6 x.k.i,I6 x.k.s,.string x.k.t,.slice x.k.la x.k.ll x.k.lc,.slice x.k.fa x.k.fl x.k.fc],.agg #[I6 y.k.k,I6 y.k.i,I6 y.k.s,.string y.k.t,.slice y.k.la y.k.ll y.k.lc,.slice y.k.fa y.k.fl y.k.fc]] w' (Rt (I6 cc) w')):=hid fun w' h=>by
     have hw:=HB0.out.trans ((HBWP.out.trans (HBA.out.trans (h.mono HSA.out))).mono ga);have hs:=hw.size;rw[hcc];exact gK x.k y.k _ _ w' (HXI.out.k.same fun b q=>⟨by omega,hw.block b q⟩) (hyi.k.same fun b q=>⟨by omega,hw.block b q⟩)
    clear hya hyi hcc hk1 hkz hkt hk1l;go_upto_region 14 with (go_at_call 66;refine HVC.out.mono ?_;rintro e w3 ⟨rfl,hb3⟩;clear q0 q1 q2 m0 m1 m2 m3 m4 m5 m6 m7 m8 m9;obtain⟨⟨q0,q1,q2⟩,m0,m1,m2,m3,m4,m5,m6,m7,m8,m9⟩:=HC.out _ (hb3))
    have HC4:Hid (∀w',BB w3 w'->(Ce w' w.heap.size 2 (.slice (some ⟨b,o,none⟩) sl sc))/\(Ce w' wp.heap.size 0 (I6 x.k.k)/\Ce w' wp.heap.size 1 (I6 x.k.i)/\Ce w' wp.heap.size 2 (I6 x.k.s)/\Ce w' wp.heap.size 3 (.string x.k.t)/\Ce w' wp.heap.size 4 (.slice x.k.la x.k.ll x.k.lc)/\Ce w' wp.heap.size 5 (.slice x.k.fa x.k.fl x.k.fc)/\Ce w' wp.heap.size 6 (I6 x.n)/\Ce w' wp.heap.size 7 (I6 x.t)/\Ce w' wp.heap.size 8 (.slice x.ia x.il x.ic)/\Ce w' wp.heap.size 9 (.slice x.va x.vl x.vc))/\(w'.cell? ⟨b,o+(k-1) * 10,none⟩=some (I6 y.k.k)/\w'.cell? ⟨b,o+(k-1) * 10+1,none⟩=some (I6 y.k.i)/\w'.cell? ⟨b,o+(k-1) * 10+2,none⟩=some (I6 y.k.s)/\w'.cell? ⟨b,o+(k-1) * 10+3,none⟩=some (.string y.k.t)/\w'.cell? ⟨b,o+(k-1) * 10+4,none⟩=some (.slice y.k.la y.k.ll y.k.lc)/\w'.cell? ⟨b,o+(k-1) * 10+5,none⟩=some (.slice y.k.fa y.k.fl y.k.fc))):=hid fun w' h=>by
     have h1:=HC.out w' (hb3.trans (h.mono hb3.size));obtain⟨⟨q0,q1,q2⟩,m0,m1,m2,m3,m4,m5,m6,m7,m8,m9⟩:=h1;have h2:=HY.out w' (hb3.trans (h.mono hb3.size));exact⟨q2,⟨m0,m1,m2,m3,m4,m5,m6,m7,m8,m9⟩,h2⟩
    have HCP:Hid (∀w',BB w3 w'->CP 68 #[.agg #[I6 x.k.k,I6 x.k.i,I6 x.k.s,.string x.k.t,.slice x.k.la x.k.ll x.k.lc,.slice x.k.fa x.k.fl x.k.fc],.agg #[I6 y.k.k,I6 y.k.i,I6 y.k.s,.string y.k.t,.slice y.k.la y.k.ll y.k.lc,.slice y.k.fa y.k.fl y.k.fc]] w' (Rt (I6 cc) w')):=hid fun w' h=>HCMP.out w' (hb3.trans (h.mono hb3.size));clear q0 q1 q2 m0 m1 m2 m3 m4 m5 m6 m7 m8 m9;refine aG 10 (fun w'=>BB w3 w') ge ge ge gc ((Below.refl _ _).drew) (fun hS=>?_);simp only[zdm,zdn,zdp,zdq]
    refine tc 0 HC4 ?_;refine tc 1 HC4 ?_;refine tc 2 HC4 ?_;refine tc 3 HC4 ?_;refine tc 4 HC4 ?_;refine tc 5 HC4 ?_;refine tc 6 HC4 ?_;refine tc 7 HC4 ?_;refine tc 8 HC4 ?_;refine yr 9 fun K hK=>?_;go_simp;go_at_call 68;refine(HCP.out _ hS).mono ?_;rintro e w4 ⟨rfl,hb4'⟩;refine hK.out _ _ (hS.trans (hb4'.mono hS.size)) (fun hS=>?_);clear hK K
    (try simp only[Act.put,pq])
    refine wpAnyH_done ge ?_ _
    (try dsimp only)
    have hb4:=hb3.trans (hS.mono hb3.size);have hc4:=HC.out _ hb4;clear hS HC4 HCP hb4';obtain⟨⟨q0,q1,q2⟩,m0,m1,m2,m3,m4,m5,m6,m7,m8,m9⟩:=hc4;clear q0 q1 q2;by_cases c0:cc=0
    ·have c0':(cc==0)=true:=by simp[c0]
     have r:=hid (show aM d=7 by rw[R0.out,HIT.out,List.drop_eq_getElem_cons hkl,bH,if_neg HKEY.out,<-HCC.out,if_pos c0]);go_wp2;go_ret;exact⟨retI r.out.symm,HB0.out.trans ((HBWP.out.trans (HBA.out.trans (hb4.mono HSA.out))).mono ga)⟩
    by_cases c1:cc = -1
    ·have c1':(cc == -1)=true:=by simp[c1]
     have c0':(cc==0)=false:=by simp[c0]
     have r:=hid (show aM d=24 by rw[R0.out,HIT.out,List.drop_eq_getElem_cons hkl,bH,if_neg HKEY.out,<-HCC.out,if_neg c0,if_pos c1]);go_wp2;go_ret;exact⟨retI r.out.symm,HB0.out.trans ((HBWP.out.trans (HBA.out.trans (hb4.mono HSA.out))).mono ga)⟩
    have c0':(cc==0)=false:=by simp[c0]
    have c1':(cc == -1)=false:=by simp[c1]
    have HNEXT:=hid (show bH (dG d.l k) acc nv (d.l.drop k)=if (aO acc nv d.l[k]).1≠0 then (aO acc nv d.l[k]).1 else bH (some d.l[k].k) (aO acc nv d.l[k]).2.1 (aO acc nv d.l[k]).2.2 (d.l.drop (k+1)) by rw[List.drop_eq_getElem_cons hkl,bH,if_neg HKEY.out,<-HCC.out,if_neg c0,if_neg c1]);obtain⟨v2,hv2⟩:=ez ((aO acc nv d.l[k]).1)
    have HSL:Hid (∀w',BB (wp.alloc (oS x 66)) w'->CP 69 #[.pointer (some ⟨w.heap.size+1,0,none⟩),.agg #[I6 x.k.k,I6 x.k.i,I6 x.k.s,.string x.k.t,.slice x.k.la x.k.ll x.k.lc,.slice x.k.fa x.k.fl x.k.fc,I6 x.n,I6 x.t,.slice x.ia x.il x.ic,.slice x.va x.vl x.vc]] w' (SlotPost' (w.heap.size+1) (w.heap.size+1) acc nv d.l[k] w' v2)):=hid fun w' h=>(nV w HT.out (w.heap.size+1) (w.heap.size+1) x d.l[k] acc nv iv w' (HB0.out.trans ((HBWP.out.trans (HBA.out.trans (h.mono HSA.out))).mono ga)) ga lr (HXI.out.same fun b q=>⟨by omega,(HB0.out.trans ((HBWP.out.trans (HBA.out.trans (h.mono HSA.out))).mono ga)).block b q⟩) (HCK.out.ext (HBA2.out.trans (h.mono gd)))).mono fun e w2 h=>slotPost'_of h hv2
    have HV2:=hid hv2;clear hv2;by_cases hv20:v2=0
    ·subst hv20;have hnext:=hid (HNEXT.out.trans (if_neg (fun h=>h HV2.out.symm)));go_wp2_with (go_at_call 69;refine(HSL.out _ hb4).mono ?_;rintro e w5 ⟨rfl,hb5,hn5,hc5⟩)
     go_roundw
     case rel =>
      obtain⟨iv5,hck5⟩:=hc5 (by first | rfl | trivial);exact⟨k+1,(aO acc nv d.l[k]).2.1,(aO acc nv d.l[k]).2.2,iv5,by omega,by go_num,hck5.self,HBWP.out.trans ((HBA.out.trans (hb4.mono HSA.out)).trans hb5),by rw[HIT.out,hnext.out,eQ d.l k hkl]⟩
     case measure=>simp[intOf];omega
    ·have r:=hid (show aM d=v2 by rw[R0.out,HIT.out,HNEXT.out,if_pos (by rw[<-HV2.out];exact hv20),HV2.out]);go_wp2_with (go_at_call 69;refine(HSL.out _ hb4).mono ?_;rintro e w5 ⟨rfl,hb5,hn5,hc5⟩)
     go_ret;exact⟨retI r.out.symm,HB0.out.trans ((HBWP.out.trans ((HBA.out.trans (hb4.mono HSA.out)).trans hb5)).mono ga)⟩
  cases z with
  | false =>
    have r:=hid (show aM d=v by rw[R0.out,HIT.out,List.drop_eq_getElem_cons hkl,bH,if_pos ⟨by rw[<-HV.out];exact hv0,HZ.out.symm⟩,HV.out]);go_wp2_with (first
                | (go_at_call 67;refine(HIS.out _ hb2).mono ?_;rintro e w3 ⟨rfl,hb3'⟩;have hb3:=hb2.trans (hb3'.mono hb2.size))
                | (go_at_call 66;refine HVC.out.mono ?_;rintro e w2 ⟨rfl,hb2⟩;clear q0 q1 q2 m0 m1 m2 m3 m4 m5 m6 m7 m8 m9;obtain⟨⟨q0,q1,q2⟩,m0,m1,m2,m3,m4,m5,m6,m7,m8,m9⟩:=HC.out _ (hb2)))
    go_ret;exact⟨retI r.out.symm,HB0.out.trans ((HBWP.out.trans (HBA.out.trans (hb3.mono HSA.out))).mono ga)⟩
  | true =>
    have HKEY:=hid (show ¬ (aR d.l[k].k≠0/\cF d.l[k].k=false) from fun h=>by rw[<-HZ.out] at h;cases h.2);by_cases hkz:k=0
    ·have hkf:decide ((0:Int)<(k:Int))=false:=by simp;omega
     have hkf2:decide (0<k)=false:=by simp;omega
     have HKZ:=hid (show dG d.l k=none by rw[hkz,dG]);clear hkz;have HNEXT:=hid (show bH (dG d.l k) acc nv (d.l.drop k)=if (aO acc nv d.l[k]).1≠0 then (aO acc nv d.l[k]).1 else bH (some d.l[k].k) (aO acc nv d.l[k]).2.1 (aO acc nv d.l[k]).2.2 (d.l.drop (k+1)) by
      rw[List.drop_eq_getElem_cons hkl,bH,if_neg HKEY.out,if_neg (by rw[HKZ.out];exact(show ¬ (1:Int)=0 by decide)),if_neg (by rw[HKZ.out];exact(show ¬ (1:Int) = -1 by decide))])
     obtain⟨v2,hv2⟩:=ez ((aO acc nv d.l[k]).1)
     have HSL:Hid (∀w',BB (wp.alloc (oS x 66)) w'->CP 69 #[.pointer (some ⟨w.heap.size+1,0,none⟩),.agg #[I6 x.k.k,I6 x.k.i,I6 x.k.s,.string x.k.t,.slice x.k.la x.k.ll x.k.lc,.slice x.k.fa x.k.fl x.k.fc,I6 x.n,I6 x.t,.slice x.ia x.il x.ic,.slice x.va x.vl x.vc]] w' (SlotPost' (w.heap.size+1) (w.heap.size+1) acc nv d.l[k] w' v2)):=hid fun w' h=>(nV w HT.out (w.heap.size+1) (w.heap.size+1) x d.l[k] acc nv iv w' (HB0.out.trans ((HBWP.out.trans (HBA.out.trans (h.mono HSA.out))).mono ga)) ga lr (HXI.out.same fun b q=>⟨by omega,(HB0.out.trans ((HBWP.out.trans (HBA.out.trans (h.mono HSA.out))).mono ga)).block b q⟩) (HCK.out.ext (HBA2.out.trans (h.mono gd)))).mono fun e w2 h=>slotPost'_of h hv2
     have HV2:=hid hv2;clear hv2;by_cases hv20:v2=0
     ·subst hv20;have hnext:=hid (HNEXT.out.trans (if_neg (fun h=>h HV2.out.symm)));go_wp2_with (first
                  | (go_at_call 69;refine(HSL.out _ hb3).mono ?_;rintro e w5 ⟨rfl,hb5,hn5,hc5⟩)
                  | (go_at_call 67;refine(HIS.out _ hb2).mono ?_;rintro e w3 ⟨rfl,hb3'⟩;have hb3:=hb2.trans (hb3'.mono hb2.size);clear q0 q1 q2 m0 m1 m2 m3 m4 m5 m6 m7 m8 m9;obtain⟨⟨q0,q1,q2⟩,m0,m1,m2,m3,m4,m5,m6,m7,m8,m9⟩:=HC.out _ (hb3))
                  | (go_at_call 66;refine HVC.out.mono ?_;rintro e w2 ⟨rfl,hb2⟩;clear q0 q1 q2 m0 m1 m2 m3 m4 m5 m6 m7 m8 m9;obtain⟨⟨q0,q1,q2⟩,m0,m1,m2,m3,m4,m5,m6,m7,m8,m9⟩:=HC.out _ (hb2)))
      go_roundw
      case rel =>
       obtain⟨iv5,hck5⟩:=hc5 (by first | rfl | trivial);exact⟨k+1,(aO acc nv d.l[k]).2.1,(aO acc nv d.l[k]).2.2,iv5,by omega,by go_num,hck5.self,HBWP.out.trans ((HBA.out.trans (hb3.mono HSA.out)).trans hb5),by rw[HIT.out,hnext.out,eQ d.l k hkl]⟩
      case measure=>simp[intOf];omega
     ·have r:=hid (show aM d=v2 by rw[R0.out,HIT.out,HNEXT.out,if_pos (by rw[<-HV2.out];exact hv20),HV2.out]);go_wp2_with (first
                  | (go_at_call 69;refine(HSL.out _ hb3).mono ?_;rintro e w5 ⟨rfl,hb5,hn5,hc5⟩)
                  | (go_at_call 67;refine(HIS.out _ hb2).mono ?_;rintro e w3 ⟨rfl,hb3'⟩;have hb3:=hb2.trans (hb3'.mono hb2.size);clear q0 q1 q2 m0 m1 m2 m3 m4 m5 m6 m7 m8 m9;obtain⟨⟨q0,q1,q2⟩,m0,m1,m2,m3,m4,m5,m6,m7,m8,m9⟩:=HC.out _ (hb3))
                  | (go_at_call 66;refine HVC.out.mono ?_;rintro e w2 ⟨rfl,hb2⟩;clear q0 q1 q2 m0 m1 m2 m3 m4 m5 m6 m7 m8 m9;obtain⟨⟨q0,q1,q2⟩,m0,m1,m2,m3,m4,m5,m6,m7,m8,m9⟩:=HC.out _ (hb2)))
      go_ret;exact⟨retI r.out.symm,HB0.out.trans ((HBWP.out.trans ((HBA.out.trans (hb3.mono HSA.out)).trans hb5)).mono ga)⟩
    ·obtain⟨k1,hk1⟩:∃k1,k=k1+1:=⟨k-1,by omega⟩
     have hwr:IntKind.i64.wrap ((k:Int)-1)=(k:Int)-1:=IntWalk.i64_in _ ga;have hk1':(0:Int)<=(k:Int)-1:=by omega
     have hk1'':(1:Int)<=(k:Int):=by omega
     have hk1N:1<=k:=by omega
     have hk2':(k:Int)-1<(sl:Int):=by omega
     have hkt:k-1=k1:=by omega
     have hkf:decide ((0:Int)<(k:Int))=true:=by simp;omega
     have hkf2:decide (0<k)=true:=by simp;omega
     have hk1l:k1<d.l.length:=by omega
     obtain⟨y,hya,hyi⟩:=HX.out k1 hk1l;obtain⟨cc,hcc⟩:=ez (cN d.l[k].k d.l[k1].k)
     have HPK:dG d.l k=some d.l[k1].k:=by rw[show dG d.l k=dG d.l (k1+1) by rw[hk1]];exact eQ d.l k1 hk1l
     have HCC:=hid (show cc=aNg (dG d.l k) d.l[k].k by rw[hcc,HPK];rfl);clear HPK;have HY:Hid (∀w',BB (wp.alloc (oS x 66)) w'->w'.cell? ⟨b,o+(k-1) * 10,none⟩=some (I6 y.k.k)/\w'.cell? ⟨b,o+(k-1) * 10+1,none⟩=some (I6 y.k.i)/\w'.cell? ⟨b,o+(k-1) * 10+2,none⟩=some (I6 y.k.s)/\w'.cell? ⟨b,o+(k-1) * 10+3,none⟩=some (.string y.k.t)/\w'.cell? ⟨b,o+(k-1) * 10+4,none⟩=some (.slice y.k.la y.k.ll y.k.lc)/\w'.cell? ⟨b,o+(k-1) * 10+5,none⟩=some (.slice y.k.fa y.k.fl y.k.fc)):=hid fun w' h=>by
      have hw:=HB0.out.trans ((HBWP.out.trans (HBA.out.trans (h.mono HSA.out))).mono ga);rw[hkt];obtain⟨y0,y1,y2,y3,y4,y5,_⟩:=(hya.same (hw.block b HB.out)).slot;exact⟨y0,y1,y2,y3,y4,y5⟩
     have HCMP:Hid (∀w',BB (wp.alloc (oS x 66)) w'->CP 68 #[.agg #[I6 x.k.k,I6 x.k.i,I6 x.k.s,.string x.k.t,.slice x.k.la x.k.ll x.k.lc,.slice x.k.fa x.k.fl x.k.fc],.agg #[I6 y.k.k,I6 y.k.i,I6 y.k.s,.string y.k.t,.slice y.k.la y.k.ll y.k.lc,.slice y.k.fa y.k.fl y.k.fc]] w' (Rt (I6 cc) w')):=hid fun w' h=>by
      have hw:=HB0.out.trans ((HBWP.out.trans (HBA.out.trans (h.mono HSA.out))).mono ga);have hs:=hw.size;rw[hcc];exact gK x.k y.k _ _ w' (HXI.out.k.same fun b q=>⟨by omega,hw.block b q⟩) (hyi.k.same fun b q=>⟨by omega,hw.block b q⟩)
     clear hya hyi hcc hk1 hkz hkt hk1l;go_upto_region 14 with (first
      | (go_at_call 67;refine(HIS.out _ hb2).mono ?_;rintro e w3 ⟨rfl,hb3'⟩;have hb3:=hb2.trans (hb3'.mono hb2.size);clear q0 q1 q2 m0 m1 m2 m3 m4 m5 m6 m7 m8 m9;obtain⟨⟨q0,q1,q2⟩,m0,m1,m2,m3,m4,m5,m6,m7,m8,m9⟩:=HC.out _ (hb3))
      | (go_at_call 66;refine HVC.out.mono ?_;rintro e w2 ⟨rfl,hb2⟩;clear q0 q1 q2 m0 m1 m2 m3 m4 m5 m6 m7 m8 m9;obtain⟨⟨q0,q1,q2⟩,m0,m1,m2,m3,m4,m5,m6,m7,m8,m9⟩:=HC.out _ (hb2)))
     have HC4:Hid (∀w',BB w3 w'->(Ce w' w.heap.size 2 (.slice (some ⟨b,o,none⟩) sl sc))/\(Ce w' wp.heap.size 0 (I6 x.k.k)/\Ce w' wp.heap.size 1 (I6 x.k.i)/\Ce w' wp.heap.size 2 (I6 x.k.s)/\Ce w' wp.heap.size 3 (.string x.k.t)/\Ce w' wp.heap.size 4 (.slice x.k.la x.k.ll x.k.lc)/\Ce w' wp.heap.size 5 (.slice x.k.fa x.k.fl x.k.fc)/\Ce w' wp.heap.size 6 (I6 x.n)/\Ce w' wp.heap.size 7 (I6 x.t)/\Ce w' wp.heap.size 8 (.slice x.ia x.il x.ic)/\Ce w' wp.heap.size 9 (.slice x.va x.vl x.vc))/\(w'.cell? ⟨b,o+(k-1) * 10,none⟩=some (I6 y.k.k)/\w'.cell? ⟨b,o+(k-1) * 10+1,none⟩=some (I6 y.k.i)/\w'.cell? ⟨b,o+(k-1) * 10+2,none⟩=some (I6 y.k.s)/\w'.cell? ⟨b,o+(k-1) * 10+3,none⟩=some (.string y.k.t)/\w'.cell? ⟨b,o+(k-1) * 10+4,none⟩=some (.slice y.k.la y.k.ll y.k.lc)/\w'.cell? ⟨b,o+(k-1) * 10+5,none⟩=some (.slice y.k.fa y.k.fl y.k.fc))):=hid fun w' h=>by
      have h1:=HC.out w' (hb3.trans (h.mono hb3.size));obtain⟨⟨q0,q1,q2⟩,m0,m1,m2,m3,m4,m5,m6,m7,m8,m9⟩:=h1;have h2:=HY.out w' (hb3.trans (h.mono hb3.size));exact⟨q2,⟨m0,m1,m2,m3,m4,m5,m6,m7,m8,m9⟩,h2⟩
     have HCP:Hid (∀w',BB w3 w'->CP 68 #[.agg #[I6 x.k.k,I6 x.k.i,I6 x.k.s,.string x.k.t,.slice x.k.la x.k.ll x.k.lc,.slice x.k.fa x.k.fl x.k.fc],.agg #[I6 y.k.k,I6 y.k.i,I6 y.k.s,.string y.k.t,.slice y.k.la y.k.ll y.k.lc,.slice y.k.fa y.k.fl y.k.fc]] w' (Rt (I6 cc) w')):=hid fun w' h=>HCMP.out w' (hb3.trans (h.mono hb3.size));clear q0 q1 q2 m0 m1 m2 m3 m4 m5 m6 m7 m8 m9;refine aG 10 (fun w'=>BB w3 w') ge ge ge gc ((Below.refl _ _).drew) (fun hS=>?_);simp only[zdm,zdn,zdp,zdq]
     refine tc 0 HC4 ?_;refine tc 1 HC4 ?_;refine tc 2 HC4 ?_;refine tc 3 HC4 ?_;refine tc 4 HC4 ?_;refine tc 5 HC4 ?_;refine tc 6 HC4 ?_;refine tc 7 HC4 ?_;refine tc 8 HC4 ?_;refine yr 9 fun K hK=>?_;go_simp;go_at_call 68;refine(HCP.out _ hS).mono ?_;rintro e w4 ⟨rfl,hb4'⟩;refine hK.out _ _ (hS.trans (hb4'.mono hS.size)) (fun hS=>?_);clear hK K
     (try simp only[Act.put,pq])
     refine wpAnyH_done ge ?_ _
     (try dsimp only)
     have hb4:=hb3.trans (hS.mono hb3.size);have hc4:=HC.out _ hb4;clear hS HC4 HCP hb4';obtain⟨⟨q0,q1,q2⟩,m0,m1,m2,m3,m4,m5,m6,m7,m8,m9⟩:=hc4;clear q0 q1 q2;by_cases c0:cc=0
     ·have c0':(cc==0)=true:=by simp[c0]
      have r:=hid (show aM d=7 by rw[R0.out,HIT.out,List.drop_eq_getElem_cons hkl,bH,if_neg HKEY.out,<-HCC.out,if_pos c0]);go_wp2;go_ret;exact⟨retI r.out.symm,HB0.out.trans ((HBWP.out.trans (HBA.out.trans (hb4.mono HSA.out))).mono ga)⟩
     by_cases c1:cc = -1
     ·have c1':(cc == -1)=true:=by simp[c1]
      have c0':(cc==0)=false:=by simp[c0]
      have r:=hid (show aM d=24 by rw[R0.out,HIT.out,List.drop_eq_getElem_cons hkl,bH,if_neg HKEY.out,<-HCC.out,if_neg c0,if_pos c1]);go_wp2;go_ret;exact⟨retI r.out.symm,HB0.out.trans ((HBWP.out.trans (HBA.out.trans (hb4.mono HSA.out))).mono ga)⟩
     have c0':(cc==0)=false:=by simp[c0]
     have c1':(cc == -1)=false:=by simp[c1]
     have HNEXT:=hid (show bH (dG d.l k) acc nv (d.l.drop k)=if (aO acc nv d.l[k]).1≠0 then (aO acc nv d.l[k]).1 else bH (some d.l[k].k) (aO acc nv d.l[k]).2.1 (aO acc nv d.l[k]).2.2 (d.l.drop (k+1)) by rw[List.drop_eq_getElem_cons hkl,bH,if_neg HKEY.out,<-HCC.out,if_neg c0,if_neg c1]);obtain⟨v2,hv2⟩:=ez ((aO acc nv d.l[k]).1)
     have HSL:Hid (∀w',BB (wp.alloc (oS x 66)) w'->CP 69 #[.pointer (some ⟨w.heap.size+1,0,none⟩),.agg #[I6 x.k.k,I6 x.k.i,I6 x.k.s,.string x.k.t,.slice x.k.la x.k.ll x.k.lc,.slice x.k.fa x.k.fl x.k.fc,I6 x.n,I6 x.t,.slice x.ia x.il x.ic,.slice x.va x.vl x.vc]] w' (SlotPost' (w.heap.size+1) (w.heap.size+1) acc nv d.l[k] w' v2)):=hid fun w' h=>(nV w HT.out (w.heap.size+1) (w.heap.size+1) x d.l[k] acc nv iv w' (HB0.out.trans ((HBWP.out.trans (HBA.out.trans (h.mono HSA.out))).mono ga)) ga lr (HXI.out.same fun b q=>⟨by omega,(HB0.out.trans ((HBWP.out.trans (HBA.out.trans (h.mono HSA.out))).mono ga)).block b q⟩) (HCK.out.ext (HBA2.out.trans (h.mono gd)))).mono fun e w2 h=>slotPost'_of h hv2
     have HV2:=hid hv2;clear hv2;by_cases hv20:v2=0
     ·subst hv20;have hnext:=hid (HNEXT.out.trans (if_neg (fun h=>h HV2.out.symm)));go_wp2_with (go_at_call 69;refine(HSL.out _ hb4).mono ?_;rintro e w5 ⟨rfl,hb5,hn5,hc5⟩)
      go_roundw
      case rel =>
       obtain⟨iv5,hck5⟩:=hc5 (by first | rfl | trivial);exact⟨k+1,(aO acc nv d.l[k]).2.1,(aO acc nv d.l[k]).2.2,iv5,by omega,by go_num,hck5.self,HBWP.out.trans ((HBA.out.trans (hb4.mono HSA.out)).trans hb5),by rw[HIT.out,hnext.out,eQ d.l k hkl]⟩
      case measure=>simp[intOf];omega
     ·have r:=hid (show aM d=v2 by rw[R0.out,HIT.out,HNEXT.out,if_pos (by rw[<-HV2.out];exact hv20),HV2.out]);go_wp2_with (go_at_call 69;refine(HSL.out _ hb4).mono ?_;rintro e w5 ⟨rfl,hb5,hn5,hc5⟩)
      go_ret;exact⟨retI r.out.symm,HB0.out.trans ((HBWP.out.trans ((HBA.out.trans (hb4.mono HSA.out)).trans hb5)).mono ga)⟩
 ·obtain rfl:k=sl:=by omega
  have r:=hid (show aM d=0 by rw[R0.out,HIT.out,show k=d.l.length from HL.out,List.drop_length];cases dG d.l d.l.length<;>rfl);go_wp2;go_ret;exact⟨retI r.out.symm,HB0.out.trans (hbwp.mono ga)⟩
end Go.Proofs.YtmgpghoamapfgaaGreatDoor
