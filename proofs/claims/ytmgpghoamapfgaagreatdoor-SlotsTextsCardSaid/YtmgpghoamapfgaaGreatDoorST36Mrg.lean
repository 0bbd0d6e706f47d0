/- A part. -/
import Derived.Test.YtmgpghoamapfgaaGreatDoorST31Mrg
namespace Go.Proofs.YtmgpghoamapfgaaGreatDoor
set_option linter.unusedVariables false
set_option maxRecDepth 100000
set_option maxHeartbeats 16000000
set_option linter.unusedSimpArgs false
section
open Go Go.RowKit Go.Shelf
theorem infoSt:(Tryz.prog.info? 39).map (fun i=>(i.zero,i.size,i.bytes))=some (some (.agg #[I6 0,.slice none 0 0]),2,32):=by kernel_rfl
end
section
open Go Go.RowKit Go.Shelf
theorem aId (n t:Int) (w:World):CP 77 #[I6 n,I6 t] w fun e w'=>e=.returned (.bool (decide (gP n t=0)))/\w=w':=by
 go_enter Tryz.func77,Tryz.ntmps77
 by_cases h1 : -999999999999999<=n<;>by_cases h2:n<=999999999999999<;>by_cases h3:0<=t<;>by_cases h4:t<=17592186044416
 all_goals go_wp2
 all_goals go_ret
 all_goals (refine⟨retB ?_,rfl⟩;rw[gP];split<;>simp<;>omega)
theorem aDa {n t:Int} (h:¬ gP n t=0):gP n t=2:=by
 rw[gP] at h ⊢;split
 ·rfl
 ·rename_i h2;exact absurd (if_neg h2) h
theorem yN {acc:List Msg} {nv:Nat} {x:Slot} (h:¬ gP x.n x.t=0):(aO acc nv x).1=2:=by rw[aO,if_pos h];exact aDa h
theorem restE {acc:List Msg} {nv:Nat} {x:Slot} (h:gP x.n x.t=0) (r:List Slot):(if (aO acc nv x).1≠0 then (aO acc nv x).1 else bH (some x.k) (aO acc nv x).2.1 (aO acc nv x).2.2 r) =
 if (bB acc x.items).1≠0 then (bB acc x.items).1 else if (eB nv x.vals).1≠0 then (eB nv x.vals).1 else bH (some x.k) (bB acc x.items).2 (eB nv x.vals).2 r:=by
 have h1:aO acc nv x=if (bB acc x.items).1≠0 then ((bB acc x.items).1,(bB acc x.items).2,nv) else ((eB nv x.vals).1,(bB acc x.items).2,(eB nv x.vals).2):=by rw[aO,if_neg (fun g=>g h)]
 by_cases q:(bB acc x.items).1=0
 ·have h2:aO acc nv x=((eB nv x.vals).1,(bB acc x.items).2,(eB nv x.vals).2):=by rw[h1];simp[q]
  rw[h2];simp[q]
 ·have h2:aO acc nv x=((bB acc x.items).1,(bB acc x.items).2,nv):=by rw[h1];simp[q]
  rw[h2];simp[q]
theorem mL (c:StC) (d:Sta) (w:World) (hd:IsSta (· < w.heap.size) w c d) (hT:Tabs w):CP 39 #[c.v] w (Rt (I6 (aM d)) w):=by
 obtain⟨ti,hi,hz0,hz1,hz2⟩:=info_parts infoSt;obtain⟨sn,st,a,sl,sc⟩:=c;have hbig:=hd.l.big;have HL:=hid hd.l.len;have HDL:=hid hd.l;have HT:=hid hT;have HNT:=hid (And.intro hd.n hd.t);dsimp only at hbig HL HDL HNT;obtain⟨wb,hwb⟩:=ez (w.alloc (.cells #[I6 sn,I6 st,.slice a sl sc] 24))
 have hb0:BB w wb:=by rw[hwb];exact(bR w).alloc lr _
 have hsb:wb.heap.size=w.heap.size+1:=by rw[hwb];simp
 have g1:wb.heap[w.heap.size]?=some (.cells #[I6 sn,I6 st,.slice a sl sc] 24):=by rw[hwb];exact heap_alloc_new w _
 have HWB:=hid hwb;have HB0:=hid hb0;have G1:=hid g1;have HSB:=hid hsb;clear hd hT hwb hb0 hsb;have k0:=aA g1 0;have k1:=aA g1 1;have k2:=aA g1 2
 (try dsimp only at k0 k1 k2)
 rw[HWB.out] at k0 k1 k2;clear g1;dsimp only[StC.v];go_enter Tryz.func39,Tryz.ntmps39
 obtain⟨u,hu⟩:=ez (decide (gP sn st=0))
 have HU:=hid hu;have HNU:Hid (∀w',CP 77 #[I6 sn,I6 st] w' fun e w2=>e=.returned (.bool u)/\w'=w2):=hid fun w'=>by rw[hu];exact aId sn st w'
 clear hu;cases u with
 | false =>
   have h1:¬ gP sn st=0:=of_decide_eq_false HU.out.symm;have r:=hid (show aM d=2 by rw[aM,<-HNT.out.1,<-HNT.out.2,if_pos h1];exact aDa h1);clear h1;go_wp2_with (go_at_call 77;refine(HNU.out _).mono ?_;rintro e w2 ⟨rfl,rfl⟩)
   go_ret;exact⟨retI r.out.symm,by rw[<-HWB.out];exact HB0.out⟩
 | true =>
 have HU0:=hid (show gP sn st=0 from of_decide_eq_true HU.out.symm);by_cases hbl:1024<sl
 ·have hbl':(1024:Int)<(sl:Int):=by omega
  have r:=hid (show aM d=9 by rw[aM,<-HNT.out.1,<-HNT.out.2,if_neg (fun h=>h HU0.out),if_pos (by rw[<-HL.out];exact hbl)]);go_wp2_with (go_at_call 77;refine(HNU.out _).mono ?_;rintro e w2 ⟨rfl,rfl⟩)
  go_ret;exact⟨retI r.out.symm,by rw[<-HWB.out];exact HB0.out⟩
 have hbl':¬ (1024:Int)<(sl:Int):=by omega
 have R0:=hid (show aM d=bH none [] 0 d.l by rw[aM,<-HNT.out.1,<-HNT.out.2,if_neg (fun h=>h HU0.out),if_neg (by rw[<-HL.out];exact hbl)]);go_wp2_with (go_at_call 77;refine(HNU.out _).mono ?_;rintro e w2 ⟨rfl,rfl⟩)
 clear k0 k1 k2 HNU HU HU0 HNT;rw[<-HWB.out]
 go_loopw [3,4,5] (fun s nvv i wr=>∃(k nv la:Nat) (acc:List Msg) (s1:Value),s1=s/\la=acc.length/\k<=sl/\i=I6 k/\nvv=I6 nv/\KeepB (w.heap.size+1) wb [] wr/\Kept stK 39 (w.heap.size+1) wr s1 la (acc.map (·.st))/\bH none [] 0 d.l=bH (dG d.l k) acc nv (d.l.drop k)/\la<=256/\nv<=4096) (fun _ _ i _=>sl-(intOf i).toNat)
 case atStart=>exact⟨0,0,0,[],_,rfl,rfl,Nat.zero_le _,rfl,rfl,⟨Below.refl _ _,by have:=HSB.out;omega,fun p hp=>by simp at hp⟩,Kept.nil _ _ _,by rw[List.drop_zero];rfl,by omega,by omega⟩
 case round =>
 obtain⟨k,nv,la,acc,s0,rfl,hla,hks,rfl,rfl,hkb,hrb,hit,hm4,hv4⟩:=hrel;have HLA:=hid hla;clear hla;obtain⟨wp,rfl⟩:=ez (wr:World)
 have hbwp:=hkb.b;have HIT:=hid hit;have HBWP:=hid hbwp;have HRB:=hid hrb;have hsz:w.heap.size+1<=wp.heap.size:=hkb.n;have HNB:=hid (show ∀r,s0.ownBlock=some r->r≠wp.heap.size from fun r e=>by have:=(hrb.own r e).2;omega);clear hit hkb hrb;by_cases hlt:k<sl
 ·have hkl:k<d.l.length:=by have:=HL.out;omega
  obtain⟨b,o,rfl,hb,hx⟩:=HDL.out.slot (show 0<sl by omega);obtain⟨x,hxa,hxi⟩:=hx k hkl;obtain⟨ds,hds⟩:=ez (d.l[k])
  rw[<-hds] at hxi;have HDR:=hid (show d.l.drop k=ds :: d.l.drop (k+1) by rw[hds];exact List.drop_eq_getElem_cons hkl);have HPN:=hid (show dG d.l (k+1)=some ds.k by rw[hds];exact eQ d.l k hkl);clear hds;have hbw:BB w wp:=HB0.out.trans (hbwp.mono ga);obtain⟨x0,x1,x2,x3,x4,x5,x6,x7,x8,x9⟩:=(hxa.same (hbw.block b hb)).slot;have hlt':(k:Int)<(sl:Int):=by omega
  have hk0:(0:Int)<=(k:Int):=by omega
  have hsl:(sl:Int)<=1024:=by omega
  have HB:=hid hb;have HX:=hid hx;have HXI:=hid (show IsSl (· < w.heap.size) w x ds from hxi);have HLI:=hid hxi.items.len;have HLV:=hid hxi.vals.len;have HDI:=hid hxi.items;have HDV:=hid hxi.vals;have hbigI:=hxi.items.big;have hbigV:=hxi.vals.big;dsimp only at hbigI hbigV;obtain⟨pn,hpn⟩:=ez (decide (gP ds.n ds.t=0))
  have HIN:Hid (∀w',CP 77 #[I6 x.n,I6 x.t] w' fun e w2=>e=.returned (.bool pn)/\w'=w2):=hid fun w'=>by rw[hpn,<-HXI.out.n,<-HXI.out.t];exact aId x.n x.t w'
  have HPN0:=hid hpn;have HBA:=hid (show Below (w.heap.size+1) wp (wp.alloc (oS x 66)) from(Below.refl _ wp).alloc ga _);have HSA:=hid (show w.heap.size+1<=(wp.alloc (oS x 66)).heap.size by simp;omega)
  have HC:Hid (∀w',BB (wp.alloc (oS x 66)) w'->(Ce w' w.heap.size 0 (I6 sn)/\Ce w' w.heap.size 1 (I6 st)/\Ce w' w.heap.size 2 (.slice (some ⟨b,o,none⟩) sl sc))/\(Ce w' wp.heap.size 0 (I6 x.k.k)/\Ce w' wp.heap.size 1 (I6 x.k.i)/\Ce w' wp.heap.size 2 (I6 x.k.s)/\Ce w' wp.heap.size 3 (.string x.k.t)/\Ce w' wp.heap.size 4 (.slice x.k.la x.k.ll x.k.lc)/\Ce w' wp.heap.size 5 (.slice x.k.fa x.k.fl x.k.fc)/\Ce w' wp.heap.size 6 (I6 x.n)/\Ce w' wp.heap.size 7 (I6 x.t)/\Ce w' wp.heap.size 8 (.slice x.ia x.il x.ic)/\Ce w' wp.heap.size 9 (.slice x.va x.vl x.vc))):=hid fun w' h=>by
   have h1:=aB h (heap_alloc_new wp (oS x 66));have h2:=aB h (aD (oS x 66) (gA hbwp G1.out ga));exact⟨⟨aA h2 0,aA h2 1,aA h2 2⟩,aA h1 0,aA h1 1,aA h1 2,aA h1 3,aA h1 4,aA h1 5,aA h1 6,aA h1 7,aA h1 8,aA h1 9⟩
  have hbwa:BB w (wp.alloc (oS x 66)):=hbw.alloc hbw.size _;obtain⟨v,hv⟩:=ez (aR ds.k)
  obtain⟨z,hz⟩:=ez (cF ds.k)
  have HVC:Hid (∀w',BB (wp.alloc (oS x 66)) w'->CP 66 #[.agg #[I6 x.k.k,I6 x.k.i,I6 x.k.s,.string x.k.t,.slice x.k.la x.k.ll x.k.lc,.slice x.k.fa x.k.fl x.k.fc]] w' (Rt (I6 v) w')):=hid fun w' h=>by
   have hw:=hbwa.trans (h.mono hbwa.size);have hs:=hw.size;rw[hv];exact iG x.k _ _ (HXI.out.k.same fun b q=>⟨by omega,hw.block b q⟩) (HT.out.below hw)
  have HIS:Hid (CP 67 #[.agg #[I6 x.k.k,I6 x.k.i,I6 x.k.s,.string x.k.t,.slice x.k.la x.k.ll x.k.lc,.slice x.k.fa x.k.fl x.k.fc]] (wp.alloc (oS x 66)) fun e w2=>e=.returned (.bool z)/\BB (wp.alloc (oS x 66)) w2):=hid (by rw[hz,gX hxi.k];exact bN _ _ _ _ _ _ _ _ _ _ _);have HV:=hid hv;have HZ:=hid hz;have p2:=aA (gA hbwp G1.out ga) 2
  (try dsimp only at p2)
  clear hxa hxi hx hb hbw hbwa hv hz hbwp hpn;obtain⟨⟨q0,q1,q2⟩,m0,m1,m2,m3,m4,m5,m6,m7,m8,m9⟩:=HC.out _ (Below.refl _ _)
  go_upto_if 38 with (go_at_call 67;refine HIS.out.mono ?_;rintro e w2 ⟨rfl,hb2⟩;clear q0 q1 q2 m0 m1 m2 m3 m4 m5 m6 m7 m8 m9;obtain⟨⟨q0,q1,q2⟩,m0,m1,m2,m3,m4,m5,m6,m7,m8,m9⟩:=HC.out _ (hb2))
  go_cut [] (fun wz=>BB (wp.alloc (oS x 66)) wz/\¬ (aR ds.k≠0/\cF ds.k=false))
  case first =>
   cases z with
   | true =>
     go_wp2
     go_meet
     exact⟨hb2,fun h=>by rw[<-HZ.out] at h;cases h.2⟩
   | false =>
     by_cases hv0:v=0
     case neg =>
      have r:=hid (show aM d=v by rw[R0.out,HIT.out,HDR.out,bH,if_pos ⟨by rw[<-HV.out];exact hv0,HZ.out.symm⟩,HV.out]);go_wp2_with (go_at_call 66;refine(HVC.out _ hb2).mono ?_;rintro e w3 ⟨rfl,hb3'⟩;have hb3:=hb2.trans (hb3'.mono hb2.size))
      go_ret;exact⟨retI r.out.symm,HB0.out.trans ((HBWP.out.trans (HBA.out.trans (hb3.mono HSA.out))).mono ga)⟩
     case pos =>
     subst hv0;go_wp2_with (go_at_call 66;refine(HVC.out _ hb2).mono ?_;rintro e w3 ⟨rfl,hb3'⟩;have hb3:=hb2.trans (hb3'.mono hb2.size))
     go_meet
     exact⟨hb3,fun h=>h.1 HV.out.symm⟩
  case rest =>
  obtain⟨hb3,hkey⟩:=hcut;obtain⟨w3,rfl⟩:=ez (wc:World)
  have HKEY:=hid hkey;clear hkey hb2 HVC HIS HV HZ;clear q0 q1 q2 m0 m1 m2 m3 m4 m5 m6 m7 m8 m9;obtain⟨⟨q0,q1,q2⟩,m0,m1,m2,m3,m4,m5,m6,m7,m8,m9⟩:=HC.out _ (hb3)
  go_upto_if 46 with (fail)
  go_cut [] (fun wz=>BB (wp.alloc (oS x 66)) wz/\bH none [] 0 d.l=if (aO acc nv ds).1≠0 then (aO acc nv ds).1 else bH (some ds.k) (aO acc nv ds).2.1 (aO acc nv ds).2.2 (d.l.drop (k+1)))
  case first =>
   by_cases hkz:k=0
   ·have hkf:decide ((0:Int)<(k:Int))=false:=by simp;omega
    have hkf2:decide (0<k)=false:=by simp;omega
    have hkf3:¬ 0<k:=by omega
    have HKZ:=hid (show dG d.l k=none by rw[hkz,dG]);clear hkz;go_wp2
    go_meet
    exact⟨hb3,by rw[HIT.out,HDR.out,bH,if_neg HKEY.out,if_neg (by rw[HKZ.out];exact(show ¬ (1:Int)=0 by decide)),if_neg (by rw[HKZ.out];exact(show ¬ (1:Int) = -1 by decide))]⟩
   ·obtain⟨k1,hk1⟩:∃k1,k=k1+1:=⟨k-1,by omega⟩
    have hwr:IntKind.i64.wrap ((k:Int)-1)=(k:Int)-1:=IntWalk.i64_in _ ga;have hk1':(0:Int)<=(k:Int)-1:=by omega
    have hk1'':(1:Int)<=(k:Int):=by omega
    have hk1N:1<=k:=by omega
    have hk2':(k:Int)-1<(sl:Int):=by omega
    have hkt:k-1=k1:=by omega
    have hkf:decide ((0:Int)<(k:Int))=true:=by simp;omega
    have hkf2:decide (0<k)=true:=by simp;omega
    have hkf3:0<k:=by omega
    have hk1l:k1<d.l.length:=by omega
    obtain⟨y,hya,hyi⟩:=HX.out k1 hk1l;obtain⟨cc,hcc⟩:=ez (cN d.l[k1].k ds.k)
    have HPK:dG d.l k=some d.l[k1].k:=by rw[show dG d.l k=dG d.l (k1+1) by rw[hk1]];exact eQ d.l k1 hk1l
    have HCC:=hid (show cc = - aNg (dG d.l k) ds.k by rw[hcc,HPK];exact rT _ _);clear HPK;have HY:Hid (∀w',BB (wp.alloc (oS x 66)) w'->w'.cell? ⟨b,o+(k-1) * 10,none⟩=some (I6 y.k.k)/\w'.cell? ⟨b,o+(k-1) * 10+1,none⟩=some (I6 y.k.i)/\w'.cell? ⟨b,o+(k-1) * 10+2,none⟩=some (I6 y.k.s)/\w'.cell? ⟨b,o+(k-1) * 10+3,none⟩=some (.string y.k.t)/\w'.cell? ⟨b,o+(k-1) * 10+4,none⟩=some (.slice y.k.la y.k.ll y.k.lc)/\w'.cell? ⟨b,o+(k-1) * 10+5,none⟩=some (.slice y.k.fa y.k.fl y.k.fc)):=hid fun w' h=>by
     have hw:=HB0.out.trans ((HBWP.out.trans (HBA.out.trans (h.mono HSA.out))).mono ga);rw[hkt];obtain⟨y0,y1,y2,y3,y4,y5,_⟩:=(hya.same (hw.block b HB.out)).slot;exact⟨y0,y1,y2,y3,y4,y5⟩
    have HCMP:Hid (∀w',BB (wp.alloc (oS x 66)) w'->CP 68 #[.agg #[I6 y.k.k,I6 y.k.i,I6 y.k.s,.string y.k.t,.slice y.k.la y.k.ll y.k.lc,.slice y.k.fa y.k.fl y.k.fc],.agg #[I6 x.k.k,I6 x.k.i,I6 x.k.s,.string x.k.t,.slice x.k.la x.k.ll x.k.lc,.slice x.k.fa x.k.fl x.k.fc]] w' (Rt (I6 cc) w')):=hid fun w' h=>by
     have hw:=HB0.out.trans ((HBWP.out.trans (HBA.out.trans (h.mono HSA.out))).mono ga);have hs:=hw.size;rw[hcc];exact gK y.k x.k _ _ w' (hyi.k.same fun b q=>⟨by omega,hw.block b q⟩) (HXI.out.k.same fun b q=>⟨by omega,hw.block b q⟩)
    clear hya hyi hcc hk1 hkz hkt hk1l;go_upto_region 16 with (fail)
    have HC4:Hid (∀w',BB w3 w'->(Ce w' w.heap.size 2 (.slice (some ⟨b,o,none⟩) sl sc))/\(Ce w' wp.heap.size 0 (I6 x.k.k)/\Ce w' wp.heap.size 1 (I6 x.k.i)/\Ce w' wp.heap.size 2 (I6 x.k.s)/\Ce w' wp.heap.size 3 (.string x.k.t)/\Ce w' wp.heap.size 4 (.slice x.k.la x.k.ll x.k.lc)/\Ce w' wp.heap.size 5 (.slice x.k.fa x.k.fl x.k.fc)/\Ce w' wp.heap.size 6 (I6 x.n)/\Ce w' wp.heap.size 7 (I6 x.t)/\Ce w' wp.heap.size 8 (.slice x.ia x.il x.ic)/\Ce w' wp.heap.size 9 (.slice x.va x.vl x.vc))/\(w'.cell? ⟨b,o+(k-1) * 10,none⟩=some (I6 y.k.k)/\w'.cell? ⟨b,o+(k-1) * 10+1,none⟩=some (I6 y.k.i)/\w'.cell? ⟨b,o+(k-1) * 10+2,none⟩=some (I6 y.k.s)/\w'.cell? ⟨b,o+(k-1) * 10+3,none⟩=some (.string y.k.t)/\w'.cell? ⟨b,o+(k-1) * 10+4,none⟩=some (.slice y.k.la y.k.ll y.k.lc)/\w'.cell? ⟨b,o+(k-1) * 10+5,none⟩=some (.slice y.k.fa y.k.fl y.k.fc))):=hid fun w' h=>by
     have h1:=HC.out w' (hb3.trans (h.mono hb3.size));obtain⟨⟨q0,q1,q2⟩,m0,m1,m2,m3,m4,m5,m6,m7,m8,m9⟩:=h1;have h2:=HY.out w' (hb3.trans (h.mono hb3.size));exact⟨q2,⟨m0,m1,m2,m3,m4,m5,m6,m7,m8,m9⟩,h2⟩
    have HCP:Hid (∀w',BB w3 w'->CP 68 #[.agg #[I6 y.k.k,I6 y.k.i,I6 y.k.s,.string y.k.t,.slice y.k.la y.k.ll y.k.lc,.slice y.k.fa y.k.fl y.k.fc],.agg #[I6 x.k.k,I6 x.k.i,I6 x.k.s,.string x.k.t,.slice x.k.la x.k.ll x.k.lc,.slice x.k.fa x.k.fl x.k.fc]] w' (Rt (I6 cc) w')):=hid fun w' h=>HCMP.out w' (hb3.trans (h.mono hb3.size));clear q0 q1 q2 m0 m1 m2 m3 m4 m5 m6 m7 m8 m9;refine wp_region_held_drew (S:=(fun w'=>BB w3 w')) ge ((Below.refl _ _).drew) (fun hS=>?_);refine tc 0 HC4 ?_;refine tc 1 HC4 ?_;refine tc 2 HC4 ?_;refine tc 3 HC4 ?_;refine tc 4 HC4 ?_;refine tc 5 HC4 ?_;refine tc 6 HC4 ?_;refine tc 7 HC4 ?_;refine tc 8 HC4 ?_;refine yr 9 fun K hK=>?_;go_simp;go_at_call 68;refine(HCP.out _ hS).mono ?_;rintro e w4 ⟨rfl,hb4'⟩;refine hK.out _ _ (hS.trans (hb4'.mono hS.size)) (fun hS=>?_);clear hK K
    (try simp only[Act.put,pq])
    refine wpAnyH_done ge ?_ _
    (try dsimp only)
    have hb4:=hb3.trans (hS.mono hb3.size);have hc4:=HC.out _ hb4;clear hS HC4 HCP hb4' hb3;obtain⟨⟨q0,q1,q2⟩,m0,m1,m2,m3,m4,m5,m6,m7,m8,m9⟩:=hc4;by_cases c0:cc=0
    ·have c0':(cc==0)=true:=by simp[c0]
     have r:=hid (show aM d=7 by rw[R0.out,HIT.out,HDR.out,bH,if_neg HKEY.out,if_pos (by have:=HCC.out;omega)]);go_wp2;go_ret;exact⟨retI r.out.symm,HB0.out.trans ((HBWP.out.trans (HBA.out.trans (hb4.mono HSA.out))).mono ga)⟩
    by_cases c1:cc=1
    ·have c1':(cc==1)=true:=by simp[c1]
     have c0':(cc==0)=false:=by simp[c0]
     have r:=hid (show aM d=24 by rw[R0.out,HIT.out,HDR.out,bH,if_neg HKEY.out,if_neg (by have:=HCC.out;omega),if_pos (by have:=HCC.out;omega)]);go_wp2;go_ret;exact⟨retI r.out.symm,HB0.out.trans ((HBWP.out.trans (HBA.out.trans (hb4.mono HSA.out))).mono ga)⟩
    have c0':(cc==0)=false:=by simp[c0]
    have c1':(cc==1)=false:=by simp[c1]
    go_wp2
    go_meet
    exact⟨hb4,by rw[HIT.out,HDR.out,bH,if_neg HKEY.out,if_neg (by have:=HCC.out;omega),if_neg (by have:=HCC.out;omega)]⟩
  case rest =>
  obtain⟨hb4,hnext⟩:=hcut;obtain⟨w4,rfl⟩:=ez (wc:World)
  have HNEXT:=hid hnext;clear hnext hb3 HKEY;clear q0 q1 q2 m0 m1 m2 m3 m4 m5 m6 m7 m8 m9;obtain⟨⟨q0,q1,q2⟩,m0,m1,m2,m3,m4,m5,m6,m7,m8,m9⟩:=HC.out _ (hb4);cases pn with
  | false =>
    have r:=hid (show aM d=2 by rw[R0.out,HNEXT.out,if_pos (by rw[yN (of_decide_eq_false HPN0.out.symm)];decide),yN (of_decide_eq_false HPN0.out.symm)]);go_wp2_with (go_at_call 77;refine(HIN.out _).mono ?_;rintro e w5 ⟨rfl,rfl⟩)
    go_ret;exact⟨retI r.out.symm,HB0.out.trans ((HBWP.out.trans (HBA.out.trans (hb4.mono HSA.out))).mono ga)⟩
  | true =>
    have HREST:=hid (HNEXT.out.trans (restE (of_decide_eq_true HPN0.out.symm) _));go_wp2_with (go_at_call 77;refine(HIN.out _).mono ?_;rintro e w5 ⟨rfl,rfl⟩)
    have hup:=HBWP.out.trans (HBA.out.trans (hb4.mono HSA.out));have HKB0:Hid (KeepB (w.heap.size+1) wb [(wp.heap.size,(oS x 66))] w4):=hid ⟨hup,by have h1:=hup.size;have h2:=HSB.out;omega,fun p hp=>by
     simp only[List.mem_cons,List.not_mem_nil,or_false] at hp;rw[hp];exact aB hb4 (heap_alloc_new wp (oS x 66))⟩
    have HRB0:=hid (HRB.out.ext ga (((Below.refl _ wp).alloc lr (oS x 66)).trans (hb4.mono gd)));clear hup hb4 q0 q1 q2 m0 m1 m2 m3 m4 m5 m6 m7 m8 m9 HNEXT
    go_loopw [3,8] (fun s i wr=>∃(j ln:Nat) (acc1:List Msg) (s1:Value),s1=s/\ln=acc1.length/\j<=x.il/\i=I6 j/\KeepB (w.heap.size+1) wb [(wp.heap.size,(oS x 66))] wr/\Kept stK 39 (w.heap.size+1) wr s1 ln (acc1.map (·.st))/\(∀r,s1.ownBlock=some r->r≠wp.heap.size)/\bB acc ds.items=bB acc1 (ds.items.drop j)/\ln<=256) (fun _ i _=>x.il-(intOf i).toNat)
    case atStart=>exact⟨0,la,acc,_,rfl,HLA.out,Nat.zero_le _,rfl,HKB0.out,HRB0.out,HNB.out,by rw[List.drop_zero],hm4⟩
    case round =>
    obtain⟨j,ln,acc1,s1,rfl,hln,hj,rfl,hkb,hrb,hnb,hit1,hm1⟩:=hrel;have HLN:=hid hln;clear hln;obtain⟨wq,rfl⟩:=ez (wr:World)
    obtain⟨va,vcap,rfl,hvc⟩:=hrb.shape;clear HKB0 HRB0;have HIT1:=hid hit1;have HNB1:=hid hnb;have HKB1:=hid hkb;have HRB1:=hid hrb;have hrb':=fun r e=>(Kept.own (K:=stK) HRB1.out r e)
    have HRO1:=hid hrb';clear hit1 hnb hrb hrb';by_cases hlt:j<x.il
    ·have hjl:j<ds.items.length:=by have:=HLI.out;omega
     obtain⟨bi,oi,hia,hbi,hx⟩:=HDI.out.slot (show 0<x.il by omega);obtain⟨y,hya,hyi⟩:=hx j hjl;obtain⟨dm,hdm⟩:=ez (ds.items[j])
     have HDI1:=hid (show ds.items.drop j=dm :: ds.items.drop (j+1) by rw[hdm];exact List.drop_eq_getElem_cons hjl);rw[<-hdm] at hyi;have HYI:=hid (show IsMsg (· < w.heap.size) w y dm from hyi);have hw:=HB0.out.trans (hkb.b.mono ga)
     have HCY:Hid (∀w',KeepB (w.heap.size+1) wb [(wp.heap.size,(oS x 66))] w'->(w'.cell? ⟨wp.heap.size,3+5,none⟩=some (.slice (some ⟨bi,oi,none⟩) x.il x.ic))/\(w'.cell? ⟨bi,oi+j * 10,none⟩=some (I6 y.st.e)/\w'.cell? ⟨bi,oi+j * 10+1,none⟩=some (.slice y.st.a y.st.n y.st.c)/\w'.cell? ⟨bi,oi+j * 10+2,none⟩=some (I6 y.m)/\w'.cell? ⟨bi,oi+j * 10+3,none⟩=some (.slice y.a y.n y.c)/\w'.cell? ⟨bi,oi+j * 10+4,none⟩=some (I6 y.b.k)/\w'.cell? ⟨bi,oi+j * 10+5,none⟩=some (I6 y.b.i)/\w'.cell? ⟨bi,oi+j * 10+6,none⟩=some (I6 y.b.s)/\w'.cell? ⟨bi,oi+j * 10+7,none⟩=some (.string y.b.t)/\w'.cell? ⟨bi,oi+j * 10+8,none⟩=some (.slice y.b.la y.b.ll y.b.lc)/\w'.cell? ⟨bi,oi+j * 10+9,none⟩=some (.slice y.b.fa y.b.fl y.b.fc))):=hid fun w' h=>by
      have h8:=aA (h.at 0 gd) 8
      (try dsimp only[List.getElem_cons_zero] at h8)
      have hw':=HB0.out.trans (h.b.mono ga);obtain⟨y0,y1,y2,y3,y4,y5,y6,y7,y8,y9⟩:=(hya.same (hw'.block bi hbi)).m;exact⟨h8.trans (by rw[hia];rfl),y0,y1,y2,y3,y4,y5,y6,y7,y8,y9⟩
     obtain⟨v1,hv⟩:=ez (eY dm)
     have HMC:Hid (CP 75 #[.agg #[I6 y.st.e,.slice y.st.a y.st.n y.st.c,I6 y.m,.slice y.a y.n y.c,I6 y.b.k,I6 y.b.i,I6 y.b.s,.string y.b.t,.slice y.b.la y.b.ll y.b.lc,.slice y.b.fa y.b.fl y.b.fc]] wq (Rt (I6 v1) wq)):=hid (by rw[hv];exact fF y _ _ (hyi.same fun b q=>⟨by have:=hkb.n;omega,hw.block b q⟩) (HT.out.below hw));have HV1:=hid hv;have hlt':(j:Int)<(x.il:Int):=by omega
     have hj0:(0:Int)<=(j:Int):=by omega
     clear hx hya hyi hia hbi hdm hv;obtain⟨q8,y0,y1,y2,y3,y4,y5,y6,y7,y8,y9⟩:=HCY.out _ hkb;clear hkb;by_cases ha:ln=256
     ·have ha1:(256:Int)<=(ln:Int):=by omega
      have ha2:256<=ln:=by omega
      have r:=hid (show aM d=9 by rw[R0.out,HREST.out,HIT1.out,HDI1.out,bB,if_pos (HLN.out.symm.trans ha),if_pos (show(9:Int)≠0 by decide)]);clear ha;go_wp2;go_ret;exact⟨retI r.out.symm,hw⟩
     have ha1:¬ (256:Int)<=(ln:Int):=by omega
     have ha2:¬ 256<=ln:=by omega
     have ha3:ln<256:=by omega
     have HA6:=hid ha;clear ha;by_cases hv0:v1=0
     case neg =>
      have r:=hid (show aM d=v1 by rw[R0.out,HREST.out,HIT1.out,HDI1.out,bB,if_neg (fun h=>HA6.out (HLN.out.trans h)),<-HV1.out,if_pos hv0,if_pos hv0]);go_wp2_with (go_at_call 75;refine HMC.out.mono ?_;rintro e w5 ⟨rfl,hb5⟩)
      go_ret;exact⟨retI r.out.symm,HB0.out.trans ((HKB1.out.ext hb5).b.mono ga)⟩
     case pos =>
     subst hv0;go_wp2_with (go_at_call 75;refine HMC.out.mono ?_;rintro e w5 ⟨rfl,hb5⟩)
     have HKB2:=hid (HKB1.out.ext hb5);have HRB2:=hid (HRB1.out.ext HKB1.out.n hb5);clear q8 y0 y1 y2 y3 y4 y5 y6 y7 y8 y9 hb5 HMC
     go_loopw [10] (fun i wr=>∃q:Nat,q<=ln/\i=I6 q/\KeepB (w.heap.size+1) wb [(wp.heap.size,(oS x 66))] wr/\Kept stK 39 (w.heap.size+1) wr (.slice va ln vcap) ln (acc1.map (·.st))/\∀p (hp:p<acc1.length),p<q->lC acc1[p].st dm.st=false) (fun i _=>ln-(intOf i).toNat)
     case atStart=>exact⟨0,Nat.zero_le _,rfl,HKB2.out,HRB2.out,fun p _ h=>absurd h (Nat.not_lt_zero p)⟩
     case round =>
     obtain⟨q,hq,rfl,hkb,hrb,hall⟩:=hrel;obtain⟨ws,rfl⟩:=ez (wr:World)
     clear HKB2 HRB2;have HALL:=hid hall;have HKBS:=hid hkb;have HRBS:=hid hrb;by_cases hlt:q<ln
     ·have hql:q<acc1.length:=by have:=HLN.out;omega
      have hrow:=hrb.row hkb.n gi;obtain⟨bs,os,rfl,hbs,hx⟩:=hrow.slot (show 0<ln by omega);obtain⟨z,hza,hzi⟩:=hx q (by rw[List.length_map];exact hql);rw[List.getElem_map] at hzi;obtain⟨p,hp⟩:=ez (lC acc1[q].st dm.st)
      have HSE:Hid (∀w',BB ws w'->CP 78 #[.agg #[I6 z.e,.slice z.a z.n z.c],.agg #[I6 y.st.e,.slice y.st.a y.st.n y.st.c]] w' (Rt (.bool p) w')):=hid fun w' h=>by
       have hk:=HKBS.out.ext h;have hs:=h.size;have hs2:=hk.n;have hw:=HB0.out.trans (hk.b.mono ga);rw[hp];exact lP z y.st _ _ w' (hzi.same fun b q=>⟨by omega,h.block b q⟩) (HYI.out.st.same fun b q=>⟨by omega,hw.block b q⟩)
      have HP1:=hid hp;have HC5:Hid (∀w',BB ws w'->(w'.cell? ⟨bs,os+q * 2,none⟩=some (I6 z.e)/\w'.cell? ⟨bs,os+q * 2+1,none⟩=some (.slice z.a z.n z.c))/\(w'.cell? ⟨wp.heap.size,3+5,none⟩=some (.slice (some ⟨bi,oi,none⟩) x.il x.ic))/\(w'.cell? ⟨bi,oi+j * 10,none⟩=some (I6 y.st.e)/\w'.cell? ⟨bi,oi+j * 10+1,none⟩=some (.slice y.st.a y.st.n y.st.c))):=hid fun w' h=>by
       obtain⟨z0,z1⟩:=(hza.same (h.block bs hbs)).two;obtain⟨h8,y0,y1,_⟩:=HCY.out w' (HKBS.out.ext h);exact⟨⟨z0,z1⟩,h8,y0,y1⟩
      have hlt':(q:Int)<(ln:Int):=by omega
      have hq0:(0:Int)<=(q:Int):=by omega
      clear hx hza hzi hbs hrow hkb hrb hall hp;go_upto_region 34 with (fail)
      refine wp_region_held_drew (S:=(fun w'=>BB ws w')) ge ((Below.refl _ _).drew) (fun hS=>?_);refine tc 0 HC5 ?_;refine tc 1 HC5 ?_;refine tc 2 HC5 ?_;refine tc 3 HC5 ?_;refine tc 4 HC5 ?_;refine tc 5 HC5 ?_;refine tc 6 HC5 ?_;refine tc 7 HC5 ?_;refine tc 8 HC5 ?_;refine tc 9 HC5 ?_;refine yr 10 fun K hK=>?_;go_simp;go_at_call 78;refine(HSE.out _ hS).mono ?_;rintro e w6 ⟨rfl,hb6⟩;refine hK.out _ _ (hS.trans (hb6.mono hS.size)) (fun hS=>?_);clear hK K
      (try simp only[Act.put,pq])
      refine wpAnyH_done ge ?_ _
      (try dsimp only)
      clear HC5 HSE;have hk6:=HKBS.out.ext hS;have hr6:=HRBS.out.ext HKBS.out.n hS;clear hS hb6;cases p with
      | true =>
        have r:=hid (show aM d=7 by rw[R0.out,HREST.out,HIT1.out,HDI1.out,bB,if_neg (fun h=>HA6.out (HLN.out.trans h)),<-HV1.out,if_neg (show ¬ (0:Int)≠0 by decide),if_pos (show nG acc1 dm.st=true by rw[nG,List.any_eq_true];exact⟨_,List.getElem_mem hql,HP1.out.symm⟩),if_pos (show(7:Int)≠0 by decide)]);go_wp2;go_ret;exact⟨retI r.out.symm,HB0.out.trans (hk6.b.mono ga)⟩
      | false =>
        go_wp2
        go_roundw
        case rel=>exact⟨q+1,by omega,by go_num,hk6,hr6,fun p hp h=>by
         by_cases hpq:p<q
         ·exact HALL.out p hp hpq
         ·obtain rfl:p=q:=by omega
          exact HP1.out.symm⟩
        case measure=>simp[intOf];omega
     ·obtain rfl:ln=q:=by omega
      have HAS:=hid (show nG acc1 dm.st=false by
       rw[Bool.eq_false_iff];intro h;rw[nG,List.any_eq_true] at h;obtain⟨m,hm,he⟩:=h;obtain⟨p,hp,rfl⟩:=List.getElem_of_mem hm;rw[HALL.out p hp (by have:=HLN.out;omega)] at he;cases he)
      obtain⟨cs,hcs,hl0,hown,hel⟩:=hrb;have HOWN:=hid hown;have HEL:=hid hel;have HCL:=hid hcs;have HRO:=hid (fun r e=>Kept.own (K:=stK) HRBS.out r e);have hcap1:ln+1<=maxLen:=by unfold maxLen;omega
      have hcap2:(ln+1) * 32<=140737488355328:=by omega
      obtain⟨q8,y0,y1,y2,y3,y4,y5,y6,y7,y8,y9⟩:=HCY.out _ hkb;clear hown hel hcs hl0 hall HALL hkb hlt hq
      go_wp2_with (at_builtin;go_loud (refine wpList_append_lies _ gh _ _ 131 gh (w.heap.size+1) 39 ti _ 2 32 Tryz.underlying131 hi hz0 hz1 hz2 rfl ga (.slice va ln vcap) ln (cs.flatMap SC.cs) gh (HOWN.out.alloc (.cells #[I6 y.st.e,.slice y.st.a y.st.n y.st.c] 39)) ⟨ws.heap.size,0,none⟩ 1 1 (SC.cs y.st) gh gh (World.news_of_block (heap_alloc_new ws _)) (by simp[SC.cs,Value.oneCell']) ga hcap1 hcap2 (by have h2:=HKBS.out.n;simp at h2 ⊢;omega) (ws.heap.size+1) gd ?_);intro gg cap5 w5 hown2 hgrow hat hlt2;have HO2:=hid hown2;have HG:=hid hgrow;have HAT:=hid hat;clear hown2 hgrow hat hlt2)
      go_roundw
      case rel =>
       have hsw:wp.heap.size<ws.heap.size:=ltOf (HKBS.out.at 0 gd);have hne:∀r,((.slice va ln vcap):Value).ownBlock=some r->(w.heap.size+1)<=r/\∀p∈([(wp.heap.size,(oS x 66))]:List (Nat × Obj)),p.1≠r:=fun r e=>⟨(HRO.out r e).1,fun p hp=>by
        have h1:=HNB1.out r e;simp only[List.mem_cons,List.not_mem_nil,or_false] at hp;rw[hp];exact fun h=>h1 h.symm⟩
       have hw:=HB0.out.trans (HKBS.out.b.mono ga);have hk2:=Kept.push (K:=stK) (w1:=ws) (c:=y.st) (d:=dm.st) (l:=acc1.map (·.st)) HCL.out (by rw[List.length_map,HLN.out]) HEL.out HKBS.out.n (HYI.out.st.same fun b q=>⟨by omega,hw.block b q⟩) (fun r e=>(hne r e).1) HO2.out HG.out;refine⟨j+1,ln+1,acc1++[dm],_,rfl,by rw[List.length_append,HLN.out];rfl,by omega,by go_num,(HKBS.out.ext ((Below.refl _ _).alloc lr _)).grown HG.out hne,?_,fun r e=>?_,?_,?_⟩
       ·rw[List.map_append];exact hk2
       ·have hr:r=gg:=(Option.some.inj e).symm;subst hr;rcases HAT.out with h | h
        ·exact HNB1.out r h
        ·(try simp at h);omega
       ·rw[HIT1.out,HDI1.out,bB,if_neg (fun h=>HA6.out (HLN.out.trans h)),<-HV1.out,if_neg (show ¬ (0:Int)≠0 by decide),HAS.out,if_neg (show ¬ false=true by decide)]
       ·have:=HA6.out;omega
      case measure=>simp[intOf];omega
    ·obtain rfl:j=x.il:=by omega
     have h8:=aA (hkb.at 0 gd) 8;have h9:=aA (hkb.at 0 gd) 9
     (try dsimp only[List.getElem_cons_zero] at h8)
     (try dsimp only[List.getElem_cons_zero] at h9)
     have HIT2:=hid (show bB acc ds.items=(0,acc1) by rw[HIT1.out,show x.il=ds.items.length from HLI.out,List.drop_length,bB]);clear hlt hkb;go_wp2;clear h8 h9
     go_loopw [4,11] (fun nvv i wr=>∃(q nv1:Nat),nvv=I6 nv1/\q<=x.vl/\i=I6 q/\KeepB (w.heap.size+1) wb [(wp.heap.size,(oS x 66))] wr/\Kept stK 39 (w.heap.size+1) wr (.slice va ln vcap) ln (acc1.map (·.st))/\eB nv ds.vals=eB nv1 (ds.vals.drop q)/\nv1<=4096) (fun _ i _=>x.vl-(intOf i).toNat)
     case atStart=>exact⟨0,nv,rfl,Nat.zero_le _,rfl,HKB1.out,HRB1.out,by rw[List.drop_zero],hv4⟩
     case round =>
     obtain⟨q,nv1,rfl,hq,rfl,hkb,hrb,hvt,hv1⟩:=hrel;obtain⟨ws,rfl⟩:=ez (wr:World)
     clear HKB1 HRB1;have HVT:=hid hvt;have HKBS:=hid hkb;have HRBS:=hid hrb;clear hvt hrb;by_cases hlt:q<x.vl
     ·have hql:q<ds.vals.length:=by have:=HLV.out;omega
      obtain⟨bi,oi,hia,hbi,hx⟩:=HDV.out.slot (show 0<x.vl by omega);obtain⟨y,hya,hyi⟩:=hx q hql;have hw:=HB0.out.trans (hkb.b.mono ga);have h9:=aA (hkb.at 0 gd) 9
      (try dsimp only[List.getElem_cons_zero] at h9)
      replace h9:ws.cell? ⟨wp.heap.size,4+5,none⟩=some (.slice (some ⟨bi,oi,none⟩) x.vl x.vc):=h9.trans (by rw[hia];rfl)
      obtain⟨y0,y1,y2,y3,y4,y5⟩:=(hya.same (hw.block bi hbi)).val;obtain⟨dv,hdv⟩:=ez (ds.vals[q])
      have HDV1:=hid (show ds.vals.drop q=dv :: ds.vals.drop (q+1) by rw[hdv];exact List.drop_eq_getElem_cons hql);rw[<-hdv] at hyi;obtain⟨v1,hv⟩:=ez (aR dv)
      have HMC:Hid (CP 66 #[.agg #[I6 y.k,I6 y.i,I6 y.s,.string y.t,.slice y.la y.ll y.lc,.slice y.fa y.fl y.fc]] ws (Rt (I6 v1) ws)):=hid (by rw[hv];exact iG y _ _ (hyi.same fun b q=>⟨by have:=hkb.n;omega,hw.block b q⟩) (HT.out.below hw));have HV1:=hid hv;have hlt':(q:Int)<(x.vl:Int):=by omega
      have hq0:(0:Int)<=(q:Int):=by omega
      clear hx hya hyi hia hbi hdv hv hkb;by_cases ha:nv1=4096
      ·have ha1:(4096:Int)<=(nv1:Int):=by omega
       have ha2:4096<=nv1:=by omega
       have r:=hid (show aM d=9 by rw[R0.out,HREST.out,HIT2.out,if_neg (fun h=>h rfl),HVT.out,HDV1.out,eB,if_pos ha,if_pos (show(9:Int)≠0 by decide)]);clear ha;go_wp2;go_ret;exact⟨retI r.out.symm,hw⟩
      have ha1:¬ (4096:Int)<=(nv1:Int):=by omega
      have ha2:¬ 4096<=nv1:=by omega
      have ha3:(nv1:Int)<4096:=by omega
      have HA6:=hid ha;clear ha;by_cases hv0:v1=0
      case neg =>
       have r:=hid (show aM d=v1 by rw[R0.out,HREST.out,HIT2.out,if_neg (fun h=>h rfl),HVT.out,HDV1.out,eB,if_neg HA6.out,<-HV1.out,if_pos hv0,if_pos hv0]);go_wp2_with (go_at_call 66;refine HMC.out.mono ?_;rintro e w6 ⟨rfl,hb6⟩)
       go_ret;exact⟨retI r.out.symm,HB0.out.trans ((HKBS.out.ext hb6).b.mono ga)⟩
      case pos =>
      subst hv0;go_wp2_with (go_at_call 66;refine HMC.out.mono ?_;rintro e w6 ⟨rfl,hb6⟩)
      go_roundw
      case rel=>exact⟨q+1,nv1+1,by go_num,by omega,by go_num,HKBS.out.ext hb6,HRBS.out.ext HKBS.out.n hb6,by rw[HVT.out,HDV1.out,eB,if_neg HA6.out,<-HV1.out,if_neg (show ¬ (0:Int)≠0 by decide)],by have:=HA6.out;omega⟩
      case measure=>simp[intOf];omega
     ·obtain rfl:q=x.vl:=by omega
      have h9:=aA (hkb.at 0 gd) 9
      (try dsimp only[List.getElem_cons_zero] at h9)
      have HVE:=hid (show eB nv ds.vals=(0,nv1) by rw[HVT.out,show x.vl=ds.vals.length from HLV.out,List.drop_length,eB]);clear hlt hkb;go_wp2
      go_roundw
      case rel=>exact⟨k+1,nv1,ln,acc1,_,rfl,HLN.out,by omega,by go_num,rfl,HKBS.out.sub gd,HRBS.out,by rw[HREST.out,HIT2.out,if_neg (fun h=>h rfl),HVE.out,if_neg (fun h=>h rfl),HPN.out],hm1,hv1⟩
      case measure=>simp[intOf];omega
 ·obtain rfl:k=sl:=by omega
  have k2:=aA (gA hbwp G1.out ga) 2
  (try dsimp only at k2)
  have r:=hid (show aM d=0 by rw[R0.out,HIT.out,show k=d.l.length from HL.out,List.drop_length];cases dG d.l d.l.length<;>rfl);go_wp2;go_ret;exact⟨retI r.out.symm,HB0.out.trans (hbwp.mono ga)⟩
end
section
open Go Go.RowKit
theorem aKr (n:Nat) (h:n<10) (w:World):CP 40 #[I6 n] w (Rt (.string (oN n)) w):=by
 have hng:¬ (n:Int)<0:=by omega
 have hlt:(n:Int)<10:=by omega
 have hD:oN n=⟨#[UInt8.ofNat (48+n)]⟩:=by
  unfold oN;rw[Lib.decDigits_one h]
 have HD:=hid hD;have kc:=aIp;clear hD;go_enter Tryz.func40,Tryz.ntmps40
 go_wp2;go_ret;exact⟨by rw[HD.out,UInt8.ofNat_add];rfl,(bR w).alloc lr _⟩
theorem d30_big (n:Nat) (h:10<=n) (hn:(n:Int)<=9223372036854775807) (ih:∀w,CP 40 #[I6 ((n / 10:Nat):Int)] w (Rt (.string (oN (n / 10))) w)) (w:World):CP 40 #[I6 n] w (Rt (.string (oN n)) w):=by
 have hng:¬ (n:Int)<0:=by omega
 have hlt:¬ (n:Int)<10:=by omega
 have hq:(n:Int).tdiv 10=((n / 10:Nat):Int):=by rw[Int.tdiv_eq_ediv_of_nonneg ga];omega
 have hr:(n:Int).tmod 10=((n % 10:Nat):Int):=by rw[Int.tmod_eq_emod_of_nonneg ga];omega
 have hD:oN n=oN (n / 10)++⟨#[UInt8.ofNat (48+((n % 10:Nat):Int)).toNat]⟩:=by
  unfold oN;rw[Lib.decDigits,dif_neg ga,show(48+((n % 10:Nat):Int)).toNat=48+n % 10 by omega];apply ByteArray.ext;simp[ByteArray.data_append]
 have hs:=aEo (n / 10) ga;have hm:((n % 10:Nat):Int)<10:=by omega
 have hm0:(0:Int)<=((n % 10:Nat):Int):=by omega
 obtain⟨q,hq'⟩:∃q,q=((n / 10:Nat):Int):=⟨_,rfl⟩
 obtain⟨r,hr'⟩:∃r,r=((n % 10:Nat):Int):=⟨_,rfl⟩
 have hq0:0<=q/\q<=9223372036854775807:=by omega
 have hwq:IntKind.i64.wrap q=q:=IntWalk.i64_in _ ga;have hwr:IntKind.i64.wrap (48+r)=48+r:=IntWalk.i64_in _ ga;have hwu:IntKind.u8.wrap (48+r)=48+r:=by rw[IntKind.wrap_u8];omega
 obtain⟨s,hs'⟩:∃s,s=oN (n / 10):=⟨_,rfl⟩
 rw[<-hq'] at hq ih;rw[<-hs'] at hs ih hD;rw[<-hr'] at hr hm hm0 hD;have hsz:¬ 9223372036854775807<s.size+1:=by omega
 have HIH:=hid ih;have HD:=hid hD;have kc:=aIp;clear hD hq' hr' hs' ih;go_enter Tryz.func40,Tryz.ntmps40
 go_upto_region 5 with (fail)
 refine aG 10 (fun w'=>BB w w') ge ge ge gc ((Below.refl _ _).drew) (fun hS=>?_);simp only[zdm,zdn,zdp,zdq];refine ta 0 ?_;refine ta 1 ?_;refine ta 3 ?_;refine ta 4 ?_;refine ta 5 ?_;refine ta 6 ?_;refine ry [2,7] ?_;refine AllReadyH.cons (o:=_) rfl (fun K hK=>?_) ?_
 ·clear hq hr hlt hng kc;go_simp;go_at_call 40;refine(HIH.out _).mono ?_;rintro e w1 ⟨rfl,hb1⟩;refine hK.out _ _ (hS.trans (hb1.mono hS.size)) (fun hS=>?_);clear hK K
  (try simp only[Act.put,pq])
  refine yr 7 fun K hK=>?_;go_simp;refine hK.out _ _ (hS.alloc hS.size _) (fun hS=>?_);clear hK K
  (try simp only[Act.put,pq])
  refine yr 8 fun K hK=>?_;have kk:=aIp w1 (48+r);have k2:=tH (w1.alloc (.cells #[.int .u8 (48+r)] 5)).drew w1.heap.size (48+r) (heap_alloc_new w1 _);go_simp;refine hK.out _ _ (hS) (fun hS=>?_);clear hK K
  (try simp only[Act.put,pq])
  refine ta 9 ?_;refine wpAnyH_done ge ?_ _
  (try dsimp only)
  go_wp2;go_ret;exact⟨by rw[HD.out];rfl,hS⟩
 refine arQ fun K hK=>?_;go_simp;refine hK.out _ _ (hS.alloc hS.size _) (fun hS=>?_);clear hK K
 (try simp only[Act.put,pq])
 refine ry [2,8] ?_;refine AllReadyH.cons (o:=_) rfl (fun K hK=>?_) ?_
 ·clear hq hr hlt hng kc;go_simp;go_at_call 40;refine(HIH.out _).mono ?_;rintro e w1 ⟨rfl,hb1⟩;refine hK.out _ _ (hS.trans (hb1.mono hS.size)) (fun hS=>?_);clear hK K
  (try simp only[Act.put,pq])
  refine yr 8 fun K hK=>?_;have kk:=tH w1 w.heap.size (48+r) (aB hb1 (heap_alloc_new w _));go_simp;refine hK.out _ _ (hS) (fun hS=>?_);clear hK K
  (try simp only[Act.put,pq])
  refine ta 9 ?_;refine wpAnyH_done ge ?_ _
  (try dsimp only)
  go_wp2;go_ret;exact⟨by rw[HD.out];rfl,hS⟩
 refine arQ fun K hK=>?_;have kk:=aIp w (48+r);have k2:=tH (w.alloc (.cells #[.int .u8 (48+r)] 5)).drew w.heap.size (48+r) (heap_alloc_new w _);go_simp;refine hK.out _ _ (hS) (fun hS=>?_);clear hK K
 (try simp only[Act.put,pq])
 refine yr 2 fun K hK=>?_;clear hq hr hlt hng kc;go_simp;go_at_call 40;refine(HIH.out _).mono ?_;rintro e w1 ⟨rfl,hb1⟩;refine hK.out _ _ (hS.trans (hb1.mono hS.size)) (fun hS=>?_);clear hK K
 (try simp only[Act.put,pq])
 refine ta 9 ?_;refine wpAnyH_done ge ?_ _
 (try dsimp only)
 go_wp2;go_ret;exact⟨by rw[HD.out];rfl,hS⟩
theorem aEt (n:Nat) (hn:(n:Int)<=9223372036854775807) (w:World):CP 40 #[I6 n] w (Rt (.string (oN n)) w):=by
 induction n using Nat.strongRecOn generalizing w with
 | _ n ih =>
   by_cases h:n<10
   ·exact aKr n h w
   ·exact d30_big n ga hn (fun w=>ih (n / 10) ga ga w) w
theorem d30_neg (n:Nat) (h:1<=n) (hn:(n:Int)<=9223372036854775807) (w:World):CP 40 #[I6 (-(n:Int))] w fun e w'=>e=.returned (.string (aF (-(n:Int))))/\BB w w':=by
 have HC:=hid (fun w=>aEt n hn w);have hlt:(-(n:Int))<0:=by omega
 have hw:IntKind.i64.wrap (-(-(n:Int)))=(n:Int):=by rw[Int.neg_neg];exact IntWalk.i64_in _ ga
 have hw1:IntKind.i64.wrap (0-(-(n:Int)))=(n:Int):=by rw[show(0:Int) - -(n:Int)=(n:Int) by omega];exact IntWalk.i64_in _ ga
 obtain⟨m,hm⟩:∃m,m = -(n:Int):=⟨_,rfl⟩
 have hs:=aEo n hn;have HD:=hid (show aF m=⟨#[45]⟩++oN n by
  rw[hm];unfold aF oN;rw[Lib.itoa_neg n h];apply ByteArray.ext;simp[ByteArray.data_append])
 rw[<-hm] at hlt hw hw1 ⊢;obtain⟨s,hs'⟩:∃s,s=oN n:=⟨_,rfl⟩
 rw[<-hs'] at HC HD hs;obtain⟨k,hk⟩:=ez ((n:Int):Int)
 rw[<-hk] at HC hw hw1;have hsz:¬ 9223372036854775807<1+s.size:=by omega
 clear hm hs' hk;go_enter Tryz.func40,Tryz.ntmps40
 go_wp2_with (go_at_call 40;refine(HC.out _).mono ?_;rintro e w1 ⟨rfl,hb1⟩)
 go_ret;exact⟨by rw[HD.out];rfl,hb1⟩
theorem mI (n:Int) (h : -9223372036854775808<n) (h2:n<=9223372036854775807) (w:World):CP 40 #[I6 n] w (Rt (.string (aF n)) w):=by
 by_cases hn:n<0
 ·obtain⟨m,rfl⟩:∃m:Nat,n = -(m:Int):=⟨n.natAbs,by omega⟩
  exact d30_neg m ga ga w
 ·obtain⟨m,rfl⟩:∃m:Nat,n=(m:Int):=⟨n.toNat,by omega⟩
  have q:=aEt m ga w;rw[<-decB_itoa] at q;exact q
end
end Go.Proofs.YtmgpghoamapfgaaGreatDoor
