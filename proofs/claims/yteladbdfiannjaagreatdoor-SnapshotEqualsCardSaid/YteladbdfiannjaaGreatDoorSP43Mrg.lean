/-
  manifoldlaw47.SameMachine. Condition: both machines can be read as data.
-/
import Derived.Test.YteladbdfiannjaaGreatDoorSP42Mrg
namespace Go.Proofs.YteladbdfiannjaaGreatDoor
set_option linter.unusedVariables false
set_option maxRecDepth 100000
set_option maxHeartbeats 64000000
set_option linter.unusedSimpArgs false
open Go Go.RowKit Go.Shelf
def macEqB (a b:Snp):Bool:=decide (a.v=b.v)&&(decide (a.e=b.e)&&(decide (a.t=b.t)&&(eqL staEqB a.ns b.ns&&(eqL cntEqB a.ar b.ar&&(eqL cntEqB a.se b.se&&(eqL queEqB a.qs b.qs&&eqL letEqB a.ls b.ls))))))
theorem macEqB_and (a b:Snp):(macEqB a b&&eqL efEqS a.ps b.ps)=snEqB a b:=by simp only[macEqB,snEqB,Bool.and_assoc]
theorem infoLe13:(Tryz.prog.info? 70).map (fun i=>(i.zero,i.size))=some (some (.agg #[.int .i64 0,.slice none 0 0,.int .i64 0,.slice none 0 0,.int .i64 0,.int .i64 0,.int .i64 0,.string ByteArray.empty,.slice none 0 0,.slice none 0 0,.string ByteArray.empty,.string ByteArray.empty,.int .i64 0]),13):=by kernel_rfl
section
attribute [-go_sem] loadCellsFrom storeCells run_neq_struct
attribute [local go_sem] neq_que lcf0 lcf1 lcf2 lcf3 lcf4 lcf5 lcf6 lcf7 lcf8 lcf9 lcf10 lcf11 lcf12 lcf13 stc0 stc1 stc2 stc3 stc4
theorem sameMachine_call (c c2:SnC) (d d2:Snp) (w:World) (hd:IsSn (· < w.heap.size) w c d) (hd2:IsSn (· < w.heap.size) w c2 d2) :
 Calls Tryz.prog 53 #[.agg #[.int .i64 c.v,.int .i64 c.e,.int .i64 c.t,.slice c.na c.nl c.nc,.slice c.aa c.al c.ac,.slice c.sa c.sl c.sc,.slice c.qa c.ql c.qc,.slice c.la c.ll c.lc],.agg #[.int .i64 c2.v,.int .i64 c2.e,.int .i64 c2.t,.slice c2.na c2.nl c2.nc,.slice c2.aa c2.al c2.ac,.slice c2.sa c2.sl c2.sc,.slice c2.qa c2.ql c2.qc,.slice c2.la c2.ll c2.lc]] w fun e w'=>e=.returned (.bool (macEqB d d2))∧Below w.heap.size w w':=by
 obtain⟨cv,ce,ct,na,nl,nc,aa,al,ac,sa,sl,sc,qa,ql,qc,la,ll,lc,pa,pl,pc⟩:=c
 obtain⟨cv2,ce2,ct2,na2,nl2,nc2,aa2,al2,ac2,sa2,sl2,sc2,qa2,ql2,qc2,la2,ll2,lc2,pa2,pl2,pc2⟩:=c2
 dsimp only
 obtain⟨uN,huN⟩:∃u,u=eqL staEqB d.ns d2.ns:=⟨_,rfl⟩
 obtain⟨uA,huA⟩:∃u,u=eqL cntEqB d.ar d2.ar:=⟨_,rfl⟩
 obtain⟨uS,huS⟩:∃u,u=eqL cntEqB d.se d2.se:=⟨_,rfl⟩
 obtain⟨uQ,huQ⟩:∃u,u=eqL queEqB d.qs d2.qs:=⟨_,rfl⟩
 obtain⟨uL,huL⟩:∃u,u=eqL letEqB d.ls d2.ls:=⟨_,rfl⟩
 have HE:=hid (show macEqB d d2=(decide (cv=cv2)&&(decide (ce=ce2)&&(decide (ct=ct2)&&(uN&&(uA&&(uS&&(uQ&&uL))))))) by
  rw[macEqB,←huN,←huA,←huS,←huQ,←huL,←hd.v,←hd2.v,←hd.e,←hd2.e,←hd.t,←hd2.t])
 obtain⟨W,hW⟩:∃W,W=((w.alloc (.cells #[.int .i64 cv,.int .i64 ce,.int .i64 ct,.slice na nl nc,.slice aa al ac,.slice sa sl sc,.slice qa ql qc,.slice la ll lc] 27)).alloc (.cells #[.int .i64 cv2,.int .i64 ce2,.int .i64 ct2,.slice na2 nl2 nc2,.slice aa2 al2 ac2,.slice sa2 sl2 sc2,.slice qa2 ql2 qc2,.slice la2 ll2 lc2] 27)):=⟨_,rfl⟩
 have hbW:Below w.heap.size w W:=by rw[hW];exact((Below.refl _ w).alloc (Nat.le_refl _) _).alloc (by simp) _
 have gx:W.heap[w.heap.size]?=some (.cells #[.int .i64 cv,.int .i64 ce,.int .i64 ct,.slice na nl nc,.slice aa al ac,.slice sa sl sc,.slice qa ql qc,.slice la ll lc] 27):=by rw[hW];exact heapAlloc _ (heap_alloc_new w _)
 have gy:W.heap[w.heap.size+1]?=some (.cells #[.int .i64 cv2,.int .i64 ce2,.int .i64 ct2,.slice na2 nl2 nc2,.slice aa2 al2 ac2,.slice sa2 sl2 sc2,.slice qa2 ql2 qc2,.slice la2 ll2 lc2] 27):=by rw[hW];exact heapNewAt _ _ _ (by simp)
 have hq:∀w',Below W.heap.size W w'→∀b,b<w.heap.size→b<w'.heap.size∧w'.heap[b]?=w.heap[b]?:=fun w' h b hb=>⟨by have h1:=h.size;have h2:=hbW.size;omega,(h.block b (by have h2:=hbW.size;omega)).trans (hbW.block b hb)⟩
 have HA1:Hid (Calls Tryz.prog 119 #[.slice aa al ac,.slice aa2 al2 ac2] W fun e w'=>e=.returned (.bool uA)∧Below W.heap.size W w'):=hid (by rw[huA];exact sameCnt_call _ _ _ _ _ _ _ _ W (hd.ar.same (hq W (Below.refl _ _))) (hd2.ar.same (hq W (Below.refl _ _))))
 have HA2:=hid (fun (w1:World) (h:Below W.heap.size W w1)=>(show Calls Tryz.prog 119 #[.slice sa sl sc,.slice sa2 sl2 sc2] w1 fun e w'=>e=.returned (.bool uS)∧Below w1.heap.size w1 w' from by rw[huS];exact sameCnt_call _ _ _ _ _ _ _ _ w1 (hd.se.same (hq w1 h)) (hd2.se.same (hq w1 h))))
 have HLN:=hid (show nl≠nl2→uN=false from fun h=>by rw[huN];exact eqL_len (by rw[←hd.ns.len,←hd2.ns.len];exact h))
 have HLQ:=hid (show ql≠ql2→uQ=false from fun h=>by rw[huQ];exact eqL_len (by rw[←hd.qs.len,←hd2.qs.len];exact h))
 have HLL:=hid (show ll≠ll2→uL=false from fun h=>by rw[huL];exact eqL_len (by rw[←hd.ls.len,←hd2.ls.len];exact h))
 have HD:=hid hd;have HD2:=hid hd2;have GX:=hid gx;have GY:=hid gy;have HW:=hid hW;have HBW:=hid hbW;have HQ:=hid hq
 have HUN:=hid huN;have HUQ:=hid huQ;have HUL:=hid huL
 have a0:=cellOf gx 0;have a1:=cellOf gx 1;have a2:=cellOf gx 2;have a3:=cellOf gx 3;have a4:=cellOf gx 4;have a5:=cellOf gx 5;have a6:=cellOf gx 6;have a7:=cellOf gx 7;(try dsimp only at a0 a1 a2 a3 a4 a5 a6 a7)
 have b0:=cellOf gy 0;have b1:=cellOf gy 1;have b2:=cellOf gy 2;have b3:=cellOf gy 3;have b4:=cellOf gy 4;have b5:=cellOf gy 5;have b6:=cellOf gy 6;have b7:=cellOf gy 7;(try dsimp only at b0 b1 b2 b3 b4 b5 b6 b7)
 clear hd hd2 gx gy hW hbW hq huN huA huS huQ huL
 have F1:Hid True:=trivial
 go_enter Tryz.func53,Tryz.ntmps53
 go_upto_region 1 with (fail)
 rw[←HW.out]
 by_cases q1:cv=cv2
 ·by_cases q2:ce=ce2
  ·by_cases q3:ct=ct2
   ·by_cases q4:nl=nl2
    ·subst q4
     cases uA
     ·go_wp2_with (first | (go_at_call 119;clear F1;refine HA1.out.mono ?_;rintro e w1 ⟨rfl,hb1⟩;have HB1:=hid hb1;have hx1:=heapExt hb1 GX.out;have hy1:=heapExt hb1 GY.out;have x5:=cellOf hx1 5;have x6:=cellOf hx1 6;have x7:=cellOf hx1 7;(try dsimp only at x5 x6 x7);have y5:=cellOf hy1 5;have y6:=cellOf hy1 6;have y7:=cellOf hy1 7;(try dsimp only at y5 y6 y7);clear hx1 hy1 hb1))
      go_ret
      exact⟨retB (by rw[HE.out];simp),HBW.out.trans ((HB1.out).mono HBW.out.size)⟩
     ·cases uS
      ·go_wp2_with (first | (go_at_call 119;clear F1;refine HA1.out.mono ?_;rintro e w1 ⟨rfl,hb1⟩;have HB1:=hid hb1;have hx1:=heapExt hb1 GX.out;have hy1:=heapExt hb1 GY.out;have x5:=cellOf hx1 5;have x6:=cellOf hx1 6;have x7:=cellOf hx1 7;(try dsimp only at x5 x6 x7);have y5:=cellOf hy1 5;have y6:=cellOf hy1 6;have y7:=cellOf hy1 7;(try dsimp only at y5 y6 y7);clear hx1 hy1 hb1) | (go_at_call 119;refine(HA2.out _ HB1.out).mono ?_;rintro e w2 ⟨rfl,hb2⟩;have HB2:=hid (HB1.out.trans (hb2.mono HB1.out.size));have hx2:=heapExt HB2.out GX.out;have hy2:=heapExt HB2.out GY.out;clear x5 x6 x7 y5 y6 y7;have x6:=cellOf hx2 6;have x7:=cellOf hx2 7;(try dsimp only at x6 x7);have y6:=cellOf hy2 6;have y7:=cellOf hy2 7;(try dsimp only at y6 y7);clear hx2 hy2 hb2))
       go_ret
       exact⟨retB (by rw[HE.out];simp),HBW.out.trans ((HB2.out).mono HBW.out.size)⟩
      ·by_cases q5:ql=ql2
       ·subst q5
        by_cases q6:ll=ll2
        ·subst q6
         have HE:=hid (show macEqB d d2=(uN&&(uQ&&uL)) by rw[HE.out];simp[q1,q2,q3])
         clear HLN HLQ HLL
         go_wp2_with (first | (go_at_call 119;clear F1;refine HA1.out.mono ?_;rintro e w1 ⟨rfl,hb1⟩;have HB1:=hid hb1;have hx1:=heapExt hb1 GX.out;have hy1:=heapExt hb1 GY.out;have x5:=cellOf hx1 5;have x6:=cellOf hx1 6;have x7:=cellOf hx1 7;(try dsimp only at x5 x6 x7);have y5:=cellOf hy1 5;have y6:=cellOf hy1 6;have y7:=cellOf hy1 7;(try dsimp only at y5 y6 y7);clear hx1 hy1 hb1) | (go_at_call 119;refine(HA2.out _ HB1.out).mono ?_;rintro e w2 ⟨rfl,hb2⟩;have HB2:=hid (HB1.out.trans (hb2.mono HB1.out.size));have hx2:=heapExt HB2.out GX.out;have hy2:=heapExt HB2.out GY.out;clear x5 x6 x7 y5 y6 y7;have x6:=cellOf hx2 6;have x7:=cellOf hx2 7;(try dsimp only at x6 x7);have y6:=cellOf hy2 6;have y7:=cellOf hy2 7;(try dsimp only at y6 y7);clear hx2 hy2 hb2))
         clear a0 a1 a2 a3 a4 a5 a6 a7 b0 b1 b2 b3 b4 b5 b6 b7 x6 x7 y6 y7
         go_loopw [5] (fun i wr=>∃k:Nat,k≤nl∧i=.int .i64 k∧(∀j (h1:j<d.ns.length) (h2:j<d2.ns.length),j<k→staEqB d.ns[j] d2.ns[j]=true)∧Below W.heap.size W wr) (fun i _=>nl-(intOf i).toNat)
         case atStart=>exact⟨0,Nat.zero_le _,rfl,fun j _ _ h=>absurd h (Nat.not_lt_zero j),HB2.out⟩
         case round =>
          obtain⟨k,hk,rfl,hall,hbr⟩:=hrel
          obtain⟨wp,rfl⟩:∃w1:World,w1=wr:=⟨_,rfl⟩
          have HBN:=hid hbr
          have e1:=cellOf (heapExt hbr GX.out) 3
          have e2:=cellOf (heapExt hbr GY.out) 3
          (try dsimp only at e1 e2)
          have hn63:(nl:Int)≤9223372036854775807:=by have h:=HD.out.ns.big;dsimp only at h;omega
          by_cases hlt:k<nl
          ·have hkl:k<d.ns.length:=by have:=HD.out.ns.len;dsimp only at this;omega
           have hkl2:k<d2.ns.length:=by have:=HD2.out.ns.len;dsimp only at this;omega
           obtain⟨b,o,hna,hb,hx⟩:=HD.out.ns.slot (show 0<nl by omega)
           obtain⟨b2,o2,hna2,hb2,hy⟩:=HD2.out.ns.slot (show 0<nl by omega)
           dsimp only at hna hx hna2 hy
           rw[hna] at e1
           rw[hna2] at e2
           obtain⟨x,hxa,hxi⟩:=hx k hkl
           obtain⟨y,hya,hyi⟩:=hy k hkl2
           have HNE:Hid (staEqB d.ns[k] d2.ns[k]=false→uN=false):=hid (fun h=>by rw[HUN.out];exact eqL_ne k hkl hkl2 h)
           have HTR:Hid (staEqB d.ns[k] d2.ns[k]=true→∀j (h1:j<d.ns.length) (h2:j<d2.ns.length),j<k+1→staEqB d.ns[j] d2.ns[j]=true):=hid (fun hv j h1 h2 h=>by
            by_cases hjk:j<k
            ·exact hall j h1 h2 hjk
            ·obtain rfl:j=k:=by omega
             exact hv)
           obtain⟨dx,hdx⟩:∃dx,dx=d.ns[k]:=⟨_,rfl⟩
           obtain⟨dy,hdy⟩:∃dy,dy=d2.ns[k]:=⟨_,rfl⟩
           rw[←hdx] at hxi HNE HTR
           rw[←hdy] at hyi HNE HTR
           have hlt':(k:Int)<(nl:Int):=by omega
           have hk0:(0:Int)≤(k:Int):=by omega
           have hq:∀w1,Below wp.heap.size wp w1→∀b,b<w.heap.size→b<w1.heap.size∧w1.heap[b]?=w.heap[b]?:=fun w1 h b hb=>HQ.out w1 (hbr.trans (h.mono hbr.size)) b hb
           have HC6:=hid (fun (w':World) (h:Below wp.heap.size wp w')=>(show(w'.cell? ⟨w.heap.size,3,none⟩=some (.slice (some ⟨b,o,none⟩) nl nc)∧w'.cell? ⟨w.heap.size+1,3,none⟩=some (.slice (some ⟨b2,o2,none⟩) nl nc2))∧(w'.cell? ⟨b,o+k * 3,none⟩=some (.int .i64 x.n)∧w'.cell? ⟨b,o+k * 3+1,none⟩=some (.int .i64 x.t)∧w'.cell? ⟨b,o+k * 3+2,none⟩=some (.slice x.a x.l x.c))∧w'.cell? ⟨b2,o2+k * 3,none⟩=some (.int .i64 y.n)∧w'.cell? ⟨b2,o2+k * 3+1,none⟩=some (.int .i64 y.t)∧w'.cell? ⟨b2,o2+k * 3+2,none⟩=some (.slice y.a y.l y.c) from by
            obtain⟨x0,x1,x2⟩:=AtG.sta (hxa.same (hq w' h b hb).2)
            obtain⟨y0,y1,y2⟩:=AtG.sta (hya.same (hq w' h b2 hb2).2)
            exact⟨⟨(cellOf (heapExt (HBN.out.trans (h.mono HBN.out.size)) GX.out) 3).trans (by show some (Value.slice na nl nc)=_;rw[hna]),(cellOf (heapExt (HBN.out.trans (h.mono HBN.out.size)) GY.out) 3).trans (by show some (Value.slice na2 nl nc2)=_;rw[hna2])⟩,⟨x0,x1,x2⟩,y0,y1,y2⟩))
           obtain⟨u,hu⟩:∃u,u=staEqB dx dy:=⟨_,rfl⟩
           have HSS:=hid (fun (w':World) (h:Below wp.heap.size wp w')=>(show Calls Tryz.prog 48 #[x.v,y.v] w' fun e w2=>e=.returned (.bool u)∧Below w'.heap.size w' w2 from by
            rw[hu]
            exact equalSta_call x y _ _ w' (staK.same (fun b hb=>hq w' h b hb) hxi) (staK.same (fun b hb=>hq w' h b hb) hyi)))
           dsimp only[StC.v] at HSS
           have HUU:=hid hu
           clear hna hna2 hdx hdy hx hy hb hb2 hxa hya hxi hyi hall hbr hkl hkl2 hq hu
           cases u with
           | false =>
             go_upto_region 6 with (fail)
             clear e1 e2
             refine wp_region_held_drew (S:=(fun w'=>Below wp.heap.size wp w')) (by kernel_rfl) ((Below.refl _ _).drew) (fun hS=>?_)
             refine tkQ 0 (v:=?_) ?_ hS ?_;rotate_left;· intro w' hw';have hcells:=HC6.out w' hw';go_simp;(try with_reducible rfl)
             simp only[Act.put,pt1,pt2,pt3,pt4,pt5,pt6]
             refine tkQ 1 (v:=?_) ?_ hS ?_;rotate_left;· intro w' hw';have hcells:=HC6.out w' hw';go_simp;(try with_reducible rfl)
             simp only[Act.put,pt1,pt2,pt3,pt4,pt5,pt6]
             refine tkQ 2 (v:=?_) ?_ hS ?_;rotate_left;· intro w' hw';have hcells:=HC6.out w' hw';go_simp;(try with_reducible rfl)
             simp only[Act.put,pt1,pt2,pt3,pt4,pt5,pt6]
             refine tkQ 3 (v:=?_) ?_ hS ?_;rotate_left;· intro w' hw';have hcells:=HC6.out w' hw';go_simp;(try with_reducible rfl)
             simp only[Act.put,pt1,pt2,pt3,pt4,pt5,pt6]
             refine tkQ 4 (v:=?_) ?_ hS ?_;rotate_left;· intro w' hw';have hcells:=HC6.out w' hw';go_simp;(try with_reducible rfl)
             simp only[Act.put,pt1,pt2,pt3,pt4,pt5,pt6]
             refine tkQ 5 (v:=?_) ?_ hS ?_;rotate_left;· intro w' hw';have hcells:=HC6.out w' hw';go_simp;(try with_reducible rfl)
             simp only[Act.put,pt1,pt2,pt3,pt4,pt5,pt6]
             refine tkQ 6 (v:=?_) ?_ hS ?_;rotate_left;· intro w' hw';have hcells:=HC6.out w' hw';go_simp;(try with_reducible rfl)
             simp only[Act.put,pt1,pt2,pt3,pt4,pt5,pt6]
             refine tkQ 7 (v:=?_) ?_ hS ?_;rotate_left;· intro w' hw';have hcells:=HC6.out w' hw';go_simp;(try with_reducible rfl)
             simp only[Act.put,pt1,pt2,pt3,pt4,pt5,pt6]
             refine tkQ 8 (v:=?_) ?_ hS ?_;rotate_left;· intro w' hw';have hcells:=HC6.out w' hw';go_simp;(try with_reducible rfl)
             simp only[Act.put,pt1,pt2,pt3,pt4,pt5,pt6]
             refine tkQ 9 (v:=?_) ?_ hS ?_;rotate_left;· intro w' hw';have hcells:=HC6.out w' hw';go_simp;(try with_reducible rfl)
             simp only[Act.put,pt1,pt2,pt3,pt4,pt5,pt6]
             refine wpAnyH_ready (rs:=[10]) (by kernel_rfl) (by simp) ?_
             refine arQ fun K hK=>?_
             go_simp;go_at_call 48;refine(HSS.out _ hS).mono ?_
             rintro e w4 ⟨rfl,hb4⟩
             refine hK.out _ _ (hS.trans (hb4.mono hS.size)) (fun hS=>?_)
             clear hK K
             (try simp only[Act.put,pt1,pt2,pt3,pt4,pt5,pt6])
             refine tkQ 11 (v:=?_) ?_ hS ?_;rotate_left;· intro w' hw';have hcells:=HC6.out w' hw';go_simp;(try with_reducible rfl)
             simp only[Act.put,pt1,pt2,pt3,pt4,pt5,pt6]
             refine wpAnyH_done (by kernel_rfl) ?_ _
             (try dsimp only)
             have HBZ:=hid hS
             clear hS
             go_wp2
             go_ret
             exact⟨retB (by rw[HE.out,HNE.out HUU.out.symm];simp),HBW.out.trans ((HBN.out.trans (HBZ.out.mono HBN.out.size)).mono HBW.out.size)⟩
           | true =>
             go_upto_region 6 with (fail)
             clear e1 e2
             refine wp_region_held_drew (S:=(fun w'=>Below wp.heap.size wp w')) (by kernel_rfl) ((Below.refl _ _).drew) (fun hS=>?_)
             refine tkQ 0 (v:=?_) ?_ hS ?_;rotate_left;· intro w' hw';have hcells:=HC6.out w' hw';go_simp;(try with_reducible rfl)
             simp only[Act.put,pt1,pt2,pt3,pt4,pt5,pt6]
             refine tkQ 1 (v:=?_) ?_ hS ?_;rotate_left;· intro w' hw';have hcells:=HC6.out w' hw';go_simp;(try with_reducible rfl)
             simp only[Act.put,pt1,pt2,pt3,pt4,pt5,pt6]
             refine tkQ 2 (v:=?_) ?_ hS ?_;rotate_left;· intro w' hw';have hcells:=HC6.out w' hw';go_simp;(try with_reducible rfl)
             simp only[Act.put,pt1,pt2,pt3,pt4,pt5,pt6]
             refine tkQ 3 (v:=?_) ?_ hS ?_;rotate_left;· intro w' hw';have hcells:=HC6.out w' hw';go_simp;(try with_reducible rfl)
             simp only[Act.put,pt1,pt2,pt3,pt4,pt5,pt6]
             refine tkQ 4 (v:=?_) ?_ hS ?_;rotate_left;· intro w' hw';have hcells:=HC6.out w' hw';go_simp;(try with_reducible rfl)
             simp only[Act.put,pt1,pt2,pt3,pt4,pt5,pt6]
             refine tkQ 5 (v:=?_) ?_ hS ?_;rotate_left;· intro w' hw';have hcells:=HC6.out w' hw';go_simp;(try with_reducible rfl)
             simp only[Act.put,pt1,pt2,pt3,pt4,pt5,pt6]
             refine tkQ 6 (v:=?_) ?_ hS ?_;rotate_left;· intro w' hw';have hcells:=HC6.out w' hw';go_simp;(try with_reducible rfl)
             simp only[Act.put,pt1,pt2,pt3,pt4,pt5,pt6]
             refine tkQ 7 (v:=?_) ?_ hS ?_;rotate_left;· intro w' hw';have hcells:=HC6.out w' hw';go_simp;(try with_reducible rfl)
             simp only[Act.put,pt1,pt2,pt3,pt4,pt5,pt6]
             refine tkQ 8 (v:=?_) ?_ hS ?_;rotate_left;· intro w' hw';have hcells:=HC6.out w' hw';go_simp;(try with_reducible rfl)
             simp only[Act.put,pt1,pt2,pt3,pt4,pt5,pt6]
             refine tkQ 9 (v:=?_) ?_ hS ?_;rotate_left;· intro w' hw';have hcells:=HC6.out w' hw';go_simp;(try with_reducible rfl)
             simp only[Act.put,pt1,pt2,pt3,pt4,pt5,pt6]
             refine wpAnyH_ready (rs:=[10]) (by kernel_rfl) (by simp) ?_
             refine arQ fun K hK=>?_
             go_simp;go_at_call 48;refine(HSS.out _ hS).mono ?_
             rintro e w4 ⟨rfl,hb4⟩
             refine hK.out _ _ (hS.trans (hb4.mono hS.size)) (fun hS=>?_)
             clear hK K
             (try simp only[Act.put,pt1,pt2,pt3,pt4,pt5,pt6])
             refine tkQ 11 (v:=?_) ?_ hS ?_;rotate_left;· intro w' hw';have hcells:=HC6.out w' hw';go_simp;(try with_reducible rfl)
             simp only[Act.put,pt1,pt2,pt3,pt4,pt5,pt6]
             refine wpAnyH_done (by kernel_rfl) ?_ _
             (try dsimp only)
             have HBZ:=hid hS
             clear hS
             go_wp2
             go_roundw
             case rel=>exact⟨k+1,by omega,by go_num,HTR.out HUU.out.symm,HBN.out.trans (HBZ.out.mono HBN.out.size)⟩
             case measure=>simp[intOf];omega
          ·obtain rfl:k=nl:=by omega
           have rN:uN=true:=by rw[HUN.out];exact eqL_of (f:=staEqB) (by have h1:=HD.out.ns.len;have h2:=HD2.out.ns.len;dsimp only at h1 h2;omega) fun j h1 h2=>hall j h1 h2 (by have:=HD.out.ns.len;dsimp only at this;omega)
           have RN:=hid rN
           clear hall hbr hlt hk rN
           go_wp2
           go_loopw [6] (fun i wr=>∃k:Nat,k≤ql∧i=.int .i64 k∧(∀j (h1:j<d.qs.length) (h2:j<d2.qs.length),j<k→queEqB d.qs[j] d2.qs[j]=true)∧Below W.heap.size W wr) (fun i _=>ql-(intOf i).toNat)
           case atStart=>exact⟨0,Nat.zero_le _,rfl,fun j _ _ h=>absurd h (Nat.not_lt_zero j),HBN.out⟩
           case round =>
            obtain⟨k,hk,rfl,hall,hbr⟩:=hrel
            obtain⟨wp,rfl⟩:∃w1:World,w1=wr:=⟨_,rfl⟩
            have HBQ:=hid hbr
            have e1:=cellOf (heapExt hbr GX.out) 6
            have e2:=cellOf (heapExt hbr GY.out) 6
            (try dsimp only at e1 e2)
            have hn63:(ql:Int)≤9223372036854775807:=by have h:=HD.out.qs.big;dsimp only at h;omega
            by_cases hlt:k<ql
            ·have hkl:k<d.qs.length:=by have:=HD.out.qs.len;dsimp only at this;omega
             have hkl2:k<d2.qs.length:=by have:=HD2.out.qs.len;dsimp only at this;omega
             obtain⟨b,o,hna,hb,hx⟩:=HD.out.qs.slot (show 0<ql by omega)
             obtain⟨b2,o2,hna2,hb2,hy⟩:=HD2.out.qs.slot (show 0<ql by omega)
             dsimp only at hna hx hna2 hy
             rw[hna] at e1
             rw[hna2] at e2
             obtain⟨x,hxa,hxi⟩:=hx k hkl
             obtain⟨y,hya,hyi⟩:=hy k hkl2
             have HNE:Hid (queEqB d.qs[k] d2.qs[k]=false→uQ=false):=hid (fun h=>by rw[HUQ.out];exact eqL_ne k hkl hkl2 h)
             have HTR:Hid (queEqB d.qs[k] d2.qs[k]=true→∀j (h1:j<d.qs.length) (h2:j<d2.qs.length),j<k+1→queEqB d.qs[j] d2.qs[j]=true):=hid (fun hv j h1 h2 h=>by
              by_cases hjk:j<k
              ·exact hall j h1 h2 hjk
              ·obtain rfl:j=k:=by omega
               exact hv)
             obtain⟨dx,hdx⟩:∃dx,dx=d.qs[k]:=⟨_,rfl⟩
             obtain⟨dy,hdy⟩:∃dy,dy=d2.qs[k]:=⟨_,rfl⟩
             rw[←hdx] at hxi HNE HTR
             rw[←hdy] at hyi HNE HTR
             have hlt':(k:Int)<(ql:Int):=by omega
             have hk0:(0:Int)≤(k:Int):=by omega
             have hq:∀w1,Below wp.heap.size wp w1→∀b,b<w.heap.size→b<w1.heap.size∧w1.heap[b]?=w.heap[b]?:=fun w1 h b hb=>HQ.out w1 (hbr.trans (h.mono hbr.size)) b hb
             have HC6:=hid (fun (w':World) (h:Below wp.heap.size wp w')=>(show(w'.cell? ⟨w.heap.size,6,none⟩=some (.slice (some ⟨b,o,none⟩) ql qc)∧w'.cell? ⟨w.heap.size+1,6,none⟩=some (.slice (some ⟨b2,o2,none⟩) ql qc2))∧(w'.cell? ⟨b,o+k * 4,none⟩=some (.string x.nm)∧w'.cell? ⟨b,o+k * 4+1,none⟩=some (.int .i64 x.nu)∧w'.cell? ⟨b,o+k * 4+2,none⟩=some (.int .i64 x.vr)∧w'.cell? ⟨b,o+k * 4+3,none⟩=some (.string x.tx))∧w'.cell? ⟨b2,o2+k * 4,none⟩=some (.string y.nm)∧w'.cell? ⟨b2,o2+k * 4+1,none⟩=some (.int .i64 y.nu)∧w'.cell? ⟨b2,o2+k * 4+2,none⟩=some (.int .i64 y.vr)∧w'.cell? ⟨b2,o2+k * 4+3,none⟩=some (.string y.tx) from by
              obtain⟨x0,x1,x2,x3⟩:=AtG.que (hxa.same (hq w' h b hb).2)
              obtain⟨y0,y1,y2,y3⟩:=AtG.que (hya.same (hq w' h b2 hb2).2)
              exact⟨⟨(cellOf (heapExt (HBQ.out.trans (h.mono HBQ.out.size)) GX.out) 6).trans (by show some (Value.slice qa ql qc)=_;rw[hna]),(cellOf (heapExt (HBQ.out.trans (h.mono HBQ.out.size)) GY.out) 6).trans (by show some (Value.slice qa2 ql qc2)=_;rw[hna2])⟩,⟨x0,x1,x2,x3⟩,y0,y1,y2,y3⟩))
             obtain⟨u,hu⟩:∃u,queEqB x y=u:=⟨_,rfl⟩
             have HUU:Hid (queEqB dx dy=u):=hid (by rw[←hxi.e,←hyi.e];exact hu)
             clear hna hna2 hdx hdy hx hy hb hb2 hxa hya hxi hyi hall hbr hkl hkl2 hq
             cases u with
             | false =>
               go_upto_region 11 with (fail)
               clear e1 e2
               refine wp_region_held_drew (S:=(fun w'=>Below wp.heap.size wp w')) (by kernel_rfl) ((Below.refl _ _).drew) (fun hS=>?_)
               refine tkQ 0 (v:=?_) ?_ hS ?_;rotate_left;· intro w' hw';have hcells:=HC6.out w' hw';go_simp;(try with_reducible rfl)
               simp only[Act.put,pt1,pt2,pt3,pt4,pt5,pt6]
               refine tkQ 1 (v:=?_) ?_ hS ?_;rotate_left;· intro w' hw';have hcells:=HC6.out w' hw';go_simp;(try with_reducible rfl)
               simp only[Act.put,pt1,pt2,pt3,pt4,pt5,pt6]
               refine tkQ 2 (v:=?_) ?_ hS ?_;rotate_left;· intro w' hw';have hcells:=HC6.out w' hw';go_simp;(try with_reducible rfl)
               simp only[Act.put,pt1,pt2,pt3,pt4,pt5,pt6]
               refine tkQ 3 (v:=?_) ?_ hS ?_;rotate_left;· intro w' hw';have hcells:=HC6.out w' hw';go_simp;(try with_reducible rfl)
               simp only[Act.put,pt1,pt2,pt3,pt4,pt5,pt6]
               refine tkQ 4 (v:=?_) ?_ hS ?_;rotate_left;· intro w' hw';have hcells:=HC6.out w' hw';go_simp;(try with_reducible rfl)
               simp only[Act.put,pt1,pt2,pt3,pt4,pt5,pt6]
               refine tkQ 5 (v:=?_) ?_ hS ?_;rotate_left;· intro w' hw';have hcells:=HC6.out w' hw';go_simp;(try with_reducible rfl)
               simp only[Act.put,pt1,pt2,pt3,pt4,pt5,pt6]
               refine tkQ 6 (v:=?_) ?_ hS ?_;rotate_left;· intro w' hw';have hcells:=HC6.out w' hw';go_simp;(try with_reducible rfl)
               simp only[Act.put,pt1,pt2,pt3,pt4,pt5,pt6]
               refine tkQ 7 (v:=?_) ?_ hS ?_;rotate_left;· intro w' hw';have hcells:=HC6.out w' hw';go_simp;(try with_reducible rfl)
               simp only[Act.put,pt1,pt2,pt3,pt4,pt5,pt6]
               refine tkQ 8 (v:=?_) ?_ hS ?_;rotate_left;· intro w' hw';have hcells:=HC6.out w' hw';go_simp;(try with_reducible rfl)
               simp only[Act.put,pt1,pt2,pt3,pt4,pt5,pt6]
               refine tkQ 9 (v:=?_) ?_ hS ?_;rotate_left;· intro w' hw';have hcells:=HC6.out w' hw';go_simp;(try with_reducible rfl)
               simp only[Act.put,pt1,pt2,pt3,pt4,pt5,pt6]
               refine tkQ 10 (v:=?_) ?_ hS ?_;rotate_left;· intro w' hw';have hcells:=HC6.out w' hw';go_simp;(try with_reducible rfl)
               simp only[Act.put,pt1,pt2,pt3,pt4,pt5,pt6]
               refine wpAnyH_done (by kernel_rfl) ?_ _
               (try dsimp only)
               have HBZ:=hid hS
               clear hS
               go_wp2
               go_ret
               exact⟨retB (by rw[HE.out,HNE.out HUU.out];simp),HBW.out.trans ((HBQ.out.trans (HBZ.out.mono HBQ.out.size)).mono HBW.out.size)⟩
             | true =>
               go_upto_region 11 with (fail)
               clear e1 e2
               refine wp_region_held_drew (S:=(fun w'=>Below wp.heap.size wp w')) (by kernel_rfl) ((Below.refl _ _).drew) (fun hS=>?_)
               refine tkQ 0 (v:=?_) ?_ hS ?_;rotate_left;· intro w' hw';have hcells:=HC6.out w' hw';go_simp;(try with_reducible rfl)
               simp only[Act.put,pt1,pt2,pt3,pt4,pt5,pt6]
               refine tkQ 1 (v:=?_) ?_ hS ?_;rotate_left;· intro w' hw';have hcells:=HC6.out w' hw';go_simp;(try with_reducible rfl)
               simp only[Act.put,pt1,pt2,pt3,pt4,pt5,pt6]
               refine tkQ 2 (v:=?_) ?_ hS ?_;rotate_left;· intro w' hw';have hcells:=HC6.out w' hw';go_simp;(try with_reducible rfl)
               simp only[Act.put,pt1,pt2,pt3,pt4,pt5,pt6]
               refine tkQ 3 (v:=?_) ?_ hS ?_;rotate_left;· intro w' hw';have hcells:=HC6.out w' hw';go_simp;(try with_reducible rfl)
               simp only[Act.put,pt1,pt2,pt3,pt4,pt5,pt6]
               refine tkQ 4 (v:=?_) ?_ hS ?_;rotate_left;· intro w' hw';have hcells:=HC6.out w' hw';go_simp;(try with_reducible rfl)
               simp only[Act.put,pt1,pt2,pt3,pt4,pt5,pt6]
               refine tkQ 5 (v:=?_) ?_ hS ?_;rotate_left;· intro w' hw';have hcells:=HC6.out w' hw';go_simp;(try with_reducible rfl)
               simp only[Act.put,pt1,pt2,pt3,pt4,pt5,pt6]
               refine tkQ 6 (v:=?_) ?_ hS ?_;rotate_left;· intro w' hw';have hcells:=HC6.out w' hw';go_simp;(try with_reducible rfl)
               simp only[Act.put,pt1,pt2,pt3,pt4,pt5,pt6]
               refine tkQ 7 (v:=?_) ?_ hS ?_;rotate_left;· intro w' hw';have hcells:=HC6.out w' hw';go_simp;(try with_reducible rfl)
               simp only[Act.put,pt1,pt2,pt3,pt4,pt5,pt6]
               refine tkQ 8 (v:=?_) ?_ hS ?_;rotate_left;· intro w' hw';have hcells:=HC6.out w' hw';go_simp;(try with_reducible rfl)
               simp only[Act.put,pt1,pt2,pt3,pt4,pt5,pt6]
               refine tkQ 9 (v:=?_) ?_ hS ?_;rotate_left;· intro w' hw';have hcells:=HC6.out w' hw';go_simp;(try with_reducible rfl)
               simp only[Act.put,pt1,pt2,pt3,pt4,pt5,pt6]
               refine tkQ 10 (v:=?_) ?_ hS ?_;rotate_left;· intro w' hw';have hcells:=HC6.out w' hw';go_simp;(try with_reducible rfl)
               simp only[Act.put,pt1,pt2,pt3,pt4,pt5,pt6]
               refine wpAnyH_done (by kernel_rfl) ?_ _
               (try dsimp only)
               have HBZ:=hid hS
               clear hS
               go_wp2
               go_roundw
               case rel=>exact⟨k+1,by omega,by go_num,HTR.out HUU.out,HBQ.out.trans (HBZ.out.mono HBQ.out.size)⟩
               case measure=>simp[intOf];omega
            ·obtain rfl:k=ql:=by omega
             have rQ:uQ=true:=by rw[HUQ.out];exact eqL_of (f:=queEqB) (by have h1:=HD.out.qs.len;have h2:=HD2.out.qs.len;dsimp only at h1 h2;omega) fun j h1 h2=>hall j h1 h2 (by have:=HD.out.qs.len;dsimp only at this;omega)
             have RQ:=hid rQ
             clear hall hbr hlt hk rQ
             go_wp2
             go_loopw [7] (fun i wr=>∃k:Nat,k≤ll∧i=.int .i64 k∧(∀j (h1:j<d.ls.length) (h2:j<d2.ls.length),j<k→letEqB d.ls[j] d2.ls[j]=true)∧Below W.heap.size W wr) (fun i _=>ll-(intOf i).toNat)
             case atStart=>exact⟨0,Nat.zero_le _,rfl,fun j _ _ h=>absurd h (Nat.not_lt_zero j),HBQ.out⟩
             case round =>
              obtain⟨k,hk,rfl,hall,hbr⟩:=hrel
              obtain⟨wp,rfl⟩:∃w1:World,w1=wr:=⟨_,rfl⟩
              have HBL:=hid hbr
              have e1:=cellOf (heapExt hbr GX.out) 7
              have e2:=cellOf (heapExt hbr GY.out) 7
              (try dsimp only at e1 e2)
              have hn63:(ll:Int)≤9223372036854775807:=by have h:=HD.out.ls.big;dsimp only at h;omega
              by_cases hlt:k<ll
              ·have hkl:k<d.ls.length:=by have:=HD.out.ls.len;dsimp only at this;omega
               have hkl2:k<d2.ls.length:=by have:=HD2.out.ls.len;dsimp only at this;omega
               obtain⟨b,o,hna,hb,hx⟩:=HD.out.ls.slot (show 0<ll by omega)
               obtain⟨b2,o2,hna2,hb2,hy⟩:=HD2.out.ls.slot (show 0<ll by omega)
               dsimp only at hna hx hna2 hy
               rw[hna] at e1
               rw[hna2] at e2
               obtain⟨x,hxa,hxi⟩:=hx k hkl
               obtain⟨y,hya,hyi⟩:=hy k hkl2
               have HNE:Hid (letEqB d.ls[k] d2.ls[k]=false→uL=false):=hid (fun h=>by rw[HUL.out];exact eqL_ne k hkl hkl2 h)
               have HTR:Hid (letEqB d.ls[k] d2.ls[k]=true→∀j (h1:j<d.ls.length) (h2:j<d2.ls.length),j<k+1→letEqB d.ls[j] d2.ls[j]=true):=hid (fun hv j h1 h2 h=>by
                by_cases hjk:j<k
                ·exact hall j h1 h2 hjk
                ·obtain rfl:j=k:=by omega
                 exact hv)
               obtain⟨dx,hdx⟩:∃dx,dx=d.ls[k]:=⟨_,rfl⟩
               obtain⟨dy,hdy⟩:∃dy,dy=d2.ls[k]:=⟨_,rfl⟩
               rw[←hdx] at hxi HNE HTR
               rw[←hdy] at hyi HNE HTR
               have hlt':(k:Int)<(ll:Int):=by omega
               have hk0:(0:Int)≤(k:Int):=by omega
               have hq:∀w1,Below wp.heap.size wp w1→∀b,b<w.heap.size→b<w1.heap.size∧w1.heap[b]?=w.heap[b]?:=fun w1 h b hb=>HQ.out w1 (hbr.trans (h.mono hbr.size)) b hb
               have HC6:=hid (fun (w':World) (h:Below wp.heap.size wp w')=>(show(w'.cell? ⟨w.heap.size,7,none⟩=some (.slice (some ⟨b,o,none⟩) ll lc)∧w'.cell? ⟨w.heap.size+1,7,none⟩=some (.slice (some ⟨b2,o2,none⟩) ll lc2))∧(w'.cell? ⟨b,o+k * 13,none⟩=some (.int .i64 x.m.st.e)∧w'.cell? ⟨b,o+k * 13+1,none⟩=some (.slice x.m.st.a x.m.st.n x.m.st.c)∧w'.cell? ⟨b,o+k * 13+2,none⟩=some (.int .i64 x.m.m)∧w'.cell? ⟨b,o+k * 13+3,none⟩=some (.slice x.m.a x.m.n x.m.c)∧w'.cell? ⟨b,o+k * 13+4,none⟩=some (.int .i64 x.m.b.k)∧w'.cell? ⟨b,o+k * 13+5,none⟩=some (.int .i64 x.m.b.i)∧w'.cell? ⟨b,o+k * 13+6,none⟩=some (.int .i64 x.m.b.s)∧w'.cell? ⟨b,o+k * 13+7,none⟩=some (.string x.m.b.t)∧w'.cell? ⟨b,o+k * 13+8,none⟩=some (.slice x.m.b.la x.m.b.ll x.m.b.lc)∧w'.cell? ⟨b,o+k * 13+9,none⟩=some (.slice x.m.b.fa x.m.b.fl x.m.b.fc)∧w'.cell? ⟨b,o+k * 13+10,none⟩=some (.string x.nd)∧w'.cell? ⟨b,o+k * 13+11,none⟩=some (.string x.tx)∧w'.cell? ⟨b,o+k * 13+12,none⟩=some (.int .i64 x.vr))∧w'.cell? ⟨b2,o2+k * 13,none⟩=some (.int .i64 y.m.st.e)∧w'.cell? ⟨b2,o2+k * 13+1,none⟩=some (.slice y.m.st.a y.m.st.n y.m.st.c)∧w'.cell? ⟨b2,o2+k * 13+2,none⟩=some (.int .i64 y.m.m)∧w'.cell? ⟨b2,o2+k * 13+3,none⟩=some (.slice y.m.a y.m.n y.m.c)∧w'.cell? ⟨b2,o2+k * 13+4,none⟩=some (.int .i64 y.m.b.k)∧w'.cell? ⟨b2,o2+k * 13+5,none⟩=some (.int .i64 y.m.b.i)∧w'.cell? ⟨b2,o2+k * 13+6,none⟩=some (.int .i64 y.m.b.s)∧w'.cell? ⟨b2,o2+k * 13+7,none⟩=some (.string y.m.b.t)∧w'.cell? ⟨b2,o2+k * 13+8,none⟩=some (.slice y.m.b.la y.m.b.ll y.m.b.lc)∧w'.cell? ⟨b2,o2+k * 13+9,none⟩=some (.slice y.m.b.fa y.m.b.fl y.m.b.fc)∧w'.cell? ⟨b2,o2+k * 13+10,none⟩=some (.string y.nd)∧w'.cell? ⟨b2,o2+k * 13+11,none⟩=some (.string y.tx)∧w'.cell? ⟨b2,o2+k * 13+12,none⟩=some (.int .i64 y.vr) from by
                obtain⟨x0,x1,x2,x3,x4,x5,x6,x7,x8,x9,x10,x11,x12⟩:=AtG.let' (hxa.same (hq w' h b hb).2)
                obtain⟨y0,y1,y2,y3,y4,y5,y6,y7,y8,y9,y10,y11,y12⟩:=AtG.let' (hya.same (hq w' h b2 hb2).2)
                exact⟨⟨(cellOf (heapExt (HBL.out.trans (h.mono HBL.out.size)) GX.out) 7).trans (by show some (Value.slice la ll lc)=_;rw[hna]),(cellOf (heapExt (HBL.out.trans (h.mono HBL.out.size)) GY.out) 7).trans (by show some (Value.slice la2 ll lc2)=_;rw[hna2])⟩,⟨x0,x1,x2,x3,x4,x5,x6,x7,x8,x9,x10,x11,x12⟩,y0,y1,y2,y3,y4,y5,y6,y7,y8,y9,y10,y11,y12⟩))
               obtain⟨u,hu⟩:∃u,u=msgEqB dx.m dy.m:=⟨_,rfl⟩
               have HEL:=hid (show letEqB dx dy=(u&&((x.nd.toList==y.nd.toList)&&((x.tx.toList==y.tx.toList)&&decide (x.vr=y.vr)))) by rw[letEqB,hu,hxi.nd,hyi.nd,hxi.tx,hyi.tx,hxi.vr,hyi.vr])
               have HMSG:=hid (fun (w1:World) (h:Below wp.heap.size wp w1)=>(show Calls Tryz.prog 43 #[x.m.v,y.m.v] w1 fun e w'=>e=.returned (.bool u)∧Below w1.heap.size w1 w' from by rw[hu];exact msgEqual_call _ _ _ _ w1 (hxi.m.same (hq w1 h)) (hyi.m.same (hq w1 h))))
               dsimp only[MC.v] at HMSG
               clear hna hna2 hdx hdy hx hy hb hb2 hxa hya hxi hyi hall hbr hkl hkl2 hq hu
               go_upto_region 16 with (fail)
               clear e1 e2
               go_cut [8,9] (fun v8 v9 wz=>∃p q,v8=.pointer (some ⟨p,0,none⟩)∧v9=.pointer (some ⟨q,0,none⟩)∧wz.heap[p]?=some (.cells #[.int .i64 x.m.st.e,.slice x.m.st.a x.m.st.n x.m.st.c,.int .i64 x.m.m,.slice x.m.a x.m.n x.m.c,.int .i64 x.m.b.k,.int .i64 x.m.b.i,.int .i64 x.m.b.s,.string x.m.b.t,.slice x.m.b.la x.m.b.ll x.m.b.lc,.slice x.m.b.fa x.m.b.fl x.m.b.fc,.string x.nd,.string x.tx,.int .i64 x.vr] 70)∧wz.heap[q]?=some (.cells #[.int .i64 y.m.st.e,.slice y.m.st.a y.m.st.n y.m.st.c,.int .i64 y.m.m,.slice y.m.a y.m.n y.m.c,.int .i64 y.m.b.k,.int .i64 y.m.b.i,.int .i64 y.m.b.s,.string y.m.b.t,.slice y.m.b.la y.m.b.ll y.m.b.lc,.slice y.m.b.fa y.m.b.fl y.m.b.fc,.string y.nd,.string y.tx,.int .i64 y.vr] 70)∧Below wp.heap.size wp wz)
               case first =>
                refine wp_region_held_drew (S:=(fun w'=>Below wp.heap.size wp w')) (by kernel_rfl) ((Below.refl _ _).drew) (fun hS=>?_)
                refine tkQ 0 (v:=?_) ?_ hS ?_;rotate_left;· intro w' hw';have hcells:=HC6.out w' hw';go_simp;(try with_reducible rfl)
                simp only[Act.put,pt1,pt2,pt3,pt4,pt5,pt6]
                refine tkQ 1 (v:=?_) ?_ hS ?_;rotate_left;· intro w' hw';have hcells:=HC6.out w' hw';go_simp;(try with_reducible rfl)
                simp only[Act.put,pt1,pt2,pt3,pt4,pt5,pt6]
                refine tkQ 2 (v:=?_) ?_ hS ?_;rotate_left;· intro w' hw';have hcells:=HC6.out w' hw';go_simp;(try with_reducible rfl)
                simp only[Act.put,pt1,pt2,pt3,pt4,pt5,pt6]
                refine tkQ 3 (v:=?_) ?_ hS ?_;rotate_left;· intro w' hw';have hcells:=HC6.out w' hw';go_simp;(try with_reducible rfl)
                simp only[Act.put,pt1,pt2,pt3,pt4,pt5,pt6]
                refine tkQ 4 (v:=?_) ?_ hS ?_;rotate_left;· intro w' hw';have hcells:=HC6.out w' hw';go_simp;(try with_reducible rfl)
                simp only[Act.put,pt1,pt2,pt3,pt4,pt5,pt6]
                refine tkQ 5 (v:=?_) ?_ hS ?_;rotate_left;· intro w' hw';have hcells:=HC6.out w' hw';go_simp;(try with_reducible rfl)
                simp only[Act.put,pt1,pt2,pt3,pt4,pt5,pt6]
                refine tkQ 6 (v:=?_) ?_ hS ?_;rotate_left;· intro w' hw';have hcells:=HC6.out w' hw';go_simp;(try with_reducible rfl)
                simp only[Act.put,pt1,pt2,pt3,pt4,pt5,pt6]
                refine tkQ 7 (v:=?_) ?_ hS ?_;rotate_left;· intro w' hw';have hcells:=HC6.out w' hw';go_simp;(try with_reducible rfl)
                simp only[Act.put,pt1,pt2,pt3,pt4,pt5,pt6]
                refine tkQ 8 (v:=?_) ?_ hS ?_;rotate_left;· intro w' hw';have hcells:=HC6.out w' hw';go_simp;(try with_reducible rfl)
                simp only[Act.put,pt1,pt2,pt3,pt4,pt5,pt6]
                refine tkQ 9 (v:=?_) ?_ hS ?_;rotate_left;· intro w' hw';have hcells:=HC6.out w' hw';go_simp;(try with_reducible rfl)
                simp only[Act.put,pt1,pt2,pt3,pt4,pt5,pt6]
                refine wpAnyH_ready (rs:=[10,11]) (by kernel_rfl) (by simp) ?_
                refine AllReadyH.cons (o:=_) rfl (fun K hK=>?_) ?_
                ·refine step_alloc_gen (by rfl) _ (by rfl) #[.int .i64 0,.slice none 0 0,.int .i64 0,.slice none 0 0,.int .i64 0,.int .i64 0,.int .i64 0,.string ByteArray.empty,.slice none 0 0,.slice none 0 0,.string ByteArray.empty,.string ByteArray.empty,.int .i64 0] 13 wp.heap.size (rfl) infoLe13 (by rfl) ?_
                 intro V1 hv1 hb1 hz1
                 refine hK.out _ _ (hS.trans (hb1.mono (by omega))) (fun hS=>?_)
                 clear hK K
                 (try simp only[Act.put,pt1,pt2,pt3,pt4,pt5,pt6])
                 refine wpAnyH_ready (rs:=[11]) (by kernel_rfl) (by simp) ?_
                 refine arQ fun K hK=>?_
                 refine step_alloc_gen (by rfl) _ (by rfl) #[.int .i64 0,.slice none 0 0,.int .i64 0,.slice none 0 0,.int .i64 0,.int .i64 0,.int .i64 0,.string ByteArray.empty,.slice none 0 0,.slice none 0 0,.string ByteArray.empty,.string ByteArray.empty,.int .i64 0] 13 (wp.heap.size+1) (hz1) infoLe13 (by rfl) ?_
                 intro V2 hv2 hb2 hz2
                 refine hK.out _ _ (hS.trans (hb2.mono (by omega))) (fun hS=>?_)
                 clear hK K
                 (try simp only[Act.put,pt1,pt2,pt3,pt4,pt5,pt6])
                 refine wpAnyH_ready (rs:=[12]) (by kernel_rfl) (by simp) ?_
                 refine arQ fun K hK=>?_
                 refine step_store_whole (by rfl) _ _ _ (by rfl) wp.heap.size #[.int .i64 0,.slice none 0 0,.int .i64 0,.slice none 0 0,.int .i64 0,.int .i64 0,.int .i64 0,.string ByteArray.empty,.slice none 0 0,.slice none 0 0,.string ByteArray.empty,.string ByteArray.empty,.int .i64 0] #[.int .i64 x.m.st.e,.slice x.m.st.a x.m.st.n x.m.st.c,.int .i64 x.m.m,.slice x.m.a x.m.n x.m.c,.int .i64 x.m.b.k,.int .i64 x.m.b.i,.int .i64 x.m.b.s,.string x.m.b.t,.slice x.m.b.la x.m.b.ll x.m.b.lc,.slice x.m.b.fa x.m.b.fl x.m.b.fc,.string x.nd,.string x.tx,.int .i64 x.vr] 70 (by rfl) (by rfl) ((hb2.block _ (by omega)).trans hv1) (size_of_info infoLe13) (by rfl) (by simp[Value.oneCell']) ?_
                 intro V3 hv3 ho3 hz3 hb3
                 refine hK.out _ _ (hS.trans (hb3.mono (by omega))) (fun hS=>?_)
                 clear hK K
                 (try simp only[Act.put,pt1,pt2,pt3,pt4,pt5,pt6])
                 refine wpAnyH_ready (rs:=[13]) (by kernel_rfl) (by simp) ?_
                 refine arQ fun K hK=>?_
                 refine step_store_whole (by rfl) _ _ _ (by rfl) (wp.heap.size+1) #[.int .i64 0,.slice none 0 0,.int .i64 0,.slice none 0 0,.int .i64 0,.int .i64 0,.int .i64 0,.string ByteArray.empty,.slice none 0 0,.slice none 0 0,.string ByteArray.empty,.string ByteArray.empty,.int .i64 0] #[.int .i64 y.m.st.e,.slice y.m.st.a y.m.st.n y.m.st.c,.int .i64 y.m.m,.slice y.m.a y.m.n y.m.c,.int .i64 y.m.b.k,.int .i64 y.m.b.i,.int .i64 y.m.b.s,.string y.m.b.t,.slice y.m.b.la y.m.b.ll y.m.b.lc,.slice y.m.b.fa y.m.b.fl y.m.b.fc,.string y.nd,.string y.tx,.int .i64 y.vr] 70 (by rfl) (by rfl) ((ho3 _ (by omega)).trans hv2) (size_of_info infoLe13) (by rfl) (by simp[Value.oneCell']) ?_
                 intro V4 hv4 ho4 hz4 hb4
                 refine hK.out _ _ (hS.trans (hb4.mono (by omega))) (fun hS=>?_)
                 clear hK K
                 (try simp only[Act.put,pt1,pt2,pt3,pt4,pt5,pt6])
                 refine wpAnyH_done (by kernel_rfl) ?_ _
                 (try dsimp only)
                 have fp4:=(ho4 wp.heap.size (by omega)).trans hv3
                 have hS4:=hid hS;have HP4:=hid fp4;have HQ4:=hid hv4
                 clear hS hv1 hv2 hv3 hv4 hb1 hb2 hb3 hb4 hz1 hz2 hz3 hz4 ho3 ho4 fp4
                 go_wp2
                 go_meet
                 exact⟨wp.heap.size,(wp.heap.size+1),rfl,rfl,HP4.out,HQ4.out,hS4.out⟩
                refine arQ fun K hK=>?_
                refine step_alloc_gen (by rfl) _ (by rfl) #[.int .i64 0,.slice none 0 0,.int .i64 0,.slice none 0 0,.int .i64 0,.int .i64 0,.int .i64 0,.string ByteArray.empty,.slice none 0 0,.slice none 0 0,.string ByteArray.empty,.string ByteArray.empty,.int .i64 0] 13 wp.heap.size (rfl) infoLe13 (by rfl) ?_
                intro V1 hv1 hb1 hz1
                refine hK.out _ _ (hS.trans (hb1.mono (by omega))) (fun hS=>?_)
                clear hK K
                (try simp only[Act.put,pt1,pt2,pt3,pt4,pt5,pt6])
                refine wpAnyH_ready (rs:=[10]) (by kernel_rfl) (by simp) ?_
                refine arQ fun K hK=>?_
                refine step_alloc_gen (by rfl) _ (by rfl) #[.int .i64 0,.slice none 0 0,.int .i64 0,.slice none 0 0,.int .i64 0,.int .i64 0,.int .i64 0,.string ByteArray.empty,.slice none 0 0,.slice none 0 0,.string ByteArray.empty,.string ByteArray.empty,.int .i64 0] 13 (wp.heap.size+1) (hz1) infoLe13 (by rfl) ?_
                intro V2 hv2 hb2 hz2
                refine hK.out _ _ (hS.trans (hb2.mono (by omega))) (fun hS=>?_)
                clear hK K
                (try simp only[Act.put,pt1,pt2,pt3,pt4,pt5,pt6])
                refine wpAnyH_ready (rs:=[12]) (by kernel_rfl) (by simp) ?_
                refine arQ fun K hK=>?_
                refine step_store_whole (by rfl) _ _ _ (by rfl) (wp.heap.size+1) #[.int .i64 0,.slice none 0 0,.int .i64 0,.slice none 0 0,.int .i64 0,.int .i64 0,.int .i64 0,.string ByteArray.empty,.slice none 0 0,.slice none 0 0,.string ByteArray.empty,.string ByteArray.empty,.int .i64 0] #[.int .i64 x.m.st.e,.slice x.m.st.a x.m.st.n x.m.st.c,.int .i64 x.m.m,.slice x.m.a x.m.n x.m.c,.int .i64 x.m.b.k,.int .i64 x.m.b.i,.int .i64 x.m.b.s,.string x.m.b.t,.slice x.m.b.la x.m.b.ll x.m.b.lc,.slice x.m.b.fa x.m.b.fl x.m.b.fc,.string x.nd,.string x.tx,.int .i64 x.vr] 70 (by rfl) (by rfl) hv2 (size_of_info infoLe13) (by rfl) (by simp[Value.oneCell']) ?_
                intro V3 hv3 ho3 hz3 hb3
                refine hK.out _ _ (hS.trans (hb3.mono (by omega))) (fun hS=>?_)
                clear hK K
                (try simp only[Act.put,pt1,pt2,pt3,pt4,pt5,pt6])
                refine wpAnyH_ready (rs:=[13]) (by kernel_rfl) (by simp) ?_
                refine arQ fun K hK=>?_
                refine step_store_whole (by rfl) _ _ _ (by rfl) wp.heap.size #[.int .i64 0,.slice none 0 0,.int .i64 0,.slice none 0 0,.int .i64 0,.int .i64 0,.int .i64 0,.string ByteArray.empty,.slice none 0 0,.slice none 0 0,.string ByteArray.empty,.string ByteArray.empty,.int .i64 0] #[.int .i64 y.m.st.e,.slice y.m.st.a y.m.st.n y.m.st.c,.int .i64 y.m.m,.slice y.m.a y.m.n y.m.c,.int .i64 y.m.b.k,.int .i64 y.m.b.i,.int .i64 y.m.b.s,.string y.m.b.t,.slice y.m.b.la y.m.b.ll y.m.b.lc,.slice y.m.b.fa y.m.b.fl y.m.b.fc,.string y.nd,.string y.tx,.int .i64 y.vr] 70 (by rfl) (by rfl) ((ho3 _ (by omega)).trans ((hb2.block _ (by omega)).trans hv1)) (size_of_info infoLe13) (by rfl) (by simp[Value.oneCell']) ?_
                intro V4 hv4 ho4 hz4 hb4
                refine hK.out _ _ (hS.trans (hb4.mono (by omega))) (fun hS=>?_)
                clear hK K
                (try simp only[Act.put,pt1,pt2,pt3,pt4,pt5,pt6])
                refine wpAnyH_done (by kernel_rfl) ?_ _
                (try dsimp only)
                have fp4:=(ho4 (wp.heap.size+1) (by omega)).trans hv3
                have hS4:=hid hS;have HP4:=hid fp4;have HQ4:=hid hv4
                clear hS hv1 hv2 hv3 hv4 hb1 hb2 hb3 hb4 hz1 hz2 hz3 hz4 ho3 ho4 fp4
                go_wp2
                go_meet
                exact⟨(wp.heap.size+1),wp.heap.size,rfl,rfl,HP4.out,HQ4.out,hS4.out⟩
               case rest =>
               obtain⟨p,q,rfl,rfl,hx,hy,hbz⟩:=hcut
               obtain⟨Wc,hWc⟩:∃Wc,Wc=wc:=⟨_,rfl⟩
               rw[←hWc] at hx hy hbz ⊢
               clear hWc
               have HMS:=hid (HMSG.out Wc hbz)
               have HB:=hid hbz
               have a0:=cellOf hx 0;have a1:=cellOf hx 1;have a2:=cellOf hx 2;have a3:=cellOf hx 3;have a4:=cellOf hx 4;have a5:=cellOf hx 5;have a6:=cellOf hx 6;have a7:=cellOf hx 7;have a8:=cellOf hx 8;have a9:=cellOf hx 9;have a10:=cellOf hx 10;have a11:=cellOf hx 11;have a12:=cellOf hx 12;(try dsimp only at a0 a1 a2 a3 a4 a5 a6 a7 a8 a9 a10 a11 a12)
               have b0:=cellOf hy 0;have b1:=cellOf hy 1;have b2:=cellOf hy 2;have b3:=cellOf hy 3;have b4:=cellOf hy 4;have b5:=cellOf hy 5;have b6:=cellOf hy 6;have b7:=cellOf hy 7;have b8:=cellOf hy 8;have b9:=cellOf hy 9;have b10:=cellOf hy 10;have b11:=cellOf hy 11;have b12:=cellOf hy 12;(try dsimp only at b0 b1 b2 b3 b4 b5 b6 b7 b8 b9 b10 b11 b12)
               clear hx hy hbz HMSG HC6
               cases q1:(x.nd.toList==y.nd.toList)
               ·go_wp2
                go_ret
                exact⟨retB (by rw[HE.out,HNE.out (by rw[HEL.out];simp[q1])];simp),HBW.out.trans ((HBL.out.trans (HB.out.mono HBL.out.size)).mono HBW.out.size)⟩
               ·cases q2:(x.tx.toList==y.tx.toList)
                ·go_wp2
                 go_ret
                 exact⟨retB (by rw[HE.out,HNE.out (by rw[HEL.out];simp[q1,q2])];simp),HBW.out.trans ((HBL.out.trans (HB.out.mono HBL.out.size)).mono HBW.out.size)⟩
                ·by_cases q3:x.vr=y.vr
                 ·cases u
                  ·go_wp2_with (go_at_call 43;refine HMS.out.mono ?_;rintro e w1 ⟨rfl,hb1⟩;have HB1:=hid hb1;clear hb1)
                   go_ret
                   exact⟨retB (by rw[HE.out,HNE.out (by rw[HEL.out];simp)];simp),HBW.out.trans ((HBL.out.trans ((HB.out.trans (HB1.out.mono HB.out.size)).mono HBL.out.size)).mono HBW.out.size)⟩
                  ·have htr:=HTR.out (by rw[HEL.out];simp[q1,q2,q3])
                   have HTR2:=hid htr
                   clear htr
                   go_wp2_with (go_at_call 43;refine HMS.out.mono ?_;rintro e w1 ⟨rfl,hb1⟩;have HB1:=hid hb1;clear hb1)
                   go_roundw
                   case rel=>exact⟨k+1,by omega,by go_num,HTR2.out,HBL.out.trans ((HB.out.trans (HB1.out.mono HB.out.size)).mono HBL.out.size)⟩
                   case measure=>simp[intOf];omega
                 ·go_wp2
                  go_ret
                  exact⟨retB (by rw[HE.out,HNE.out (by rw[HEL.out];simp[q1,q2,q3])];simp),HBW.out.trans ((HBL.out.trans (HB.out.mono HBL.out.size)).mono HBW.out.size)⟩
              ·obtain rfl:k=ll:=by omega
               have rL:uL=true:=by rw[HUL.out];exact eqL_of (f:=letEqB) (by have h1:=HD.out.ls.len;have h2:=HD2.out.ls.len;dsimp only at h1 h2;omega) fun j h1 h2=>hall j h1 h2 (by have:=HD.out.ls.len;dsimp only at this;omega)
               have RL:=hid rL
               clear hall hbr hlt hk rL
               go_wp2
               go_ret
               exact⟨retB (by rw[HE.out,RN.out,RQ.out,RL.out];simp),HBW.out.trans ((HBL.out).mono HBW.out.size)⟩
        ·have q6i:¬ (ll:Int)=(ll2:Int):=by omega
         go_wp2_with (first | (go_at_call 119;clear F1;refine HA1.out.mono ?_;rintro e w1 ⟨rfl,hb1⟩;have HB1:=hid hb1;have hx1:=heapExt hb1 GX.out;have hy1:=heapExt hb1 GY.out;have x5:=cellOf hx1 5;have x6:=cellOf hx1 6;have x7:=cellOf hx1 7;(try dsimp only at x5 x6 x7);have y5:=cellOf hy1 5;have y6:=cellOf hy1 6;have y7:=cellOf hy1 7;(try dsimp only at y5 y6 y7);clear hx1 hy1 hb1) | (go_at_call 119;refine(HA2.out _ HB1.out).mono ?_;rintro e w2 ⟨rfl,hb2⟩;have HB2:=hid (HB1.out.trans (hb2.mono HB1.out.size));have hx2:=heapExt HB2.out GX.out;have hy2:=heapExt HB2.out GY.out;clear x5 x6 x7 y5 y6 y7;have x6:=cellOf hx2 6;have x7:=cellOf hx2 7;(try dsimp only at x6 x7);have y6:=cellOf hy2 6;have y7:=cellOf hy2 7;(try dsimp only at y6 y7);clear hx2 hy2 hb2))
         go_ret
         exact⟨retB (by rw[HE.out];rw[HLL.out q6];simp),HBW.out.trans ((HB2.out).mono HBW.out.size)⟩
       ·have q5i:¬ (ql:Int)=(ql2:Int):=by omega
        go_wp2_with (first | (go_at_call 119;clear F1;refine HA1.out.mono ?_;rintro e w1 ⟨rfl,hb1⟩;have HB1:=hid hb1;have hx1:=heapExt hb1 GX.out;have hy1:=heapExt hb1 GY.out;have x5:=cellOf hx1 5;have x6:=cellOf hx1 6;have x7:=cellOf hx1 7;(try dsimp only at x5 x6 x7);have y5:=cellOf hy1 5;have y6:=cellOf hy1 6;have y7:=cellOf hy1 7;(try dsimp only at y5 y6 y7);clear hx1 hy1 hb1) | (go_at_call 119;refine(HA2.out _ HB1.out).mono ?_;rintro e w2 ⟨rfl,hb2⟩;have HB2:=hid (HB1.out.trans (hb2.mono HB1.out.size));have hx2:=heapExt HB2.out GX.out;have hy2:=heapExt HB2.out GY.out;clear x5 x6 x7 y5 y6 y7;have x6:=cellOf hx2 6;have x7:=cellOf hx2 7;(try dsimp only at x6 x7);have y6:=cellOf hy2 6;have y7:=cellOf hy2 7;(try dsimp only at y6 y7);clear hx2 hy2 hb2))
        go_ret
        exact⟨retB (by rw[HE.out];rw[HLQ.out q5];simp),HBW.out.trans ((HB2.out).mono HBW.out.size)⟩
    ·have q4i:¬ (nl:Int)=(nl2:Int):=by omega
     go_wp2
     go_ret
     exact⟨retB (by rw[HE.out];rw[HLN.out q4];simp),HBW.out⟩
   ·go_wp2
    go_ret
    exact⟨retB (by rw[HE.out];simp[q1,q2,q3]),HBW.out⟩
  ·go_wp2
   go_ret
   exact⟨retB (by rw[HE.out];simp[q1,q2]),HBW.out⟩
 ·go_wp2
  go_ret
  exact⟨retB (by rw[HE.out];simp[q1]),HBW.out⟩
end
end Go.Proofs.YteladbdfiannjaaGreatDoor
