/-
  manifoldlaw47.same, snapshot.Equal. Condition: both snapshots can be read as data.
-/
import Derived.Test.YteladbdfiannjaaGreatDoorSP43Mrg
namespace Go.Proofs.YteladbdfiannjaaGreatDoor
set_option linter.unusedVariables false
set_option maxRecDepth 100000
set_option maxHeartbeats 64000000
set_option linter.unusedSimpArgs false
open Go Go.RowKit Go.Shelf
theorem infoMac8:(Tryz.prog.info? 27).map (fun i=>(i.zero,i.size))=some (some (.agg #[.int .i64 0,.int .i64 0,.int .i64 0,.slice none 0 0,.slice none 0 0,.slice none 0 0,.slice none 0 0,.slice none 0 0]),8):=by kernel_rfl
theorem same47_call (c c2:SnC) (d d2:Snp) (w:World) (hd:IsSn (· < w.heap.size) w c d) (hd2:IsSn (· < w.heap.size) w c2 d2) :
 Calls Tryz.prog 11 #[c.w,c2.w] w fun e w'=>e=.returned (.bool (snEqB d d2))∧Below w.heap.size w w':=by
 obtain⟨u,hu⟩:∃u,u=macEqB d d2:=⟨_,rfl⟩
 obtain⟨v,hv⟩:∃v,v=eqL efEqS d.ps d2.ps:=⟨_,rfl⟩
 have HE:=hid (show snEqB d d2=(u&&v) by rw[←macEqB_and,hu,hv])
 obtain⟨W,hW⟩:∃W,W=((w.alloc (.cells #[.int .i64 c.v,.int .i64 c.e,.int .i64 c.t,.slice c.na c.nl c.nc,.slice c.aa c.al c.ac,.slice c.sa c.sl c.sc,.slice c.qa c.ql c.qc,.slice c.la c.ll c.lc,.slice c.pa c.pl c.pc] 30)).alloc (.cells #[.int .i64 c2.v,.int .i64 c2.e,.int .i64 c2.t,.slice c2.na c2.nl c2.nc,.slice c2.aa c2.al c2.ac,.slice c2.sa c2.sl c2.sc,.slice c2.qa c2.ql c2.qc,.slice c2.la c2.ll c2.lc,.slice c2.pa c2.pl c2.pc] 30)):=⟨_,rfl⟩
 have hbW:Below w.heap.size w W:=by rw[hW];exact((Below.refl _ w).alloc (Nat.le_refl _) _).alloc (by simp) _
 have gx:W.heap[w.heap.size]?=some (.cells #[.int .i64 c.v,.int .i64 c.e,.int .i64 c.t,.slice c.na c.nl c.nc,.slice c.aa c.al c.ac,.slice c.sa c.sl c.sc,.slice c.qa c.ql c.qc,.slice c.la c.ll c.lc,.slice c.pa c.pl c.pc] 30):=by rw[hW];exact heapAlloc _ (heap_alloc_new w _)
 have gy:W.heap[w.heap.size+1]?=some (.cells #[.int .i64 c2.v,.int .i64 c2.e,.int .i64 c2.t,.slice c2.na c2.nl c2.nc,.slice c2.aa c2.al c2.ac,.slice c2.sa c2.sl c2.sc,.slice c2.qa c2.ql c2.qc,.slice c2.la c2.ll c2.lc,.slice c2.pa c2.pl c2.pc] 30):=by rw[hW];exact heapNewAt _ _ _ (by simp)
 have hq:∀w',Below W.heap.size W w'→∀b,b<w.heap.size→b<w'.heap.size∧w'.heap[b]?=w.heap[b]?:=fun w' h b hb=>⟨by have h1:=h.size;have h2:=hbW.size;omega,(h.block b (by have h2:=hbW.size;omega)).trans (hbW.block b hb)⟩
 have HM:Hid (Calls Tryz.prog 53 #[.agg #[.int .i64 c.v,.int .i64 c.e,.int .i64 c.t,.slice c.na c.nl c.nc,.slice c.aa c.al c.ac,.slice c.sa c.sl c.sc,.slice c.qa c.ql c.qc,.slice c.la c.ll c.lc],.agg #[.int .i64 c2.v,.int .i64 c2.e,.int .i64 c2.t,.slice c2.na c2.nl c2.nc,.slice c2.aa c2.al c2.ac,.slice c2.sa c2.sl c2.sc,.slice c2.qa c2.ql c2.qc,.slice c2.la c2.ll c2.lc]] W fun e w'=>e=.returned (.bool u)∧Below W.heap.size W w'):=hid (by rw[hu];exact sameMachine_call c c2 d d2 W (hd.same (hq W (Below.refl _ _))) (hd2.same (hq W (Below.refl _ _))))
 have HF:=hid (fun (w1:World) (h:Below W.heap.size W w1)=>(show Calls Tryz.prog 54 #[.slice c.pa c.pl c.pc,.slice c2.pa c2.pl c2.pc] w1 fun e w'=>e=.returned (.bool v)∧Below w1.heap.size w1 w' from by rw[hv];exact sameEffects_call _ _ _ _ _ _ _ _ w1 (hd.ps.same (hq w1 h)) (hd2.ps.same (hq w1 h))))
 have GX:=hid gx;have GY:=hid gy;have HW:=hid hW;have HBW:=hid hbW
 have a0:=cellOf gx 0;have a1:=cellOf gx 1;have a2:=cellOf gx 2;have a3:=cellOf gx 3;have a4:=cellOf gx 4;have a5:=cellOf gx 5;have a6:=cellOf gx 6;have a7:=cellOf gx 7;(try dsimp only at a0 a1 a2 a3 a4 a5 a6 a7)
 have b0:=cellOf gy 0;have b1:=cellOf gy 1;have b2:=cellOf gy 2;have b3:=cellOf gy 3;have b4:=cellOf gy 4;have b5:=cellOf gy 5;have b6:=cellOf gy 6;have b7:=cellOf gy 7;(try dsimp only at b0 b1 b2 b3 b4 b5 b6 b7)
 clear hd hd2 gx gy hW hbW hq hu hv
 dsimp only[SnC.w]
 go_enter Tryz.func11,Tryz.ntmps11
 go_upto_region 1 with (fail)
 rw[←HW.out]
 cases u
 ·go_wp2_with (go_at_call 53;refine HM.out.mono ?_;rintro e w1 ⟨rfl,hb1⟩;have HB1:=hid hb1;have x8:=cellOf (heapExt hb1 GX.out) 8;have y8:=cellOf (heapExt hb1 GY.out) 8;(try dsimp only at x8 y8);clear hb1)
  go_ret
  exact⟨retB (by rw[HE.out];simp),HBW.out.trans ((HB1.out).mono HBW.out.size)⟩
 ·go_wp2_with (first | (go_at_call 53;refine HM.out.mono ?_;rintro e w1 ⟨rfl,hb1⟩;have HB1:=hid hb1;have x8:=cellOf (heapExt hb1 GX.out) 8;have y8:=cellOf (heapExt hb1 GY.out) 8;(try dsimp only at x8 y8);clear hb1) | (go_at_call 54;refine(HF.out _ HB1.out).mono ?_;rintro e w2 ⟨rfl,hb2⟩;have HB2:=hid (HB1.out.trans (hb2.mono HB1.out.size));clear hb2))
  go_ret
  exact⟨retB (by rw[HE.out];simp),HBW.out.trans ((HB2.out).mono HBW.out.size)⟩
section
attribute [-go_sem] loadCellsFrom storeCells
attribute [local go_sem] lcf0 lcf1 lcf2 lcf3 lcf4 lcf5 lcf6 lcf7 lcf8 stc0 stc1
theorem snEqual_call (c c2:SnC) (d d2:Snp) (w:World) (hd:IsSn (· < w.heap.size) w c d) (hd2:IsSn (· < w.heap.size) w c2 d2) :
 Calls Tryz.prog 10 #[c.w,c2.w] w fun e w'=>e=.returned (.bool (snEqB d d2))∧Below w.heap.size w w':=by
 obtain⟨u1,hu1⟩:∃u,u=eqL staEqB d.ns d2.ns:=⟨_,rfl⟩
 obtain⟨u2,hu2⟩:∃u,u=eqL cntEqB d.ar d2.ar:=⟨_,rfl⟩
 obtain⟨u3,hu3⟩:∃u,u=eqL cntEqB d.se d2.se:=⟨_,rfl⟩
 obtain⟨u4,hu4⟩:∃u,u=eqL queEqB d.qs d2.qs:=⟨_,rfl⟩
 obtain⟨u5,hu5⟩:∃u,u=eqL letEqB d.ls d2.ls:=⟨_,rfl⟩
 obtain⟨u6,hu6⟩:∃u,u=eqL efEqS d.ps d2.ps:=⟨_,rfl⟩
 have HE:=hid (show snEqB d d2=(decide (c.v=c2.v)&&(decide (c.e=c2.e)&&(decide (c.t=c2.t)&&(u1&&(u2&&(u3&&(u4&&(u5&&u6)))))))) by
  rw[snEqB,hu1,hu2,hu3,hu4,hu5,hu6,hd.v,hd2.v,hd.e,hd2.e,hd.t,hd2.t])
 obtain⟨W,hW⟩:∃W,W=((w.alloc (.cells #[.int .i64 c.v,.int .i64 c.e,.int .i64 c.t,.slice c.na c.nl c.nc,.slice c.aa c.al c.ac,.slice c.sa c.sl c.sc,.slice c.qa c.ql c.qc,.slice c.la c.ll c.lc,.slice c.pa c.pl c.pc] 30)).alloc (.cells #[.int .i64 c2.v,.int .i64 c2.e,.int .i64 c2.t,.slice c2.na c2.nl c2.nc,.slice c2.aa c2.al c2.ac,.slice c2.sa c2.sl c2.sc,.slice c2.qa c2.ql c2.qc,.slice c2.la c2.ll c2.lc,.slice c2.pa c2.pl c2.pc] 30)):=⟨_,rfl⟩
 have hbW:Below w.heap.size w W:=by rw[hW];exact((Below.refl _ w).alloc (Nat.le_refl _) _).alloc (by simp) _
 have gx:W.heap[w.heap.size]?=some (.cells #[.int .i64 c.v,.int .i64 c.e,.int .i64 c.t,.slice c.na c.nl c.nc,.slice c.aa c.al c.ac,.slice c.sa c.sl c.sc,.slice c.qa c.ql c.qc,.slice c.la c.ll c.lc,.slice c.pa c.pl c.pc] 30):=by rw[hW];exact heapAlloc _ (heap_alloc_new w _)
 have gy:W.heap[w.heap.size+1]?=some (.cells #[.int .i64 c2.v,.int .i64 c2.e,.int .i64 c2.t,.slice c2.na c2.nl c2.nc,.slice c2.aa c2.al c2.ac,.slice c2.sa c2.sl c2.sc,.slice c2.qa c2.ql c2.qc,.slice c2.la c2.ll c2.lc,.slice c2.pa c2.pl c2.pc] 30):=by rw[hW];exact heapNewAt _ _ _ (by simp)
 have hq:∀w',Below W.heap.size W w'→∀b,b<w.heap.size→b<w'.heap.size∧w'.heap[b]?=w.heap[b]?:=fun w' h b hb=>⟨by have h1:=h.size;have h2:=hbW.size;omega,(h.block b (by have h2:=hbW.size;omega)).trans (hbW.block b hb)⟩
 have H1:=hid (fun (w1:World) (h:Below W.heap.size W w1)=>(show Calls Tryz.prog 47 #[.slice c.na c.nl c.nc,.slice c2.na c2.nl c2.nc,.func (.func 48) #[] #[]] w1 fun e w'=>e=.returned (.bool u1)∧Below w1.heap.size w1 w' from by rw[hu1];exact eqFnSta_call _ _ _ _ _ _ _ _ w1 (hd.ns.same (hq w1 h)) (hd2.ns.same (hq w1 h))))
 have H2:=hid (fun (w1:World) (h:Below W.heap.size W w1)=>(show Calls Tryz.prog 49 #[.slice c.aa c.al c.ac,.slice c2.aa c2.al c2.ac] w1 fun e w'=>e=.returned (.bool u2)∧Below w1.heap.size w1 w' from by rw[hu2];exact eqCnt_call _ _ _ _ _ _ _ _ w1 (hd.ar.same (hq w1 h)) (hd2.ar.same (hq w1 h))))
 have H3:=hid (fun (w1:World) (h:Below W.heap.size W w1)=>(show Calls Tryz.prog 49 #[.slice c.sa c.sl c.sc,.slice c2.sa c2.sl c2.sc] w1 fun e w'=>e=.returned (.bool u3)∧Below w1.heap.size w1 w' from by rw[hu3];exact eqCnt_call _ _ _ _ _ _ _ _ w1 (hd.se.same (hq w1 h)) (hd2.se.same (hq w1 h))))
 have H4:=hid (fun (w1:World) (h:Below W.heap.size W w1)=>(show Calls Tryz.prog 50 #[.slice c.qa c.ql c.qc,.slice c2.qa c2.ql c2.qc] w1 fun e w'=>e=.returned (.bool u4)∧Below w1.heap.size w1 w' from by rw[hu4];exact eqQue_call _ _ _ _ _ _ _ _ w1 (hd.qs.same (hq w1 h)) (hd2.qs.same (hq w1 h))))
 have H5:=hid (fun (w1:World) (h:Below W.heap.size W w1)=>(show Calls Tryz.prog 51 #[.slice c.la c.ll c.lc,.slice c2.la c2.ll c2.lc,.func (.func 42) #[] #[]] w1 fun e w'=>e=.returned (.bool u5)∧Below w1.heap.size w1 w' from by rw[hu5];exact eqFnLet_call _ _ _ _ _ _ _ _ w1 (hd.ls.same (hq w1 h)) (hd2.ls.same (hq w1 h))))
 have H6:=hid (fun (w1:World) (h:Below W.heap.size W w1)=>(show Calls Tryz.prog 52 #[.slice c.pa c.pl c.pc,.slice c2.pa c2.pl c2.pc,.func (.func 44) #[] #[]] w1 fun e w'=>e=.returned (.bool u6)∧Below w1.heap.size w1 w' from by rw[hu6];exact eqFnEf_call _ _ _ _ _ _ _ _ w1 (hd.ps.same (hq w1 h)) (hd2.ps.same (hq w1 h))))
 have HC1:=hid (fun (w':World) (h:Below W.heap.size W w')=>(show(w'.cell? ⟨w.heap.size,0,none⟩=some (.int .i64 c.v)∧w'.cell? ⟨w.heap.size,1,none⟩=some (.int .i64 c.e)∧w'.cell? ⟨w.heap.size,2,none⟩=some (.int .i64 c.t)∧w'.cell? ⟨w.heap.size,3,none⟩=some (.slice c.na c.nl c.nc)∧w'.cell? ⟨w.heap.size,4,none⟩=some (.slice c.aa c.al c.ac)∧w'.cell? ⟨w.heap.size,5,none⟩=some (.slice c.sa c.sl c.sc)∧w'.cell? ⟨w.heap.size,6,none⟩=some (.slice c.qa c.ql c.qc)∧w'.cell? ⟨w.heap.size,7,none⟩=some (.slice c.la c.ll c.lc))∧w'.cell? ⟨w.heap.size+1,0,none⟩=some (.int .i64 c2.v)∧w'.cell? ⟨w.heap.size+1,1,none⟩=some (.int .i64 c2.e)∧w'.cell? ⟨w.heap.size+1,2,none⟩=some (.int .i64 c2.t)∧w'.cell? ⟨w.heap.size+1,3,none⟩=some (.slice c2.na c2.nl c2.nc)∧w'.cell? ⟨w.heap.size+1,4,none⟩=some (.slice c2.aa c2.al c2.ac)∧w'.cell? ⟨w.heap.size+1,5,none⟩=some (.slice c2.sa c2.sl c2.sc)∧w'.cell? ⟨w.heap.size+1,6,none⟩=some (.slice c2.qa c2.ql c2.qc)∧w'.cell? ⟨w.heap.size+1,7,none⟩=some (.slice c2.la c2.ll c2.lc) from⟨⟨cellOf (heapExt h gx) 0,cellOf (heapExt h gx) 1,cellOf (heapExt h gx) 2,cellOf (heapExt h gx) 3,cellOf (heapExt h gx) 4,cellOf (heapExt h gx) 5,cellOf (heapExt h gx) 6,cellOf (heapExt h gx) 7⟩,cellOf (heapExt h gy) 0,cellOf (heapExt h gy) 1,cellOf (heapExt h gy) 2,cellOf (heapExt h gy) 3,cellOf (heapExt h gy) 4,cellOf (heapExt h gy) 5,cellOf (heapExt h gy) 6,cellOf (heapExt h gy) 7⟩))
 have GX:=hid gx;have GY:=hid gy;have HW:=hid hW;have HBW:=hid hbW
 clear hd hd2 gx gy hW hbW hq hu1 hu2 hu3 hu4 hu5 hu6
 dsimp only[SnC.w]
 have F2:Hid True:=trivial
 go_enter Tryz.func10,Tryz.ntmps10
 go_upto_region 1 with (fail)
 rw[←HW.out]
 go_cut [5,6] (fun v5 v6 wz=>∃p q,v5=.pointer (some ⟨p,0,none⟩)∧v6=.pointer (some ⟨q,0,none⟩)∧wz.heap[p]?=some (.cells #[.int .i64 c.v,.int .i64 c.e,.int .i64 c.t,.slice c.na c.nl c.nc,.slice c.aa c.al c.ac,.slice c.sa c.sl c.sc,.slice c.qa c.ql c.qc,.slice c.la c.ll c.lc] 27)∧wz.heap[q]?=some (.cells #[.int .i64 c2.v,.int .i64 c2.e,.int .i64 c2.t,.slice c2.na c2.nl c2.nc,.slice c2.aa c2.al c2.ac,.slice c2.sa c2.sl c2.sc,.slice c2.qa c2.ql c2.qc,.slice c2.la c2.ll c2.lc] 27)∧Below W.heap.size W wz)
 case first =>
  refine wp_region_held_drew (S:=(fun w'=>Below W.heap.size W w')) (by kernel_rfl) ((Below.refl _ _).drew) (fun hS=>?_)
  refine tkQ 0 (v:=?_) ?_ hS ?_;rotate_left;· intro w' hw';have hcells:=HC1.out w' hw';go_simp;(try with_reducible rfl)
  simp only[Act.put,pt1,pt2,pt3,pt4,pt5,pt6]
  refine tkQ 1 (v:=?_) ?_ hS ?_;rotate_left;· intro w' hw';have hcells:=HC1.out w' hw';go_simp;(try with_reducible rfl)
  simp only[Act.put,pt1,pt2,pt3,pt4,pt5,pt6]
  refine tkQ 2 (v:=?_) ?_ hS ?_;rotate_left;· intro w' hw';have hcells:=HC1.out w' hw';go_simp;(try with_reducible rfl)
  simp only[Act.put,pt1,pt2,pt3,pt4,pt5,pt6]
  refine tkQ 3 (v:=?_) ?_ hS ?_;rotate_left;· intro w' hw';have hcells:=HC1.out w' hw';go_simp;(try with_reducible rfl)
  simp only[Act.put,pt1,pt2,pt3,pt4,pt5,pt6]
  refine wpAnyH_ready (rs:=[4,5]) (by kernel_rfl) (by simp) ?_
  refine AllReadyH.cons (o:=_) rfl (fun K hK=>?_) ?_
  ·refine step_alloc_gen (by rfl) _ (by rfl) #[.int .i64 0,.int .i64 0,.int .i64 0,.slice none 0 0,.slice none 0 0,.slice none 0 0,.slice none 0 0,.slice none 0 0] 8 W.heap.size (rfl) infoMac8 (by rfl) ?_
   intro V1 hv1 hb1 hz1
   refine hK.out _ _ (hS.trans (hb1.mono (by omega))) (fun hS=>?_)
   clear hK K
   (try simp only[Act.put,pt1,pt2,pt3,pt4,pt5,pt6])
   refine wpAnyH_ready (rs:=[5]) (by kernel_rfl) (by simp) ?_
   refine arQ fun K hK=>?_
   refine step_alloc_gen (by rfl) _ (by rfl) #[.int .i64 0,.int .i64 0,.int .i64 0,.slice none 0 0,.slice none 0 0,.slice none 0 0,.slice none 0 0,.slice none 0 0] 8 (W.heap.size+1) (hz1) infoMac8 (by rfl) ?_
   intro V2 hv2 hb2 hz2
   refine hK.out _ _ (hS.trans (hb2.mono (by omega))) (fun hS=>?_)
   clear hK K
   (try simp only[Act.put,pt1,pt2,pt3,pt4,pt5,pt6])
   refine wpAnyH_ready (rs:=[6]) (by kernel_rfl) (by simp) ?_
   refine arQ fun K hK=>?_
   refine step_store_whole (by rfl) _ _ _ (by rfl) W.heap.size #[.int .i64 0,.int .i64 0,.int .i64 0,.slice none 0 0,.slice none 0 0,.slice none 0 0,.slice none 0 0,.slice none 0 0] #[.int .i64 c.v,.int .i64 c.e,.int .i64 c.t,.slice c.na c.nl c.nc,.slice c.aa c.al c.ac,.slice c.sa c.sl c.sc,.slice c.qa c.ql c.qc,.slice c.la c.ll c.lc] 27 (by rfl) (by rfl) ((hb2.block _ (by omega)).trans hv1) (size_of_info infoMac8) (by rfl) (by simp[Value.oneCell']) ?_
   intro V3 hv3 ho3 hz3 hb3
   refine hK.out _ _ (hS.trans (hb3.mono (by omega))) (fun hS=>?_)
   clear hK K
   (try simp only[Act.put,pt1,pt2,pt3,pt4,pt5,pt6])
   refine wpAnyH_ready (rs:=[7]) (by kernel_rfl) (by simp) ?_
   refine arQ fun K hK=>?_
   refine step_store_whole (by rfl) _ _ _ (by rfl) (W.heap.size+1) #[.int .i64 0,.int .i64 0,.int .i64 0,.slice none 0 0,.slice none 0 0,.slice none 0 0,.slice none 0 0,.slice none 0 0] #[.int .i64 c2.v,.int .i64 c2.e,.int .i64 c2.t,.slice c2.na c2.nl c2.nc,.slice c2.aa c2.al c2.ac,.slice c2.sa c2.sl c2.sc,.slice c2.qa c2.ql c2.qc,.slice c2.la c2.ll c2.lc] 27 (by rfl) (by rfl) ((ho3 _ (by omega)).trans hv2) (size_of_info infoMac8) (by rfl) (by simp[Value.oneCell']) ?_
   intro V4 hv4 ho4 hz4 hb4
   refine hK.out _ _ (hS.trans (hb4.mono (by omega))) (fun hS=>?_)
   clear hK K
   (try simp only[Act.put,pt1,pt2,pt3,pt4,pt5,pt6])
   refine wpAnyH_done (by kernel_rfl) ?_ _
   (try dsimp only)
   have fp4:=(ho4 W.heap.size (by omega)).trans hv3
   have hS4:=hid hS;have HP4:=hid fp4;have HQ4:=hid hv4
   clear hS hv1 hv2 hv3 hv4 hb1 hb2 hb3 hb4 hz1 hz2 hz3 hz4 ho3 ho4 fp4
   go_wp2
   go_meet
   exact⟨W.heap.size,(W.heap.size+1),rfl,rfl,HP4.out,HQ4.out,hS4.out⟩
  refine arQ fun K hK=>?_
  refine step_alloc_gen (by rfl) _ (by rfl) #[.int .i64 0,.int .i64 0,.int .i64 0,.slice none 0 0,.slice none 0 0,.slice none 0 0,.slice none 0 0,.slice none 0 0] 8 W.heap.size (rfl) infoMac8 (by rfl) ?_
  intro V1 hv1 hb1 hz1
  refine hK.out _ _ (hS.trans (hb1.mono (by omega))) (fun hS=>?_)
  clear hK K
  (try simp only[Act.put,pt1,pt2,pt3,pt4,pt5,pt6])
  refine wpAnyH_ready (rs:=[4]) (by kernel_rfl) (by simp) ?_
  refine arQ fun K hK=>?_
  refine step_alloc_gen (by rfl) _ (by rfl) #[.int .i64 0,.int .i64 0,.int .i64 0,.slice none 0 0,.slice none 0 0,.slice none 0 0,.slice none 0 0,.slice none 0 0] 8 (W.heap.size+1) (hz1) infoMac8 (by rfl) ?_
  intro V2 hv2 hb2 hz2
  refine hK.out _ _ (hS.trans (hb2.mono (by omega))) (fun hS=>?_)
  clear hK K
  (try simp only[Act.put,pt1,pt2,pt3,pt4,pt5,pt6])
  refine wpAnyH_ready (rs:=[6]) (by kernel_rfl) (by simp) ?_
  refine arQ fun K hK=>?_
  refine step_store_whole (by rfl) _ _ _ (by rfl) (W.heap.size+1) #[.int .i64 0,.int .i64 0,.int .i64 0,.slice none 0 0,.slice none 0 0,.slice none 0 0,.slice none 0 0,.slice none 0 0] #[.int .i64 c.v,.int .i64 c.e,.int .i64 c.t,.slice c.na c.nl c.nc,.slice c.aa c.al c.ac,.slice c.sa c.sl c.sc,.slice c.qa c.ql c.qc,.slice c.la c.ll c.lc] 27 (by rfl) (by rfl) hv2 (size_of_info infoMac8) (by rfl) (by simp[Value.oneCell']) ?_
  intro V3 hv3 ho3 hz3 hb3
  refine hK.out _ _ (hS.trans (hb3.mono (by omega))) (fun hS=>?_)
  clear hK K
  (try simp only[Act.put,pt1,pt2,pt3,pt4,pt5,pt6])
  refine wpAnyH_ready (rs:=[7]) (by kernel_rfl) (by simp) ?_
  refine arQ fun K hK=>?_
  refine step_store_whole (by rfl) _ _ _ (by rfl) W.heap.size #[.int .i64 0,.int .i64 0,.int .i64 0,.slice none 0 0,.slice none 0 0,.slice none 0 0,.slice none 0 0,.slice none 0 0] #[.int .i64 c2.v,.int .i64 c2.e,.int .i64 c2.t,.slice c2.na c2.nl c2.nc,.slice c2.aa c2.al c2.ac,.slice c2.sa c2.sl c2.sc,.slice c2.qa c2.ql c2.qc,.slice c2.la c2.ll c2.lc] 27 (by rfl) (by rfl) ((ho3 _ (by omega)).trans ((hb2.block _ (by omega)).trans hv1)) (size_of_info infoMac8) (by rfl) (by simp[Value.oneCell']) ?_
  intro V4 hv4 ho4 hz4 hb4
  refine hK.out _ _ (hS.trans (hb4.mono (by omega))) (fun hS=>?_)
  clear hK K
  (try simp only[Act.put,pt1,pt2,pt3,pt4,pt5,pt6])
  refine wpAnyH_done (by kernel_rfl) ?_ _
  (try dsimp only)
  have fp4:=(ho4 (W.heap.size+1) (by omega)).trans hv3
  have hS4:=hid hS;have HP4:=hid fp4;have HQ4:=hid hv4
  clear hS hv1 hv2 hv3 hv4 hb1 hb2 hb3 hb4 hz1 hz2 hz3 hz4 ho3 ho4 fp4
  go_wp2
  go_meet
  exact⟨(W.heap.size+1),W.heap.size,rfl,rfl,HP4.out,HQ4.out,hS4.out⟩
 case rest =>
 obtain⟨p,q,rfl,rfl,hx,hy,hbz⟩:=hcut
 obtain⟨V,hV⟩:∃V,V=wc:=⟨_,rfl⟩
 rw[←hV] at hx hy hbz ⊢
 clear hV
 have GP:=hid hx;have GQ:=hid hy;have HBV:=hid hbz
 have GX2:=hid (heapExt hbz GX.out);have GY2:=hid (heapExt hbz GY.out)
 have B0:=hid (Below.refl V.heap.size V)
 have a0:=cellOf hx 0;have a1:=cellOf hx 1;have a2:=cellOf hx 2;have a3:=cellOf hx 3;(try dsimp only at a0 a1 a2 a3)
 have b0:=cellOf hy 0;have b1:=cellOf hy 1;have b2:=cellOf hy 2;have b3:=cellOf hy 3;(try dsimp only at b0 b1 b2 b3)
 clear hx hy hbz HC1
 by_cases q1:c.v=c2.v
 ·by_cases q2:c.e=c2.e
  ·by_cases q3:c.t=c2.t
   ·cases u1
    ·go_wp2_with (first | (go_at_call 47;refine(H1.out _ (HBV.out.trans ((B0.out).mono HBV.out.size))).mono ?_;rintro e w1 ⟨rfl,hb1⟩;have B1:=hid ((B0.out).trans (hb1.mono (B0.out).size));have m2:=cellOf (heapExt B1.out GP.out) 4;have n2:=cellOf (heapExt B1.out GQ.out) 4;(try dsimp only at m2 n2);clear hb1))
     go_ret
     exact⟨retB (by rw[HE.out];simp),HBW.out.trans ((HBV.out.trans ((B1.out).mono HBV.out.size)).mono HBW.out.size)⟩
    ·cases u2
     ·go_wp2_with (first | (go_at_call 47;refine(H1.out _ (HBV.out.trans ((B0.out).mono HBV.out.size))).mono ?_;rintro e w1 ⟨rfl,hb1⟩;have B1:=hid ((B0.out).trans (hb1.mono (B0.out).size));have m2:=cellOf (heapExt B1.out GP.out) 4;have n2:=cellOf (heapExt B1.out GQ.out) 4;(try dsimp only at m2 n2);clear hb1) | (go_at_call 49;clear F2;refine(H2.out _ (HBV.out.trans ((B1.out).mono HBV.out.size))).mono ?_;rintro e w2 ⟨rfl,hb2⟩;have B2:=hid ((B1.out).trans (hb2.mono (B1.out).size));have m3:=cellOf (heapExt B2.out GP.out) 5;have n3:=cellOf (heapExt B2.out GQ.out) 5;(try dsimp only at m3 n3);clear hb2))
      go_ret
      exact⟨retB (by rw[HE.out];simp),HBW.out.trans ((HBV.out.trans ((B2.out).mono HBV.out.size)).mono HBW.out.size)⟩
     ·cases u3
      ·go_wp2_with (first | (go_at_call 47;refine(H1.out _ (HBV.out.trans ((B0.out).mono HBV.out.size))).mono ?_;rintro e w1 ⟨rfl,hb1⟩;have B1:=hid ((B0.out).trans (hb1.mono (B0.out).size));have m2:=cellOf (heapExt B1.out GP.out) 4;have n2:=cellOf (heapExt B1.out GQ.out) 4;(try dsimp only at m2 n2);clear hb1) | (go_at_call 49;clear F2;refine(H2.out _ (HBV.out.trans ((B1.out).mono HBV.out.size))).mono ?_;rintro e w2 ⟨rfl,hb2⟩;have B2:=hid ((B1.out).trans (hb2.mono (B1.out).size));have m3:=cellOf (heapExt B2.out GP.out) 5;have n3:=cellOf (heapExt B2.out GQ.out) 5;(try dsimp only at m3 n3);clear hb2) | (go_at_call 49;refine(H3.out _ (HBV.out.trans ((B2.out).mono HBV.out.size))).mono ?_;rintro e w3 ⟨rfl,hb3⟩;have B3:=hid ((B2.out).trans (hb3.mono (B2.out).size));have m4:=cellOf (heapExt B3.out GP.out) 6;have n4:=cellOf (heapExt B3.out GQ.out) 6;(try dsimp only at m4 n4);clear hb3))
       go_ret
       exact⟨retB (by rw[HE.out];simp),HBW.out.trans ((HBV.out.trans ((B3.out).mono HBV.out.size)).mono HBW.out.size)⟩
      ·cases u4
       ·go_wp2_with (first | (go_at_call 47;refine(H1.out _ (HBV.out.trans ((B0.out).mono HBV.out.size))).mono ?_;rintro e w1 ⟨rfl,hb1⟩;have B1:=hid ((B0.out).trans (hb1.mono (B0.out).size));have m2:=cellOf (heapExt B1.out GP.out) 4;have n2:=cellOf (heapExt B1.out GQ.out) 4;(try dsimp only at m2 n2);clear hb1) | (go_at_call 49;clear F2;refine(H2.out _ (HBV.out.trans ((B1.out).mono HBV.out.size))).mono ?_;rintro e w2 ⟨rfl,hb2⟩;have B2:=hid ((B1.out).trans (hb2.mono (B1.out).size));have m3:=cellOf (heapExt B2.out GP.out) 5;have n3:=cellOf (heapExt B2.out GQ.out) 5;(try dsimp only at m3 n3);clear hb2) | (go_at_call 49;refine(H3.out _ (HBV.out.trans ((B2.out).mono HBV.out.size))).mono ?_;rintro e w3 ⟨rfl,hb3⟩;have B3:=hid ((B2.out).trans (hb3.mono (B2.out).size));have m4:=cellOf (heapExt B3.out GP.out) 6;have n4:=cellOf (heapExt B3.out GQ.out) 6;(try dsimp only at m4 n4);clear hb3) | (go_at_call 50;refine(H4.out _ (HBV.out.trans ((B3.out).mono HBV.out.size))).mono ?_;rintro e w4 ⟨rfl,hb4⟩;have B4:=hid ((B3.out).trans (hb4.mono (B3.out).size));have m5:=cellOf (heapExt B4.out GP.out) 7;have n5:=cellOf (heapExt B4.out GQ.out) 7;(try dsimp only at m5 n5);clear hb4))
        go_ret
        exact⟨retB (by rw[HE.out];simp),HBW.out.trans ((HBV.out.trans ((B4.out).mono HBV.out.size)).mono HBW.out.size)⟩
       ·cases u5
        ·go_wp2_with (first | (go_at_call 47;refine(H1.out _ (HBV.out.trans ((B0.out).mono HBV.out.size))).mono ?_;rintro e w1 ⟨rfl,hb1⟩;have B1:=hid ((B0.out).trans (hb1.mono (B0.out).size));have m2:=cellOf (heapExt B1.out GP.out) 4;have n2:=cellOf (heapExt B1.out GQ.out) 4;(try dsimp only at m2 n2);clear hb1) | (go_at_call 49;clear F2;refine(H2.out _ (HBV.out.trans ((B1.out).mono HBV.out.size))).mono ?_;rintro e w2 ⟨rfl,hb2⟩;have B2:=hid ((B1.out).trans (hb2.mono (B1.out).size));have m3:=cellOf (heapExt B2.out GP.out) 5;have n3:=cellOf (heapExt B2.out GQ.out) 5;(try dsimp only at m3 n3);clear hb2) | (go_at_call 49;refine(H3.out _ (HBV.out.trans ((B2.out).mono HBV.out.size))).mono ?_;rintro e w3 ⟨rfl,hb3⟩;have B3:=hid ((B2.out).trans (hb3.mono (B2.out).size));have m4:=cellOf (heapExt B3.out GP.out) 6;have n4:=cellOf (heapExt B3.out GQ.out) 6;(try dsimp only at m4 n4);clear hb3) | (go_at_call 50;refine(H4.out _ (HBV.out.trans ((B3.out).mono HBV.out.size))).mono ?_;rintro e w4 ⟨rfl,hb4⟩;have B4:=hid ((B3.out).trans (hb4.mono (B3.out).size));have m5:=cellOf (heapExt B4.out GP.out) 7;have n5:=cellOf (heapExt B4.out GQ.out) 7;(try dsimp only at m5 n5);clear hb4) | (go_at_call 51;refine(H5.out _ (HBV.out.trans ((B4.out).mono HBV.out.size))).mono ?_;rintro e w5 ⟨rfl,hb5⟩;have B5:=hid ((B4.out).trans (hb5.mono (B4.out).size));have m6:=cellOf (heapExt B5.out GX2.out) 8;have n6:=cellOf (heapExt B5.out GY2.out) 8;(try dsimp only at m6 n6);clear hb5))
         go_ret
         exact⟨retB (by rw[HE.out];simp),HBW.out.trans ((HBV.out.trans ((B5.out).mono HBV.out.size)).mono HBW.out.size)⟩
        ·cases u6
         ·go_wp2_with (first | (go_at_call 47;refine(H1.out _ (HBV.out.trans ((B0.out).mono HBV.out.size))).mono ?_;rintro e w1 ⟨rfl,hb1⟩;have B1:=hid ((B0.out).trans (hb1.mono (B0.out).size));have m2:=cellOf (heapExt B1.out GP.out) 4;have n2:=cellOf (heapExt B1.out GQ.out) 4;(try dsimp only at m2 n2);clear hb1) | (go_at_call 49;clear F2;refine(H2.out _ (HBV.out.trans ((B1.out).mono HBV.out.size))).mono ?_;rintro e w2 ⟨rfl,hb2⟩;have B2:=hid ((B1.out).trans (hb2.mono (B1.out).size));have m3:=cellOf (heapExt B2.out GP.out) 5;have n3:=cellOf (heapExt B2.out GQ.out) 5;(try dsimp only at m3 n3);clear hb2) | (go_at_call 49;refine(H3.out _ (HBV.out.trans ((B2.out).mono HBV.out.size))).mono ?_;rintro e w3 ⟨rfl,hb3⟩;have B3:=hid ((B2.out).trans (hb3.mono (B2.out).size));have m4:=cellOf (heapExt B3.out GP.out) 6;have n4:=cellOf (heapExt B3.out GQ.out) 6;(try dsimp only at m4 n4);clear hb3) | (go_at_call 50;refine(H4.out _ (HBV.out.trans ((B3.out).mono HBV.out.size))).mono ?_;rintro e w4 ⟨rfl,hb4⟩;have B4:=hid ((B3.out).trans (hb4.mono (B3.out).size));have m5:=cellOf (heapExt B4.out GP.out) 7;have n5:=cellOf (heapExt B4.out GQ.out) 7;(try dsimp only at m5 n5);clear hb4) | (go_at_call 51;refine(H5.out _ (HBV.out.trans ((B4.out).mono HBV.out.size))).mono ?_;rintro e w5 ⟨rfl,hb5⟩;have B5:=hid ((B4.out).trans (hb5.mono (B4.out).size));have m6:=cellOf (heapExt B5.out GX2.out) 8;have n6:=cellOf (heapExt B5.out GY2.out) 8;(try dsimp only at m6 n6);clear hb5) | (go_at_call 52;refine(H6.out _ (HBV.out.trans ((B5.out).mono HBV.out.size))).mono ?_;rintro e w6 ⟨rfl,hb6⟩;have B6:=hid ((B5.out).trans (hb6.mono (B5.out).size));clear hb6))
          go_ret
          exact⟨retB (by rw[HE.out];simp),HBW.out.trans ((HBV.out.trans ((B6.out).mono HBV.out.size)).mono HBW.out.size)⟩
         ·go_wp2_with (first | (go_at_call 47;refine(H1.out _ (HBV.out.trans ((B0.out).mono HBV.out.size))).mono ?_;rintro e w1 ⟨rfl,hb1⟩;have B1:=hid ((B0.out).trans (hb1.mono (B0.out).size));have m2:=cellOf (heapExt B1.out GP.out) 4;have n2:=cellOf (heapExt B1.out GQ.out) 4;(try dsimp only at m2 n2);clear hb1) | (go_at_call 49;clear F2;refine(H2.out _ (HBV.out.trans ((B1.out).mono HBV.out.size))).mono ?_;rintro e w2 ⟨rfl,hb2⟩;have B2:=hid ((B1.out).trans (hb2.mono (B1.out).size));have m3:=cellOf (heapExt B2.out GP.out) 5;have n3:=cellOf (heapExt B2.out GQ.out) 5;(try dsimp only at m3 n3);clear hb2) | (go_at_call 49;refine(H3.out _ (HBV.out.trans ((B2.out).mono HBV.out.size))).mono ?_;rintro e w3 ⟨rfl,hb3⟩;have B3:=hid ((B2.out).trans (hb3.mono (B2.out).size));have m4:=cellOf (heapExt B3.out GP.out) 6;have n4:=cellOf (heapExt B3.out GQ.out) 6;(try dsimp only at m4 n4);clear hb3) | (go_at_call 50;refine(H4.out _ (HBV.out.trans ((B3.out).mono HBV.out.size))).mono ?_;rintro e w4 ⟨rfl,hb4⟩;have B4:=hid ((B3.out).trans (hb4.mono (B3.out).size));have m5:=cellOf (heapExt B4.out GP.out) 7;have n5:=cellOf (heapExt B4.out GQ.out) 7;(try dsimp only at m5 n5);clear hb4) | (go_at_call 51;refine(H5.out _ (HBV.out.trans ((B4.out).mono HBV.out.size))).mono ?_;rintro e w5 ⟨rfl,hb5⟩;have B5:=hid ((B4.out).trans (hb5.mono (B4.out).size));have m6:=cellOf (heapExt B5.out GX2.out) 8;have n6:=cellOf (heapExt B5.out GY2.out) 8;(try dsimp only at m6 n6);clear hb5) | (go_at_call 52;refine(H6.out _ (HBV.out.trans ((B5.out).mono HBV.out.size))).mono ?_;rintro e w6 ⟨rfl,hb6⟩;have B6:=hid ((B5.out).trans (hb6.mono (B5.out).size));clear hb6))
          go_ret
          exact⟨retB (by rw[HE.out];simp[q1,q2,q3]),HBW.out.trans ((HBV.out.trans ((B6.out).mono HBV.out.size)).mono HBW.out.size)⟩
   ·go_wp2
    go_ret
    exact⟨retB (by rw[HE.out];simp[q1,q2,q3]),HBW.out.trans ((HBV.out).mono HBW.out.size)⟩
  ·go_wp2
   go_ret
   exact⟨retB (by rw[HE.out];simp[q1,q2]),HBW.out.trans ((HBV.out).mono HBW.out.size)⟩
 ·go_wp2
  go_ret
  exact⟨retB (by rw[HE.out];simp[q1]),HBW.out.trans ((HBV.out).mono HBW.out.size)⟩
end
end Go.Proofs.YteladbdfiannjaaGreatDoor
