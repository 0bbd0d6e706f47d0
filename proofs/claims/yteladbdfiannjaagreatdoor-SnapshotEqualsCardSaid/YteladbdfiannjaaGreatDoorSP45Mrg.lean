/-
  The law SnapshotEquals returns true. Conditions: both snapshots can be read as data; Tabs, NumVars.
-/
import Derived.Test.YteladbdfiannjaaGreatDoorSP44Mrg
import Derived.Test.YteladbdfiannjaaGreatDoorSP29Mrg
import Derived.Test.YteladbdfiannjaaGreatDoorSP35Mrg
namespace Go.Proofs.YteladbdfiannjaaGreatDoor
set_option linter.unusedVariables false
set_option maxRecDepth 100000
set_option maxHeartbeats 64000000
set_option linter.unusedSimpArgs false
open Go Go.RowKit Go.Shelf
theorem infoSnp9:(Tryz.prog.info? 30).map (fun i=>(i.zero,i.size))=some (some (.agg #[.int .i64 0,.int .i64 0,.int .i64 0,.slice none 0 0,.slice none 0 0,.slice none 0 0,.slice none 0 0,.slice none 0 0,.slice none 0 0]),9):=by kernel_rfl
theorem snEquals_call (c:SnC) (d:Snp) (c2:SnC) (d2:Snp) (w:World) (hd:IsSn (· < w.heap.size) w c d) (hd2:IsSn (· < w.heap.size) w c2 d2) (hT:Tabs w) (hN:NumVars w):Calls Tryz.prog 4 #[c.w,c2.w] w fun e w'=>e=.returned (.bool true)∧Below w.heap.size w w':=by
 obtain⟨W0,hW0⟩:∃W,W=((w.alloc (.cells #[.int .i64 c.v,.int .i64 c.e,.int .i64 c.t,.slice c.na c.nl c.nc,.slice c.aa c.al c.ac,.slice c.sa c.sl c.sc,.slice c.qa c.ql c.qc,.slice c.la c.ll c.lc,.slice c.pa c.pl c.pc] 30)).alloc (.cells #[.int .i64 c2.v,.int .i64 c2.e,.int .i64 c2.t,.slice c2.na c2.nl c2.nc,.slice c2.aa c2.al c2.ac,.slice c2.sa c2.sl c2.sc,.slice c2.qa c2.ql c2.qc,.slice c2.la c2.ll c2.lc,.slice c2.pa c2.pl c2.pc] 30)):=⟨_,rfl⟩
 have hb0:Below w.heap.size w W0:=by rw[hW0];exact((Below.refl _ w).alloc (Nat.le_refl _) _).alloc (by simp) _
 have gx:W0.heap[w.heap.size]?=some (.cells #[.int .i64 c.v,.int .i64 c.e,.int .i64 c.t,.slice c.na c.nl c.nc,.slice c.aa c.al c.ac,.slice c.sa c.sl c.sc,.slice c.qa c.ql c.qc,.slice c.la c.ll c.lc,.slice c.pa c.pl c.pc] 30):=by rw[hW0];exact heapAlloc _ (heap_alloc_new w _)
 have gy:W0.heap[(w.heap.size+1)]?=some (.cells #[.int .i64 c2.v,.int .i64 c2.e,.int .i64 c2.t,.slice c2.na c2.nl c2.nc,.slice c2.aa c2.al c2.ac,.slice c2.sa c2.sl c2.sc,.slice c2.qa c2.ql c2.qc,.slice c2.la c2.ll c2.lc,.slice c2.pa c2.pl c2.pc] 30):=by rw[hW0];exact heapNewAt _ _ _ (by simp)
 have hz0:W0.heap.size=w.heap.size+2:=by rw[hW0];simp
 have hq:∀w',Below W0.heap.size W0 w'→∀b,b<w.heap.size→b<w'.heap.size∧w'.heap[b]?=w.heap[b]?:=fun w' h b hb=>⟨by have h1:=h.size;omega,(h.block b (by omega)).trans (hb0.block b hb)⟩
 have HSH1:=hid (fun (w':World) (h:Below W0.heap.size W0 w')=>short_call c d w' (hd.same (hq w' h)))
 have HSH2:=hid (fun (w':World) (h:Below W0.heap.size W0 w')=>short_call c2 d2 w' (hd2.same (hq w' h)))
 have HC1:=hid (fun (w':World) (h:Below W0.heap.size W0 w')=>(show(w'.cell? ⟨w.heap.size,0,none⟩=some (.int .i64 c.v)∧w'.cell? ⟨w.heap.size,1,none⟩=some (.int .i64 c.e)∧w'.cell? ⟨w.heap.size,2,none⟩=some (.int .i64 c.t)∧w'.cell? ⟨w.heap.size,3,none⟩=some (.slice c.na c.nl c.nc)∧w'.cell? ⟨w.heap.size,4,none⟩=some (.slice c.aa c.al c.ac)∧w'.cell? ⟨w.heap.size,5,none⟩=some (.slice c.sa c.sl c.sc)∧w'.cell? ⟨w.heap.size,6,none⟩=some (.slice c.qa c.ql c.qc)∧w'.cell? ⟨w.heap.size,7,none⟩=some (.slice c.la c.ll c.lc)∧w'.cell? ⟨w.heap.size,8,none⟩=some (.slice c.pa c.pl c.pc))∧w'.cell? ⟨(w.heap.size+1),0,none⟩=some (.int .i64 c2.v)∧w'.cell? ⟨(w.heap.size+1),1,none⟩=some (.int .i64 c2.e)∧w'.cell? ⟨(w.heap.size+1),2,none⟩=some (.int .i64 c2.t)∧w'.cell? ⟨(w.heap.size+1),3,none⟩=some (.slice c2.na c2.nl c2.nc)∧w'.cell? ⟨(w.heap.size+1),4,none⟩=some (.slice c2.aa c2.al c2.ac)∧w'.cell? ⟨(w.heap.size+1),5,none⟩=some (.slice c2.sa c2.sl c2.sc)∧w'.cell? ⟨(w.heap.size+1),6,none⟩=some (.slice c2.qa c2.ql c2.qc)∧w'.cell? ⟨(w.heap.size+1),7,none⟩=some (.slice c2.la c2.ll c2.lc)∧w'.cell? ⟨(w.heap.size+1),8,none⟩=some (.slice c2.pa c2.pl c2.pc) from⟨⟨cellOf (heapExt h gx) 0,cellOf (heapExt h gx) 1,cellOf (heapExt h gx) 2,cellOf (heapExt h gx) 3,cellOf (heapExt h gx) 4,cellOf (heapExt h gx) 5,cellOf (heapExt h gx) 6,cellOf (heapExt h gx) 7,cellOf (heapExt h gx) 8⟩,cellOf (heapExt h gy) 0,cellOf (heapExt h gy) 1,cellOf (heapExt h gy) 2,cellOf (heapExt h gy) 3,cellOf (heapExt h gy) 4,cellOf (heapExt h gy) 5,cellOf (heapExt h gy) 6,cellOf (heapExt h gy) 7,cellOf (heapExt h gy) 8⟩))
 have GX:=hid gx;have GY:=hid gy;have HB0:=hid hb0;have HZ0:=hid hz0;have HW0:=hid hW0;have HT:=hid hT;have HN:=hid hN
 obtain⟨s1,hs1⟩:∃x,x=shSn d:=⟨_,rfl⟩
 obtain⟨s2,hs2⟩:∃x,x=shSn d2:=⟨_,rfl⟩
 rw[←hs1] at HSH1
 rw[←hs2] at HSH2
 clear hd hd2 gx gy hb0 hz0 hW0 hT hN hq hs1 hs2
 dsimp only[SnC.w] at HSH1 HSH2 ⊢
 go_enter Tryz.func4,Tryz.ntmps4
 go_upto_region 1 with (fail)
 rw[←HW0.out]
 go_cut [] (fun wz=>∃x1 x2,wz.heap[w.heap.size]?=some (.cells #[.int .i64 x1.v,.int .i64 x1.e,.int .i64 x1.t,.slice x1.na x1.nl x1.nc,.slice x1.aa x1.al x1.ac,.slice x1.sa x1.sl x1.sc,.slice x1.qa x1.ql x1.qc,.slice x1.la x1.ll x1.lc,.slice x1.pa x1.pl x1.pc] 30)∧wz.heap[(w.heap.size+1)]?=some (.cells #[.int .i64 x2.v,.int .i64 x2.e,.int .i64 x2.t,.slice x2.na x2.nl x2.nc,.slice x2.aa x2.al x2.ac,.slice x2.sa x2.sl x2.sc,.slice x2.qa x2.ql x2.qc,.slice x2.la x2.ll x2.lc,.slice x2.pa x2.pl x2.pc] 30)∧Below w.heap.size w wz∧(∀w',Below wz.heap.size wz w'→IsSn (· < w'.heap.size) w' x1 s1)∧(∀w',Below wz.heap.size wz w'→IsSn (· < w'.heap.size) w' x2 s2))
 case first =>
  refine wp_region_twoS 4 (S:=(fun w'=>Below W0.heap.size W0 w')) (by kernel_rfl) (fun _=>(Below.refl _ _).drew) ?_
  refine wpAnyT_load (i:=0) (oi:=_) (v:=?_) rfl (by decide) (by kernel_rfl) (by kernel_rfl) (by kernel_rfl) (by kernel_rfl) (by kernel_rfl) (fun _ _ _ h=>h) (Or.inl ⟨by rfl,?_⟩) (fun _=>(Below.refl _ _).drew) ?_
  rotate_left
  ·intro w' hw'
   have hcells:=HC1.out w' hw'
   go_simp
   (try with_reducible rfl)
  simp only[Act.put,pt1,pt2,pt3,pt4,pt5,pt6]
  refine wpAnyT_two (i:=1) (j:=2) (o:=_) (oj:=_) (by kernel_rfl) rfl rfl (fun K hK=>?_) (fun K hK=>?_)
  ·skip
   go_simp;go_at_call 6;refine(HSH1.out _ ((Below.refl _ _).drew)).mono ?_
   rintro e w1 ⟨x1,rfl,hb1,hi1⟩
   have B1:Hid (Below W0.heap.size W0 w1):=hid ((Below.refl _ _).drew.trans hb1)
   have I1:=hid hi1
   clear hb1 hi1
   refine hK.out _ _ (B1.out) ?_
   clear hK K
   (try simp only[Act.put,pt1,pt2,pt3,pt4,pt5,pt6])
   refine wpAnyT_step (i:=2) (o:=_) (by kernel_rfl) rfl (fun K hK=>?_)
   have hcells:=HC1.out _ (B1.out)
   go_simp
   clear hcells
   refine hK.out _ _ (B1.out) ?_
   clear hK K
   (try simp only[Act.put,pt1,pt2,pt3,pt4,pt5,pt6])
   refine wpAnyT_step (i:=3) (o:=_) (by kernel_rfl) rfl (fun K hK=>?_)
   go_simp;go_at_call 6;refine(HSH2.out _ B1.out).mono ?_
   rintro e w2 ⟨x2,rfl,hb2,hi2⟩
   have B2:Hid (Below W0.heap.size W0 w2):=hid (B1.out.trans (hb2.mono B1.out.size))
   have I2:=hid hi2
   have BB2:=hid hb2
   clear hb2 hi2
   refine hK.out _ _ (B2.out) ?_
   clear hK K
   (try simp only[Act.put,pt1,pt2,pt3,pt4,pt5,pt6])
   refine wpAnyT_one (i:=4) (o:=_) (by kernel_rfl) (by kernel_rfl) rfl (fun K hK=>?_)
   refine step_store_whole (by rfl) _ _ _ (by rfl) w.heap.size #[.int .i64 c.v,.int .i64 c.e,.int .i64 c.t,.slice c.na c.nl c.nc,.slice c.aa c.al c.ac,.slice c.sa c.sl c.sc,.slice c.qa c.ql c.qc,.slice c.la c.ll c.lc,.slice c.pa c.pl c.pc] #[.int .i64 x1.v,.int .i64 x1.e,.int .i64 x1.t,.slice x1.na x1.nl x1.nc,.slice x1.aa x1.al x1.ac,.slice x1.sa x1.sl x1.sc,.slice x1.qa x1.ql x1.qc,.slice x1.la x1.ll x1.lc,.slice x1.pa x1.pl x1.pc] 30 (by rfl) (by rfl) (heapExt B2.out GX.out) (size_of_info infoSnp9) (by rfl) (by simp[Value.oneCell']) ?_
   intro V3 hvV3 hoV3 hzV3 hbV3
   refine hK.out _ _ ?_
   clear hK K
   (try simp only[Act.put,pt1,pt2,pt3,pt4,pt5,pt6])
   refine wpAnyT_one (i:=5) (o:=_) (by kernel_rfl) (by kernel_rfl) rfl (fun K hK=>?_)
   refine step_store_whole (by rfl) _ _ _ (by rfl) (w.heap.size+1) #[.int .i64 c2.v,.int .i64 c2.e,.int .i64 c2.t,.slice c2.na c2.nl c2.nc,.slice c2.aa c2.al c2.ac,.slice c2.sa c2.sl c2.sc,.slice c2.qa c2.ql c2.qc,.slice c2.la c2.ll c2.lc,.slice c2.pa c2.pl c2.pc] #[.int .i64 x2.v,.int .i64 x2.e,.int .i64 x2.t,.slice x2.na x2.nl x2.nc,.slice x2.aa x2.al x2.ac,.slice x2.sa x2.sl x2.sc,.slice x2.qa x2.ql x2.qc,.slice x2.la x2.ll x2.lc,.slice x2.pa x2.pl x2.pc] 30 (by rfl) (by rfl) ((hoV3 _ (by omega)).trans (heapExt B2.out GY.out)) (size_of_info infoSnp9) (by rfl) (by simp[Value.oneCell']) ?_
   intro V4 hvV4 hoV4 hzV4 hbV4
   refine hK.out _ _ ?_
   clear hK K
   (try simp only[Act.put,pt1,pt2,pt3,pt4,pt5,pt6])
   refine wpAnyT_done (by kernel_rfl) ?_ _
   (try dsimp only)
   have HV3:=hid hvV3;have HV4:=hid hvV4;have HO3:=hid hoV3;have HO4:=hid hoV4;have HZ3:=hid hzV3;have HZ4:=hid hzV4;have HB3:=hid hbV3;have HB4:=hid hbV4
   clear hvV3 hvV4 hoV3 hoV4 hzV3 hzV4 hbV3 hbV4
   have hi1:Hid (∀w',Below V4.heap.size V4 w'→IsSn (· < w'.heap.size) w' x1 s1):=hid (fun w' h=>I1.out.same fun b hb=>by
    have h0:=HZ0.out;have h1:=B1.out.size;have h2:=BB2.out.size;have h3:=HZ3.out;have h4:=HZ4.out;have h5:=h.size
    have hb1:W0.heap.size≤b:=hb.1
    exact⟨by omega,(h.block b (by omega)).trans ((HO4.out b (by omega)).trans ((HO3.out b (by omega)).trans (BB2.out.block b (by omega))))⟩)
   have hi2:Hid (∀w',Below V4.heap.size V4 w'→IsSn (· < w'.heap.size) w' x2 s2):=hid (fun w' h=>I2.out.same fun b hb=>by
    have h0:=HZ0.out;have h1:=B1.out.size;have h2:=BB2.out.size;have h3:=HZ3.out;have h4:=HZ4.out;have h5:=h.size
    exact⟨by omega,(h.block b (by omega)).trans ((HO4.out b (by omega)).trans (HO3.out b (by omega)))⟩)
   have hb5:Hid (Below w.heap.size w V4):=hid (HB0.out.trans ((B2.out.mono HB0.out.size).trans (HB3.out.trans (HB4.out.mono (by omega)))))
   have hx4:Hid (V4.heap[w.heap.size]?=some (.cells #[.int .i64 x1.v,.int .i64 x1.e,.int .i64 x1.t,.slice x1.na x1.nl x1.nc,.slice x1.aa x1.al x1.ac,.slice x1.sa x1.sl x1.sc,.slice x1.qa x1.ql x1.qc,.slice x1.la x1.ll x1.lc,.slice x1.pa x1.pl x1.pc] 30)):=hid ((HO4.out _ (by omega)).trans HV3.out)
   go_wp2
   go_meet
   exact⟨x1,x2,hx4.out,HV4.out,hb5.out,hi1.out,hi2.out⟩
  ·skip
   have hcells:=HC1.out _ ((Below.refl _ _).drew)
   go_simp
   clear hcells
   refine hK.out _ _ ((Below.refl _ _).drew) ?_
   clear hK K
   (try simp only[Act.put,pt1,pt2,pt3,pt4,pt5,pt6])
   refine wpAnyT_step (i:=1) (o:=_) (by kernel_rfl) rfl (fun K hK=>?_)
   go_simp;go_at_call 6;refine(HSH1.out _ ((Below.refl _ _).drew)).mono ?_
   rintro e w1 ⟨x1,rfl,hb1,hi1⟩
   have B1:Hid (Below W0.heap.size W0 w1):=hid ((Below.refl _ _).drew.trans hb1)
   have I1:=hid hi1
   clear hb1 hi1
   refine hK.out _ _ (B1.out) ?_
   clear hK K
   (try simp only[Act.put,pt1,pt2,pt3,pt4,pt5,pt6])
   refine wpAnyT_step (i:=3) (o:=_) (by kernel_rfl) rfl (fun K hK=>?_)
   go_simp;go_at_call 6;refine(HSH2.out _ B1.out).mono ?_
   rintro e w2 ⟨x2,rfl,hb2,hi2⟩
   have B2:Hid (Below W0.heap.size W0 w2):=hid (B1.out.trans (hb2.mono B1.out.size))
   have I2:=hid hi2
   have BB2:=hid hb2
   clear hb2 hi2
   refine hK.out _ _ (B2.out) ?_
   clear hK K
   (try simp only[Act.put,pt1,pt2,pt3,pt4,pt5,pt6])
   refine wpAnyT_one (i:=4) (o:=_) (by kernel_rfl) (by kernel_rfl) rfl (fun K hK=>?_)
   refine step_store_whole (by rfl) _ _ _ (by rfl) w.heap.size #[.int .i64 c.v,.int .i64 c.e,.int .i64 c.t,.slice c.na c.nl c.nc,.slice c.aa c.al c.ac,.slice c.sa c.sl c.sc,.slice c.qa c.ql c.qc,.slice c.la c.ll c.lc,.slice c.pa c.pl c.pc] #[.int .i64 x1.v,.int .i64 x1.e,.int .i64 x1.t,.slice x1.na x1.nl x1.nc,.slice x1.aa x1.al x1.ac,.slice x1.sa x1.sl x1.sc,.slice x1.qa x1.ql x1.qc,.slice x1.la x1.ll x1.lc,.slice x1.pa x1.pl x1.pc] 30 (by rfl) (by rfl) (heapExt B2.out GX.out) (size_of_info infoSnp9) (by rfl) (by simp[Value.oneCell']) ?_
   intro V3 hvV3 hoV3 hzV3 hbV3
   refine hK.out _ _ ?_
   clear hK K
   (try simp only[Act.put,pt1,pt2,pt3,pt4,pt5,pt6])
   refine wpAnyT_one (i:=5) (o:=_) (by kernel_rfl) (by kernel_rfl) rfl (fun K hK=>?_)
   refine step_store_whole (by rfl) _ _ _ (by rfl) (w.heap.size+1) #[.int .i64 c2.v,.int .i64 c2.e,.int .i64 c2.t,.slice c2.na c2.nl c2.nc,.slice c2.aa c2.al c2.ac,.slice c2.sa c2.sl c2.sc,.slice c2.qa c2.ql c2.qc,.slice c2.la c2.ll c2.lc,.slice c2.pa c2.pl c2.pc] #[.int .i64 x2.v,.int .i64 x2.e,.int .i64 x2.t,.slice x2.na x2.nl x2.nc,.slice x2.aa x2.al x2.ac,.slice x2.sa x2.sl x2.sc,.slice x2.qa x2.ql x2.qc,.slice x2.la x2.ll x2.lc,.slice x2.pa x2.pl x2.pc] 30 (by rfl) (by rfl) ((hoV3 _ (by omega)).trans (heapExt B2.out GY.out)) (size_of_info infoSnp9) (by rfl) (by simp[Value.oneCell']) ?_
   intro V4 hvV4 hoV4 hzV4 hbV4
   refine hK.out _ _ ?_
   clear hK K
   (try simp only[Act.put,pt1,pt2,pt3,pt4,pt5,pt6])
   refine wpAnyT_done (by kernel_rfl) ?_ _
   (try dsimp only)
   have HV3:=hid hvV3;have HV4:=hid hvV4;have HO3:=hid hoV3;have HO4:=hid hoV4;have HZ3:=hid hzV3;have HZ4:=hid hzV4;have HB3:=hid hbV3;have HB4:=hid hbV4
   clear hvV3 hvV4 hoV3 hoV4 hzV3 hzV4 hbV3 hbV4
   have hi1:Hid (∀w',Below V4.heap.size V4 w'→IsSn (· < w'.heap.size) w' x1 s1):=hid (fun w' h=>I1.out.same fun b hb=>by
    have h0:=HZ0.out;have h1:=B1.out.size;have h2:=BB2.out.size;have h3:=HZ3.out;have h4:=HZ4.out;have h5:=h.size
    have hb1:W0.heap.size≤b:=hb.1
    exact⟨by omega,(h.block b (by omega)).trans ((HO4.out b (by omega)).trans ((HO3.out b (by omega)).trans (BB2.out.block b (by omega))))⟩)
   have hi2:Hid (∀w',Below V4.heap.size V4 w'→IsSn (· < w'.heap.size) w' x2 s2):=hid (fun w' h=>I2.out.same fun b hb=>by
    have h0:=HZ0.out;have h1:=B1.out.size;have h2:=BB2.out.size;have h3:=HZ3.out;have h4:=HZ4.out;have h5:=h.size
    exact⟨by omega,(h.block b (by omega)).trans ((HO4.out b (by omega)).trans (HO3.out b (by omega)))⟩)
   have hb5:Hid (Below w.heap.size w V4):=hid (HB0.out.trans ((B2.out.mono HB0.out.size).trans (HB3.out.trans (HB4.out.mono (by omega)))))
   have hx4:Hid (V4.heap[w.heap.size]?=some (.cells #[.int .i64 x1.v,.int .i64 x1.e,.int .i64 x1.t,.slice x1.na x1.nl x1.nc,.slice x1.aa x1.al x1.ac,.slice x1.sa x1.sl x1.sc,.slice x1.qa x1.ql x1.qc,.slice x1.la x1.ll x1.lc,.slice x1.pa x1.pl x1.pc] 30)):=hid ((HO4.out _ (by omega)).trans HV3.out)
   go_wp2
   go_meet
   exact⟨x1,x2,hx4.out,HV4.out,hb5.out,hi1.out,hi2.out⟩
 case rest =>
 obtain⟨x1,x2,hx4,hy4,hb5,hi1,hi2⟩:=hcut
 obtain⟨V4,hV4⟩:∃V,V=wc:=⟨_,rfl⟩
 rw[←hV4] at hx4 hy4 hb5 hi1 hi2 ⊢
 clear hV4
 have HB5:=hid hb5
 have HK:=hid (fun (w':World) (h:Below V4.heap.size V4 w')=>known47_call w' ((HT.out.below HB5.out).below h) ((HN.out.below HB5.out).below h))
 obtain⟨u,hu⟩:∃u,u=snEqB s1 s2:=⟨_,rfl⟩
 have HE1:=hid (fun (w':World) (h:Below V4.heap.size V4 w')=>snEqual_call x1 x2 s1 s2 w' (hi1 w' h) (hi2 w' h))
 have HE2:=hid (fun (w':World) (h:Below V4.heap.size V4 w')=>same47_call x1 x2 s1 s2 w' (hi1 w' h) (hi2 w' h))
 have HE3:=hid (fun (w':World) (h:Below V4.heap.size V4 w')=>snEqual_call x1 x1 s1 s1 w' (hi1 w' h) (hi1 w' h))
 rw[←hu] at HE1 HE2
 rw[snEqB_refl] at HE3
 have HC2:=hid (fun (w':World) (h:Below V4.heap.size V4 w')=>(show(w'.cell? ⟨w.heap.size,0,none⟩=some (.int .i64 x1.v)∧w'.cell? ⟨w.heap.size,1,none⟩=some (.int .i64 x1.e)∧w'.cell? ⟨w.heap.size,2,none⟩=some (.int .i64 x1.t)∧w'.cell? ⟨w.heap.size,3,none⟩=some (.slice x1.na x1.nl x1.nc)∧w'.cell? ⟨w.heap.size,4,none⟩=some (.slice x1.aa x1.al x1.ac)∧w'.cell? ⟨w.heap.size,5,none⟩=some (.slice x1.sa x1.sl x1.sc)∧w'.cell? ⟨w.heap.size,6,none⟩=some (.slice x1.qa x1.ql x1.qc)∧w'.cell? ⟨w.heap.size,7,none⟩=some (.slice x1.la x1.ll x1.lc)∧w'.cell? ⟨w.heap.size,8,none⟩=some (.slice x1.pa x1.pl x1.pc))∧w'.cell? ⟨(w.heap.size+1),0,none⟩=some (.int .i64 x2.v)∧w'.cell? ⟨(w.heap.size+1),1,none⟩=some (.int .i64 x2.e)∧w'.cell? ⟨(w.heap.size+1),2,none⟩=some (.int .i64 x2.t)∧w'.cell? ⟨(w.heap.size+1),3,none⟩=some (.slice x2.na x2.nl x2.nc)∧w'.cell? ⟨(w.heap.size+1),4,none⟩=some (.slice x2.aa x2.al x2.ac)∧w'.cell? ⟨(w.heap.size+1),5,none⟩=some (.slice x2.sa x2.sl x2.sc)∧w'.cell? ⟨(w.heap.size+1),6,none⟩=some (.slice x2.qa x2.ql x2.qc)∧w'.cell? ⟨(w.heap.size+1),7,none⟩=some (.slice x2.la x2.ll x2.lc)∧w'.cell? ⟨(w.heap.size+1),8,none⟩=some (.slice x2.pa x2.pl x2.pc) from⟨⟨cellOf (heapExt h hx4) 0,cellOf (heapExt h hx4) 1,cellOf (heapExt h hx4) 2,cellOf (heapExt h hx4) 3,cellOf (heapExt h hx4) 4,cellOf (heapExt h hx4) 5,cellOf (heapExt h hx4) 6,cellOf (heapExt h hx4) 7,cellOf (heapExt h hx4) 8⟩,cellOf (heapExt h hy4) 0,cellOf (heapExt h hy4) 1,cellOf (heapExt h hy4) 2,cellOf (heapExt h hy4) 3,cellOf (heapExt h hy4) 4,cellOf (heapExt h hy4) 5,cellOf (heapExt h hy4) 6,cellOf (heapExt h hy4) 7,cellOf (heapExt h hy4) 8⟩))
 dsimp only[SnC.w] at HE1 HE2 HE3
 clear hi1 hi2 hu hx4 hy4 hb5 HC1
 go_upto_region 2 with (fail)
 refine wp_region_held_drew (S:=(fun w'=>Below V4.heap.size V4 w')) (by kernel_rfl) ((Below.refl _ _).drew) (fun hS=>?_)
 refine wpAnyH_ready (rs:=[0]) (by kernel_rfl) (by simp) ?_
 refine arQ fun K hK=>?_
 go_simp;go_at_call 7;refine(HK.out _ hS).mono ?_
 rintro e w5 ⟨rfl,hbw5⟩
 refine hK.out _ _ (hS.trans (hbw5.mono hS.size)) (fun hS=>?_)
 clear hK K
 (try simp only[Act.put,pt1,pt2,pt3,pt4,pt5,pt6])
 refine tkQ 1 (v:=?_) ?_ hS ?_;rotate_left;· intro w' hw';have hcells:=HC2.out w' hw';go_simp;(try with_reducible rfl)
 simp only[Act.put,pt1,pt2,pt3,pt4,pt5,pt6]
 refine tkQ 2 (v:=?_) ?_ hS ?_;rotate_left;· intro w' hw';have hcells:=HC2.out w' hw';go_simp;(try with_reducible rfl)
 simp only[Act.put,pt1,pt2,pt3,pt4,pt5,pt6]
 refine tkQ 3 (v:=?_) ?_ hS ?_;rotate_left;· intro w' hw';have hcells:=HC2.out w' hw';go_simp;(try with_reducible rfl)
 simp only[Act.put,pt1,pt2,pt3,pt4,pt5,pt6]
 refine tkQ 5 (v:=?_) ?_ hS ?_;rotate_left;· intro w' hw';have hcells:=HC2.out w' hw';go_simp;(try with_reducible rfl)
 simp only[Act.put,pt1,pt2,pt3,pt4,pt5,pt6]
 refine tkQ 6 (v:=?_) ?_ hS ?_;rotate_left;· intro w' hw';have hcells:=HC2.out w' hw';go_simp;(try with_reducible rfl)
 simp only[Act.put,pt1,pt2,pt3,pt4,pt5,pt6]
 refine wpAnyH_ready (rs:=[4]) (by kernel_rfl) (by simp) ?_
 refine arQ fun K hK=>?_
 go_simp;go_at_call 10;refine(HE1.out _ hS).mono ?_
 rintro e w6 ⟨rfl,hbw6⟩
 refine hK.out _ _ (hS.trans (hbw6.mono hS.size)) (fun hS=>?_)
 clear hK K
 (try simp only[Act.put,pt1,pt2,pt3,pt4,pt5,pt6])
 refine wpAnyH_ready (rs:=[7]) (by kernel_rfl) (by simp) ?_
 refine arQ fun K hK=>?_
 go_simp;go_at_call 11;refine(HE2.out _ hS).mono ?_
 rintro e w7 ⟨rfl,hbw7⟩
 refine hK.out _ _ (hS.trans (hbw7.mono hS.size)) (fun hS=>?_)
 clear hK K
 (try simp only[Act.put,pt1,pt2,pt3,pt4,pt5,pt6])
 refine tkQ 8 (v:=?_) ?_ hS ?_;rotate_left;· intro w' hw';have hcells:=HC2.out w' hw';go_simp;(try with_reducible rfl)
 simp only[Act.put,pt1,pt2,pt3,pt4,pt5,pt6]
 refine tkQ 9 (v:=?_) ?_ hS ?_;rotate_left;· intro w' hw';have hcells:=HC2.out w' hw';go_simp;(try with_reducible rfl)
 simp only[Act.put,pt1,pt2,pt3,pt4,pt5,pt6]
 refine tkQ 10 (v:=?_) ?_ hS ?_;rotate_left;· intro w' hw';have hcells:=HC2.out w' hw';go_simp;(try with_reducible rfl)
 simp only[Act.put,pt1,pt2,pt3,pt4,pt5,pt6]
 refine tkQ 11 (v:=?_) ?_ hS ?_;rotate_left;· intro w' hw';have hcells:=HC2.out w' hw';go_simp;(try with_reducible rfl)
 simp only[Act.put,pt1,pt2,pt3,pt4,pt5,pt6]
 refine tkQ 12 (v:=?_) ?_ hS ?_;rotate_left;· intro w' hw';have hcells:=HC2.out w' hw';go_simp;(try with_reducible rfl)
 simp only[Act.put,pt1,pt2,pt3,pt4,pt5,pt6]
 refine wpAnyH_ready (rs:=[13]) (by kernel_rfl) (by simp) ?_
 refine arQ fun K hK=>?_
 go_simp;go_at_call 10;refine(HE3.out _ hS).mono ?_
 rintro e w8 ⟨rfl,hbw8⟩
 refine hK.out _ _ (hS.trans (hbw8.mono hS.size)) (fun hS=>?_)
 clear hK K
 (try simp only[Act.put,pt1,pt2,pt3,pt4,pt5,pt6])
 refine tkQ 14 (v:=?_) ?_ hS ?_;rotate_left;· intro w' hw';have hcells:=HC2.out w' hw';go_simp;(try with_reducible rfl)
 simp only[Act.put,pt1,pt2,pt3,pt4,pt5,pt6]
 refine tkQ 15 (v:=?_) ?_ hS ?_;rotate_left;· intro w' hw';have hcells:=HC2.out w' hw';go_simp;(try with_reducible rfl)
 simp only[Act.put,pt1,pt2,pt3,pt4,pt5,pt6]
 refine wpAnyH_done (by kernel_rfl) ?_ _
 (try dsimp only)
 have hS2:=hid hS
 clear hS
 go_wp2
 go_ret
 exact⟨by simp,HB5.out.trans (hS2.out.mono HB5.out.size)⟩
end Go.Proofs.YteladbdfiannjaaGreatDoor
