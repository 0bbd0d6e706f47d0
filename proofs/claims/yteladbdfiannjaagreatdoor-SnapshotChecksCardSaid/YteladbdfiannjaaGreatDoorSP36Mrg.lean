/-
  The law SnapshotChecks returns true. Conditions: the snapshot can be read as data; Tabs, NumVars.
-/
import Derived.Test.YteladbdfiannjaaGreatDoorSP22Mrg
import Derived.Test.YteladbdfiannjaaGreatDoorSP29Mrg
import Derived.Test.YteladbdfiannjaaGreatDoorSP35Mrg
namespace Go.Proofs.YteladbdfiannjaaGreatDoor
set_option linter.unusedVariables false
set_option maxRecDepth 100000
set_option maxHeartbeats 64000000
set_option linter.unusedSimpArgs false
open Go Go.RowKit Go.Shelf
section
attribute [-go_sem] loadCellsFrom storeCells
attribute [local go_sem] lcf0 lcf1 lcf2 lcf3 lcf4 lcf5 lcf6 lcf7 lcf8 lcf9 stc0 stc1 stc2 stc3 stc4 stc5 stc6 stc7 stc8 stc9
theorem snChecks_call (c:SnC) (d:Snp) (w:World) (hd:IsSn (· < w.heap.size) w c d) (hT:Tabs w) (hN:NumVars w):Calls Tryz.prog 3 #[c.w] w fun e w'=>e=.returned (.bool true)∧Below w.heap.size w w':=by
 obtain⟨xb,hxb0⟩:∃xb,xb=w.heap.size:=⟨_,rfl⟩
 obtain⟨W0,hW0⟩:∃W0,W0=w.alloc (.cells #[.int .i64 c.v,.int .i64 c.e,.int .i64 c.t,.slice c.na c.nl c.nc,.slice c.aa c.al c.ac,.slice c.sa c.sl c.sc,.slice c.qa c.ql c.qc,.slice c.la c.ll c.lc,.slice c.pa c.pl c.pc] 30):=⟨_,rfl⟩
 have hb0:Below w.heap.size w W0:=by rw[hW0];exact(Below.refl _ w).alloc (Nat.le_refl _) _
 have hx0:W0.heap[xb]?=some (.cells #[.int .i64 c.v,.int .i64 c.e,.int .i64 c.t,.slice c.na c.nl c.nc,.slice c.aa c.al c.ac,.slice c.sa c.sl c.sc,.slice c.qa c.ql c.qc,.slice c.la c.ll c.lc,.slice c.pa c.pl c.pc] 30):=by rw[hW0,hxb0];exact heap_alloc_new w _
 have hz0:W0.heap.size=xb+1:=by rw[hW0,hxb0];simp
 have HSH:=hid (short_call c d W0 (hd.same fun b hb=>⟨by omega,hb0.block b hb⟩))
 have HX0:=hid hx0;have HB0:=hid hb0;have HZ0:=hid hz0;have HW0:=hid hW0;have HXB:=hid hxb0;have HT:=hid hT;have HN:=hid hN
 have d0:=cellOf hx0 0
 have d1:=cellOf hx0 1
 have d2:=cellOf hx0 2
 have d3:=cellOf hx0 3
 have d4:=cellOf hx0 4
 have d5:=cellOf hx0 5
 have d6:=cellOf hx0 6
 have d7:=cellOf hx0 7
 have d8:=cellOf hx0 8
 (try dsimp only at d0 d1 d2 d3 d4 d5 d6 d7 d8)
 clear hd hx0 hb0 hz0 hW0 hxb0 hT hN
 obtain⟨shd,hshd⟩:∃x,x=shSn d:=⟨_,rfl⟩
 rw[←hshd] at HSH
 clear hshd
 dsimp only[SnC.w] at HSH ⊢
 go_enter Tryz.func3,Tryz.ntmps3
 go_upto_region 1 with (fail)
 rw[←HW0.out,←HXB.out]
 have KEY:Hid (∀(c2:SnC) (W1:World),Below W0.heap.size W0 W1→W1.heap[xb]?=some (.cells #[.int .i64 c.v,.int .i64 c.e,.int .i64 c.t,.slice c.na c.nl c.nc,.slice c.aa c.al c.ac,.slice c.sa c.sl c.sc,.slice c.qa c.ql c.qc,.slice c.la c.ll c.lc,.slice c.pa c.pl c.pc] 30)):=hid (fun c2 W1 h=>heapExt h HX0.out)
 go_upto_region 2 with (go_at_call 6;refine HSH.out.mono ?_;rintro e W1 ⟨c2,rfl,hb1,hi1⟩;have HX1:=hid (heapExt hb1 HX0.out);have HB1:=hid (HB0.out.trans (hb1.mono HB0.out.size));have HI1:=hid hi1;have HZ1:=hid hb1.size;have z0:=cellOf HX1.out 0;have y0:=freeOf HX1.out 0;have z1:=cellOf HX1.out 1;have y1:=freeOf HX1.out 1;have z2:=cellOf HX1.out 2;have y2:=freeOf HX1.out 2;have z3:=cellOf HX1.out 3;have y3:=freeOf HX1.out 3;have z4:=cellOf HX1.out 4;have y4:=freeOf HX1.out 4;have z5:=cellOf HX1.out 5;have y5:=freeOf HX1.out 5;have z6:=cellOf HX1.out 6;have y6:=freeOf HX1.out 6;have z7:=cellOf HX1.out 7;have y7:=freeOf HX1.out 7;have z8:=cellOf HX1.out 8;have y8:=freeOf HX1.out 8;(try dsimp only at z0 z1 z2 z3 z4 z5 z6 z7 z8);dsimp only[SnC.w];clear hb1 hi1 d0 d1 d2 d3 d4 d5 d6 d7 d8)
 clear z0 y0 z1 y1 z2 y2 z3 y3 z4 y4 z5 y5 z6 y6 z7 y7 z8 y8 KEY
 have hxb:w.heap.size≤xb:=by rw[HXB.out];exact Nat.le_refl _
 have hF:=(heapSet (o:=8) (.slice c2.pa c2.pl c2.pc) (heapSet (o:=7) (.slice c2.la c2.ll c2.lc) (heapSet (o:=6) (.slice c2.qa c2.ql c2.qc) (heapSet (o:=5) (.slice c2.sa c2.sl c2.sc) (heapSet (o:=4) (.slice c2.aa c2.al c2.ac) (heapSet (o:=3) (.slice c2.na c2.nl c2.nc) (heapSet (o:=2) (.int .i64 c2.t) (heapSet (o:=1) (.int .i64 c2.e) (heapSet (o:=0) (.int .i64 c2.v) HX1.out)))))))))
 simp only[List.setIfInBounds_toArray,List.set_cons_zero,List.set_cons_succ] at hF
 have hO:∀q,q≠xb→(((((((((W1.setCell ⟨xb,0,none⟩ (.int .i64 c2.v)).setCell ⟨xb,1,none⟩ (.int .i64 c2.e)).setCell ⟨xb,2,none⟩ (.int .i64 c2.t)).setCell ⟨xb,3,none⟩ (.slice c2.na c2.nl c2.nc)).setCell ⟨xb,4,none⟩ (.slice c2.aa c2.al c2.ac)).setCell ⟨xb,5,none⟩ (.slice c2.sa c2.sl c2.sc)).setCell ⟨xb,6,none⟩ (.slice c2.qa c2.ql c2.qc)).setCell ⟨xb,7,none⟩ (.slice c2.la c2.ll c2.lc)).setCell ⟨xb,8,none⟩ (.slice c2.pa c2.pl c2.pc)).heap[q]?=W1.heap[q]?:=fun q hq=>((Below.heap_setCell _ _ _ _ (by exact hq)).trans ((Below.heap_setCell _ _ _ _ (by exact hq)).trans ((Below.heap_setCell _ _ _ _ (by exact hq)).trans ((Below.heap_setCell _ _ _ _ (by exact hq)).trans ((Below.heap_setCell _ _ _ _ (by exact hq)).trans ((Below.heap_setCell _ _ _ _ (by exact hq)).trans ((Below.heap_setCell _ _ _ _ (by exact hq)).trans ((Below.heap_setCell _ _ _ _ (by exact hq)).trans (Below.heap_setCell _ _ _ _ (by exact hq))))))))))
 have hZ:(((((((((W1.setCell ⟨xb,0,none⟩ (.int .i64 c2.v)).setCell ⟨xb,1,none⟩ (.int .i64 c2.e)).setCell ⟨xb,2,none⟩ (.int .i64 c2.t)).setCell ⟨xb,3,none⟩ (.slice c2.na c2.nl c2.nc)).setCell ⟨xb,4,none⟩ (.slice c2.aa c2.al c2.ac)).setCell ⟨xb,5,none⟩ (.slice c2.sa c2.sl c2.sc)).setCell ⟨xb,6,none⟩ (.slice c2.qa c2.ql c2.qc)).setCell ⟨xb,7,none⟩ (.slice c2.la c2.ll c2.lc)).setCell ⟨xb,8,none⟩ (.slice c2.pa c2.pl c2.pc)).heap.size=W1.heap.size:=by simp[World.setCell]
 have hB2:Below w.heap.size w (((((((((W1.setCell ⟨xb,0,none⟩ (.int .i64 c2.v)).setCell ⟨xb,1,none⟩ (.int .i64 c2.e)).setCell ⟨xb,2,none⟩ (.int .i64 c2.t)).setCell ⟨xb,3,none⟩ (.slice c2.na c2.nl c2.nc)).setCell ⟨xb,4,none⟩ (.slice c2.aa c2.al c2.ac)).setCell ⟨xb,5,none⟩ (.slice c2.sa c2.sl c2.sc)).setCell ⟨xb,6,none⟩ (.slice c2.qa c2.ql c2.qc)).setCell ⟨xb,7,none⟩ (.slice c2.la c2.ll c2.lc)).setCell ⟨xb,8,none⟩ (.slice c2.pa c2.pl c2.pc)):=(((((((((HB1.out.setCell (p:=⟨xb,0,none⟩) hxb _).setCell (p:=⟨xb,1,none⟩) hxb _).setCell (p:=⟨xb,2,none⟩) hxb _).setCell (p:=⟨xb,3,none⟩) hxb _).setCell (p:=⟨xb,4,none⟩) hxb _).setCell (p:=⟨xb,5,none⟩) hxb _).setCell (p:=⟨xb,6,none⟩) hxb _).setCell (p:=⟨xb,7,none⟩) hxb _).setCell (p:=⟨xb,8,none⟩) hxb _)
 obtain⟨W2,hW2⟩:∃W2,W2=(((((((((W1.setCell ⟨xb,0,none⟩ (.int .i64 c2.v)).setCell ⟨xb,1,none⟩ (.int .i64 c2.e)).setCell ⟨xb,2,none⟩ (.int .i64 c2.t)).setCell ⟨xb,3,none⟩ (.slice c2.na c2.nl c2.nc)).setCell ⟨xb,4,none⟩ (.slice c2.aa c2.al c2.ac)).setCell ⟨xb,5,none⟩ (.slice c2.sa c2.sl c2.sc)).setCell ⟨xb,6,none⟩ (.slice c2.qa c2.ql c2.qc)).setCell ⟨xb,7,none⟩ (.slice c2.la c2.ll c2.lc)).setCell ⟨xb,8,none⟩ (.slice c2.pa c2.pl c2.pc)):=⟨_,rfl⟩
 rw[←hW2] at hF hO hZ hB2 ⊢
 have hi2:∀w',Below W2.heap.size W2 w'→IsSn (· < w'.heap.size) w' c2 shd:=fun w' h=>HI1.out.same fun b hb=>⟨by have:=h.size;omega,(h.block b (by omega)).trans (hO b (by have:=HZ0.out;omega))⟩
 have HK:=hid (fun (w':World) (h:Below W2.heap.size W2 w')=>known47_call w' ((HT.out.below hB2).below h) ((HN.out.below hB2).below h))
 obtain⟨v,hv⟩:∃v,v=snE shd:=⟨_,rfl⟩
 have HC1:=hid (fun (w':World) (h:Below W2.heap.size W2 w')=>snCheck_call c2 shd w' (hi2 w' h) ((HT.out.below hB2).below h))
 have HC2:=hid (fun (w':World) (h:Below W2.heap.size W2 w')=>lawCheck47_call c2 shd w' (hi2 w' h) ((HT.out.below hB2).below h))
 rw[←hv] at HC1 HC2
 have HCELL:=hid (fun (w':World) (h:Below W2.heap.size W2 w')=>(show w'.cell? ⟨xb,0,none⟩=some (.int .i64 c2.v)∧w'.cell? ⟨xb,1,none⟩=some (.int .i64 c2.e)∧w'.cell? ⟨xb,2,none⟩=some (.int .i64 c2.t)∧w'.cell? ⟨xb,3,none⟩=some (.slice c2.na c2.nl c2.nc)∧w'.cell? ⟨xb,4,none⟩=some (.slice c2.aa c2.al c2.ac)∧w'.cell? ⟨xb,5,none⟩=some (.slice c2.sa c2.sl c2.sc)∧w'.cell? ⟨xb,6,none⟩=some (.slice c2.qa c2.ql c2.qc)∧w'.cell? ⟨xb,7,none⟩=some (.slice c2.la c2.ll c2.lc)∧w'.cell? ⟨xb,8,none⟩=some (.slice c2.pa c2.pl c2.pc) from⟨cellOf (heapExt h hF) 0,cellOf (heapExt h hF) 1,cellOf (heapExt h hF) 2,cellOf (heapExt h hF) 3,cellOf (heapExt h hF) 4,cellOf (heapExt h hF) 5,cellOf (heapExt h hF) 6,cellOf (heapExt h hF) 7,cellOf (heapExt h hF) 8⟩))
 have HB2:=hid hB2
 dsimp only[SnC.w] at HC1 HC2
 clear hF hO hZ hB2 hW2 hi2 hv
 refine wp_region_held_drew (S:=(fun w'=>Below W2.heap.size W2 w')) (by kernel_rfl) ((Below.refl _ _).drew) (fun hS=>?_)
 refine wpAnyH_ready (rs:=[0]) (by kernel_rfl) (by simp) ?_
 refine arQ fun K hK=>?_
 go_simp;go_at_call 7;refine(HK.out _ hS).mono ?_
 rintro e w5 ⟨rfl,hbw5⟩
 refine hK.out _ _ (hS.trans (hbw5.mono hS.size)) (fun hS=>?_)
 clear hK K
 (try simp only[Act.put,pt1,pt2,pt3,pt4,pt5,pt6])
 refine tkQ 1 (v:=?_) ?_ hS ?_;rotate_left;· intro w' hw';have hcells:=HCELL.out w' hw';go_simp;(try with_reducible rfl)
 simp only[Act.put,pt1,pt2,pt3,pt4,pt5,pt6]
 refine tkQ 2 (v:=?_) ?_ hS ?_;rotate_left;· intro w' hw';have hcells:=HCELL.out w' hw';go_simp;(try with_reducible rfl)
 simp only[Act.put,pt1,pt2,pt3,pt4,pt5,pt6]
 refine tkQ 4 (v:=?_) ?_ hS ?_;rotate_left;· intro w' hw';have hcells:=HCELL.out w' hw';go_simp;(try with_reducible rfl)
 simp only[Act.put,pt1,pt2,pt3,pt4,pt5,pt6]
 refine wpAnyH_ready (rs:=[3]) (by kernel_rfl) (by simp) ?_
 refine arQ fun K hK=>?_
 go_simp;go_at_call 8;refine(HC1.out _ hS).mono ?_
 rintro e w6 ⟨rfl,hbw6⟩
 refine hK.out _ _ (hS.trans (hbw6.mono hS.size)) (fun hS=>?_)
 clear hK K
 (try simp only[Act.put,pt1,pt2,pt3,pt4,pt5,pt6])
 refine wpAnyH_ready (rs:=[5]) (by kernel_rfl) (by simp) ?_
 refine arQ fun K hK=>?_
 go_simp;go_at_call 9;refine(HC2.out _ hS).mono ?_
 rintro e w7 ⟨rfl,hbw7⟩
 refine hK.out _ _ (hS.trans (hbw7.mono hS.size)) (fun hS=>?_)
 clear hK K
 (try simp only[Act.put,pt1,pt2,pt3,pt4,pt5,pt6])
 refine tkQ 6 (v:=?_) ?_ hS ?_;rotate_left;· intro w' hw';have hcells:=HCELL.out w' hw';go_simp;(try with_reducible rfl)
 simp only[Act.put,pt1,pt2,pt3,pt4,pt5,pt6]
 refine tkQ 7 (v:=?_) ?_ hS ?_;rotate_left;· intro w' hw';have hcells:=HCELL.out w' hw';go_simp;(try with_reducible rfl)
 simp only[Act.put,pt1,pt2,pt3,pt4,pt5,pt6]
 refine tkQ 8 (v:=?_) ?_ hS ?_;rotate_left;· intro w' hw';have hcells:=HCELL.out w' hw';go_simp;(try with_reducible rfl)
 simp only[Act.put,pt1,pt2,pt3,pt4,pt5,pt6]
 refine wpAnyH_done (by kernel_rfl) ?_ _
 (try dsimp only)
 have hS2:=hid hS
 clear hS
 go_wp2
 go_ret
 exact⟨rfl,HB2.out.trans (hS2.out.mono HB2.out.size)⟩
end
end Go.Proofs.YteladbdfiannjaaGreatDoor
