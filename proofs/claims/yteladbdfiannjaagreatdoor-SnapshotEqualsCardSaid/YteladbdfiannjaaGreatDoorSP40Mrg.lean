/-
  manifoldlaw31.SameRequests at one request on each side. Condition: both can be read as data.
-/
import Derived.Test.YteladbdfiannjaaGreatDoorSP20Mrg
import Derived.Laws.StructEq
namespace Go.Proofs.YteladbdfiannjaaGreatDoor
set_option linter.unusedVariables false
set_option maxRecDepth 100000
set_option maxHeartbeats 64000000
set_option linter.unusedSimpArgs false
section
open Go Go.RowKit Go.Shelf
theorem infoRq:(Tryz.prog.info? 73).map (fun i=>(i.zero,i.size))=some (some (.agg #[.int .i64 0,.slice none 0 0,.string ByteArray.empty,.int .i64 0,.bool false,.int .i64 0,.int .i64 0,.int .i64 0,.string ByteArray.empty,.slice none 0 0,.slice none 0 0]),11):=by kernel_rfl
theorem sameReq_call (x y:EfC) (dx dy:Ef) (g g2:Nat) (t t2:TypeId) (w:World) (hd:IsEf (· < w.heap.size) w x dx) (hd2:IsEf (· < w.heap.size) w y dy) (hx:w.heap[g]?=some (.cells #[.int .i64 x.rs.e,.slice x.rs.a x.rs.n x.rs.c,.string x.sv,.int .i64 x.ca,.bool x.un,.int .i64 x.bd.k,.int .i64 x.bd.i,.int .i64 x.bd.s,.string x.bd.t,.slice x.bd.la x.bd.ll x.bd.lc,.slice x.bd.fa x.bd.fl x.bd.fc] t)) (hy:w.heap[g2]?=some (.cells #[.int .i64 y.rs.e,.slice y.rs.a y.rs.n y.rs.c,.string y.sv,.int .i64 y.ca,.bool y.un,.int .i64 y.bd.k,.int .i64 y.bd.i,.int .i64 y.bd.s,.string y.bd.t,.slice y.bd.la y.bd.ll y.bd.lc,.slice y.bd.fa y.bd.fl y.bd.fc] t2)) :
 Calls Tryz.prog 120 #[.slice (some ⟨g,0,none⟩) 1 1,.slice (some ⟨g2,0,none⟩) 1 1] w fun e w'=>e=.returned (.bool (reqEqB dx dy))∧Below w.heap.size w w':=by
 obtain⟨u,hu⟩:∃u,u=stEqB dx.rs dy.rs:=⟨_,rfl⟩
 obtain⟨v,hv⟩:∃v,v=(cmpV dx.bd dy.bd==0):=⟨_,rfl⟩
 have HE:=hid (show reqEqB dx dy=(u&&((x.sv.toList==y.sv.toList)&&(decide (x.ca=y.ca)&&((x.un==y.un)&&v)))) by rw[reqEqB,hu,hv,hd.sv,hd2.sv,hd.ca,hd2.ca,hd.un,hd2.un])
 have hk:∀w1,Below w.heap.size w w1→∀b,b<w.heap.size→b<w1.heap.size∧w1.heap[b]?=w.heap[b]?:=fun w1 h b hb=>⟨by have:=h.size;omega,h.block b hb⟩
 have HSTG:=hid (fun (w1:World) (h:Below w.heap.size w w1)=>(show Calls Tryz.prog 45 #[x.rs.v,y.rs.v] w1 fun e w'=>e=.returned (.bool u)∧Below w1.heap.size w1 w' from by rw[hu];exact stEqual_call _ _ _ _ w1 (hd.rs.same (hk w1 h)) (hd2.rs.same (hk w1 h))))
 have HVLG:=hid (fun (w1:World) (h:Below w.heap.size w w1)=>(show Calls Tryz.prog 115 #[x.bd.v,y.bd.v] w1 fun e w'=>e=.returned (.bool v)∧Below w1.heap.size w1 w' from by rw[hv];exact valEqual_call _ _ _ _ w1 (hd.bd.same (hk w1 h)) (hd2.bd.same (hk w1 h))))
 dsimp only[SC.v,VC.v] at HSTG HVLG
 have HC6:=hid (fun (w':World) (h:Below w.heap.size w w')=>(show(w'.cell? ⟨g,0,none⟩=some (.int .i64 x.rs.e)∧w'.cell? ⟨g,1,none⟩=some (.slice x.rs.a x.rs.n x.rs.c)∧w'.cell? ⟨g,2,none⟩=some (.string x.sv)∧w'.cell? ⟨g,3,none⟩=some (.int .i64 x.ca)∧w'.cell? ⟨g,4,none⟩=some (.bool x.un)∧w'.cell? ⟨g,5,none⟩=some (.int .i64 x.bd.k)∧w'.cell? ⟨g,6,none⟩=some (.int .i64 x.bd.i)∧w'.cell? ⟨g,7,none⟩=some (.int .i64 x.bd.s)∧w'.cell? ⟨g,8,none⟩=some (.string x.bd.t)∧w'.cell? ⟨g,9,none⟩=some (.slice x.bd.la x.bd.ll x.bd.lc)∧w'.cell? ⟨g,10,none⟩=some (.slice x.bd.fa x.bd.fl x.bd.fc))∧w'.cell? ⟨g2,0,none⟩=some (.int .i64 y.rs.e)∧w'.cell? ⟨g2,1,none⟩=some (.slice y.rs.a y.rs.n y.rs.c)∧w'.cell? ⟨g2,2,none⟩=some (.string y.sv)∧w'.cell? ⟨g2,3,none⟩=some (.int .i64 y.ca)∧w'.cell? ⟨g2,4,none⟩=some (.bool y.un)∧w'.cell? ⟨g2,5,none⟩=some (.int .i64 y.bd.k)∧w'.cell? ⟨g2,6,none⟩=some (.int .i64 y.bd.i)∧w'.cell? ⟨g2,7,none⟩=some (.int .i64 y.bd.s)∧w'.cell? ⟨g2,8,none⟩=some (.string y.bd.t)∧w'.cell? ⟨g2,9,none⟩=some (.slice y.bd.la y.bd.ll y.bd.lc)∧w'.cell? ⟨g2,10,none⟩=some (.slice y.bd.fa y.bd.fl y.bd.fc) from⟨⟨cellOf (heapExt h hx) 0,cellOf (heapExt h hx) 1,cellOf (heapExt h hx) 2,cellOf (heapExt h hx) 3,cellOf (heapExt h hx) 4,cellOf (heapExt h hx) 5,cellOf (heapExt h hx) 6,cellOf (heapExt h hx) 7,cellOf (heapExt h hx) 8,cellOf (heapExt h hx) 9,cellOf (heapExt h hx) 10⟩,cellOf (heapExt h hy) 0,cellOf (heapExt h hy) 1,cellOf (heapExt h hy) 2,cellOf (heapExt h hy) 3,cellOf (heapExt h hy) 4,cellOf (heapExt h hy) 5,cellOf (heapExt h hy) 6,cellOf (heapExt h hy) 7,cellOf (heapExt h hy) 8,cellOf (heapExt h hy) 9,cellOf (heapExt h hy) 10⟩))
 clear hk hd hd2 hx hy hu hv
 go_enter Tryz.func120,Tryz.ntmps120
 go_wp2
 refine wp_loop_rounds 2 ?_
 rw[rounds_succ]
 go_upto_region 6 with (fail)
 go_cut [6,7] (fun v6 v7 wz=>∃p q,v6=.pointer (some ⟨p,0,none⟩)∧v7=.pointer (some ⟨q,0,none⟩)∧wz.heap[p]?=some (.cells #[.int .i64 x.rs.e,.slice x.rs.a x.rs.n x.rs.c,.string x.sv,.int .i64 x.ca,.bool x.un,.int .i64 x.bd.k,.int .i64 x.bd.i,.int .i64 x.bd.s,.string x.bd.t,.slice x.bd.la x.bd.ll x.bd.lc,.slice x.bd.fa x.bd.fl x.bd.fc] 73)∧wz.heap[q]?=some (.cells #[.int .i64 y.rs.e,.slice y.rs.a y.rs.n y.rs.c,.string y.sv,.int .i64 y.ca,.bool y.un,.int .i64 y.bd.k,.int .i64 y.bd.i,.int .i64 y.bd.s,.string y.bd.t,.slice y.bd.la y.bd.ll y.bd.lc,.slice y.bd.fa y.bd.fl y.bd.fc] 73)∧Below w.heap.size w wz)
 case first =>
  refine wp_region_held_drew (S:=(fun w'=>Below w.heap.size w w')) (by kernel_rfl) ((Below.refl _ _).drew) (fun hS=>?_)
  refine tkQ 0 (v:=?_) ?_ hS ?_;rotate_left;· intro w' hw';have hcells:=HC6.out w' hw';go_simp;(try with_reducible rfl)
  simp only[Act.put,pt1,pt2,pt3,pt4,pt5,pt6]
  refine tkQ 1 (v:=?_) ?_ hS ?_;rotate_left;· intro w' hw';have hcells:=HC6.out w' hw';go_simp;(try with_reducible rfl)
  simp only[Act.put,pt1,pt2,pt3,pt4,pt5,pt6]
  refine tkQ 2 (v:=?_) ?_ hS ?_;rotate_left;· intro w' hw';have hcells:=HC6.out w' hw';go_simp;(try with_reducible rfl)
  simp only[Act.put,pt1,pt2,pt3,pt4,pt5,pt6]
  refine tkQ 3 (v:=?_) ?_ hS ?_;rotate_left;· intro w' hw';have hcells:=HC6.out w' hw';go_simp;(try with_reducible rfl)
  simp only[Act.put,pt1,pt2,pt3,pt4,pt5,pt6]
  refine tkQ 4 (v:=?_) ?_ hS ?_;rotate_left;· intro w' hw';have hcells:=HC6.out w' hw';go_simp;(try with_reducible rfl)
  simp only[Act.put,pt1,pt2,pt3,pt4,pt5,pt6]
  refine tkQ 5 (v:=?_) ?_ hS ?_;rotate_left;· intro w' hw';have hcells:=HC6.out w' hw';go_simp;(try with_reducible rfl)
  simp only[Act.put,pt1,pt2,pt3,pt4,pt5,pt6]
  refine tkQ 6 (v:=?_) ?_ hS ?_;rotate_left;· intro w' hw';have hcells:=HC6.out w' hw';go_simp;(try with_reducible rfl)
  simp only[Act.put,pt1,pt2,pt3,pt4,pt5,pt6]
  refine tkQ 7 (v:=?_) ?_ hS ?_;rotate_left;· intro w' hw';have hcells:=HC6.out w' hw';go_simp;(try with_reducible rfl)
  simp only[Act.put,pt1,pt2,pt3,pt4,pt5,pt6]
  refine wpAnyH_ready (rs:=[8,9]) (by kernel_rfl) (by simp) ?_
  refine AllReadyH.cons (o:=_) rfl (fun K hK=>?_) ?_
  ·refine step_alloc_gen (by rfl) _ (by rfl) #[.int .i64 0,.slice none 0 0,.string ByteArray.empty,.int .i64 0,.bool false,.int .i64 0,.int .i64 0,.int .i64 0,.string ByteArray.empty,.slice none 0 0,.slice none 0 0] 11 w.heap.size (rfl) infoRq (by rfl) ?_
   intro V1 hv1 hb1 hz1
   refine hK.out _ _ (hS.trans (hb1.mono (by omega))) (fun hS=>?_)
   clear hK K
   (try simp only[Act.put,pt1,pt2,pt3,pt4,pt5,pt6])
   refine wpAnyH_ready (rs:=[9]) (by kernel_rfl) (by simp) ?_
   refine arQ fun K hK=>?_
   refine step_alloc_gen (by rfl) _ (by rfl) #[.int .i64 0,.slice none 0 0,.string ByteArray.empty,.int .i64 0,.bool false,.int .i64 0,.int .i64 0,.int .i64 0,.string ByteArray.empty,.slice none 0 0,.slice none 0 0] 11 (w.heap.size+1) (hz1) infoRq (by rfl) ?_
   intro V2 hv2 hb2 hz2
   refine hK.out _ _ (hS.trans (hb2.mono (by omega))) (fun hS=>?_)
   clear hK K
   (try simp only[Act.put,pt1,pt2,pt3,pt4,pt5,pt6])
   refine wpAnyH_ready (rs:=[10]) (by kernel_rfl) (by simp) ?_
   refine arQ fun K hK=>?_
   refine step_store_whole (by rfl) _ _ _ (by rfl) w.heap.size #[.int .i64 0,.slice none 0 0,.string ByteArray.empty,.int .i64 0,.bool false,.int .i64 0,.int .i64 0,.int .i64 0,.string ByteArray.empty,.slice none 0 0,.slice none 0 0] #[.int .i64 x.rs.e,.slice x.rs.a x.rs.n x.rs.c,.string x.sv,.int .i64 x.ca,.bool x.un,.int .i64 x.bd.k,.int .i64 x.bd.i,.int .i64 x.bd.s,.string x.bd.t,.slice x.bd.la x.bd.ll x.bd.lc,.slice x.bd.fa x.bd.fl x.bd.fc] 73 (by rfl) (by rfl) ((hb2.block _ (by omega)).trans hv1) (size_of_info infoRq) (by rfl) (by simp[Value.oneCell']) ?_
   intro V3 hv3 ho3 hz3 hb3
   refine hK.out _ _ (hS.trans (hb3.mono (by omega))) (fun hS=>?_)
   clear hK K
   (try simp only[Act.put,pt1,pt2,pt3,pt4,pt5,pt6])
   refine wpAnyH_ready (rs:=[11]) (by kernel_rfl) (by simp) ?_
   refine arQ fun K hK=>?_
   refine step_store_whole (by rfl) _ _ _ (by rfl) (w.heap.size+1) #[.int .i64 0,.slice none 0 0,.string ByteArray.empty,.int .i64 0,.bool false,.int .i64 0,.int .i64 0,.int .i64 0,.string ByteArray.empty,.slice none 0 0,.slice none 0 0] #[.int .i64 y.rs.e,.slice y.rs.a y.rs.n y.rs.c,.string y.sv,.int .i64 y.ca,.bool y.un,.int .i64 y.bd.k,.int .i64 y.bd.i,.int .i64 y.bd.s,.string y.bd.t,.slice y.bd.la y.bd.ll y.bd.lc,.slice y.bd.fa y.bd.fl y.bd.fc] 73 (by rfl) (by rfl) ((ho3 _ (by omega)).trans hv2) (size_of_info infoRq) (by rfl) (by simp[Value.oneCell']) ?_
   intro V4 hv4 ho4 hz4 hb4
   refine hK.out _ _ (hS.trans (hb4.mono (by omega))) (fun hS=>?_)
   clear hK K
   (try simp only[Act.put,pt1,pt2,pt3,pt4,pt5,pt6])
   refine wpAnyH_done (by kernel_rfl) ?_ _
   (try dsimp only)
   have fp4:=(ho4 w.heap.size (by omega)).trans hv3
   have hS4:=hid hS;have HP4:=hid fp4;have HQ4:=hid hv4
   clear hS hv1 hv2 hv3 hv4 hb1 hb2 hb3 hb4 hz1 hz2 hz3 hz4 ho3 ho4 fp4
   go_wp2
   go_meet
   exact⟨w.heap.size,(w.heap.size+1),rfl,rfl,HP4.out,HQ4.out,hS4.out⟩
  refine arQ fun K hK=>?_
  refine step_alloc_gen (by rfl) _ (by rfl) #[.int .i64 0,.slice none 0 0,.string ByteArray.empty,.int .i64 0,.bool false,.int .i64 0,.int .i64 0,.int .i64 0,.string ByteArray.empty,.slice none 0 0,.slice none 0 0] 11 w.heap.size (rfl) infoRq (by rfl) ?_
  intro V1 hv1 hb1 hz1
  refine hK.out _ _ (hS.trans (hb1.mono (by omega))) (fun hS=>?_)
  clear hK K
  (try simp only[Act.put,pt1,pt2,pt3,pt4,pt5,pt6])
  refine wpAnyH_ready (rs:=[8]) (by kernel_rfl) (by simp) ?_
  refine arQ fun K hK=>?_
  refine step_alloc_gen (by rfl) _ (by rfl) #[.int .i64 0,.slice none 0 0,.string ByteArray.empty,.int .i64 0,.bool false,.int .i64 0,.int .i64 0,.int .i64 0,.string ByteArray.empty,.slice none 0 0,.slice none 0 0] 11 (w.heap.size+1) (hz1) infoRq (by rfl) ?_
  intro V2 hv2 hb2 hz2
  refine hK.out _ _ (hS.trans (hb2.mono (by omega))) (fun hS=>?_)
  clear hK K
  (try simp only[Act.put,pt1,pt2,pt3,pt4,pt5,pt6])
  refine wpAnyH_ready (rs:=[10]) (by kernel_rfl) (by simp) ?_
  refine arQ fun K hK=>?_
  refine step_store_whole (by rfl) _ _ _ (by rfl) (w.heap.size+1) #[.int .i64 0,.slice none 0 0,.string ByteArray.empty,.int .i64 0,.bool false,.int .i64 0,.int .i64 0,.int .i64 0,.string ByteArray.empty,.slice none 0 0,.slice none 0 0] #[.int .i64 x.rs.e,.slice x.rs.a x.rs.n x.rs.c,.string x.sv,.int .i64 x.ca,.bool x.un,.int .i64 x.bd.k,.int .i64 x.bd.i,.int .i64 x.bd.s,.string x.bd.t,.slice x.bd.la x.bd.ll x.bd.lc,.slice x.bd.fa x.bd.fl x.bd.fc] 73 (by rfl) (by rfl) hv2 (size_of_info infoRq) (by rfl) (by simp[Value.oneCell']) ?_
  intro V3 hv3 ho3 hz3 hb3
  refine hK.out _ _ (hS.trans (hb3.mono (by omega))) (fun hS=>?_)
  clear hK K
  (try simp only[Act.put,pt1,pt2,pt3,pt4,pt5,pt6])
  refine wpAnyH_ready (rs:=[11]) (by kernel_rfl) (by simp) ?_
  refine arQ fun K hK=>?_
  refine step_store_whole (by rfl) _ _ _ (by rfl) w.heap.size #[.int .i64 0,.slice none 0 0,.string ByteArray.empty,.int .i64 0,.bool false,.int .i64 0,.int .i64 0,.int .i64 0,.string ByteArray.empty,.slice none 0 0,.slice none 0 0] #[.int .i64 y.rs.e,.slice y.rs.a y.rs.n y.rs.c,.string y.sv,.int .i64 y.ca,.bool y.un,.int .i64 y.bd.k,.int .i64 y.bd.i,.int .i64 y.bd.s,.string y.bd.t,.slice y.bd.la y.bd.ll y.bd.lc,.slice y.bd.fa y.bd.fl y.bd.fc] 73 (by rfl) (by rfl) ((ho3 _ (by omega)).trans ((hb2.block _ (by omega)).trans hv1)) (size_of_info infoRq) (by rfl) (by simp[Value.oneCell']) ?_
  intro V4 hv4 ho4 hz4 hb4
  refine hK.out _ _ (hS.trans (hb4.mono (by omega))) (fun hS=>?_)
  clear hK K
  (try simp only[Act.put,pt1,pt2,pt3,pt4,pt5,pt6])
  refine wpAnyH_done (by kernel_rfl) ?_ _
  (try dsimp only)
  have fp4:=(ho4 (w.heap.size+1) (by omega)).trans hv3
  have hS4:=hid hS;have HP4:=hid fp4;have HQ4:=hid hv4
  clear hS hv1 hv2 hv3 hv4 hb1 hb2 hb3 hb4 hz1 hz2 hz3 hz4 ho3 ho4 fp4
  go_wp2
  go_meet
  exact⟨(w.heap.size+1),w.heap.size,rfl,rfl,HP4.out,HQ4.out,hS4.out⟩
 case rest =>
 obtain⟨p,q,rfl,rfl,hx,hy,hbz⟩:=hcut
 obtain⟨W,hW⟩:∃W,W=wc:=⟨_,rfl⟩
 rw[←hW] at hx hy hbz ⊢
 clear hW
 have HST:=hid (HSTG.out W hbz)
 have HVL:=hid (fun (w1:World) (h:Below W.heap.size W w1)=>HVLG.out w1 (hbz.trans (h.mono hbz.size)))
 have HX:=hid hx;have HY:=hid hy;have HB:=hid hbz
 have a0:=cellOf hx 0;have a1:=cellOf hx 1;(try dsimp only at a0 a1)
 have b0:=cellOf hy 0;have b1:=cellOf hy 1;(try dsimp only at b0 b1)
 clear hx hy hbz HSTG HVLG HC6
 cases u
 ·go_wp2_with (first | (go_at_call 45;refine HST.out.mono ?_;rintro e w1 ⟨rfl,hb1⟩;have HB1:=hid hb1;have hx1:=heapExt hb1 HX.out;have hy1:=heapExt hb1 HY.out;clear a0 a1 b0 b1;have a2:=cellOf hx1 2;have a3:=cellOf hx1 3;have a4:=cellOf hx1 4;have a5:=cellOf hx1 5;have a6:=cellOf hx1 6;have a7:=cellOf hx1 7;have a8:=cellOf hx1 8;have a9:=cellOf hx1 9;have a10:=cellOf hx1 10;(try dsimp only at a2 a3 a4 a5 a6 a7 a8 a9 a10);have b2:=cellOf hy1 2;have b3:=cellOf hy1 3;have b4:=cellOf hy1 4;have b5:=cellOf hy1 5;have b6:=cellOf hy1 6;have b7:=cellOf hy1 7;have b8:=cellOf hy1 8;have b9:=cellOf hy1 9;have b10:=cellOf hy1 10;(try dsimp only at b2 b3 b4 b5 b6 b7 b8 b9 b10);clear hx1 hy1 hb1))
  go_ret
  exact⟨by rw[HE.out];simp,HB.out.trans (HB1.out.mono HB.out.size)⟩
 ·cases q1:(x.sv.toList==y.sv.toList)
  ·go_wp2_with (first | (go_at_call 45;refine HST.out.mono ?_;rintro e w1 ⟨rfl,hb1⟩;have HB1:=hid hb1;have hx1:=heapExt hb1 HX.out;have hy1:=heapExt hb1 HY.out;clear a0 a1 b0 b1;have a2:=cellOf hx1 2;have a3:=cellOf hx1 3;have a4:=cellOf hx1 4;have a5:=cellOf hx1 5;have a6:=cellOf hx1 6;have a7:=cellOf hx1 7;have a8:=cellOf hx1 8;have a9:=cellOf hx1 9;have a10:=cellOf hx1 10;(try dsimp only at a2 a3 a4 a5 a6 a7 a8 a9 a10);have b2:=cellOf hy1 2;have b3:=cellOf hy1 3;have b4:=cellOf hy1 4;have b5:=cellOf hy1 5;have b6:=cellOf hy1 6;have b7:=cellOf hy1 7;have b8:=cellOf hy1 8;have b9:=cellOf hy1 9;have b10:=cellOf hy1 10;(try dsimp only at b2 b3 b4 b5 b6 b7 b8 b9 b10);clear hx1 hy1 hb1))
   go_ret
   exact⟨by rw[HE.out];simp[q1],HB.out.trans (HB1.out.mono HB.out.size)⟩
  ·by_cases q2:x.ca=y.ca
   ·cases q3:(x.un==y.un)
    ·go_wp2_with (first | (go_at_call 45;refine HST.out.mono ?_;rintro e w1 ⟨rfl,hb1⟩;have HB1:=hid hb1;have hx1:=heapExt hb1 HX.out;have hy1:=heapExt hb1 HY.out;clear a0 a1 b0 b1;have a2:=cellOf hx1 2;have a3:=cellOf hx1 3;have a4:=cellOf hx1 4;have a5:=cellOf hx1 5;have a6:=cellOf hx1 6;have a7:=cellOf hx1 7;have a8:=cellOf hx1 8;have a9:=cellOf hx1 9;have a10:=cellOf hx1 10;(try dsimp only at a2 a3 a4 a5 a6 a7 a8 a9 a10);have b2:=cellOf hy1 2;have b3:=cellOf hy1 3;have b4:=cellOf hy1 4;have b5:=cellOf hy1 5;have b6:=cellOf hy1 6;have b7:=cellOf hy1 7;have b8:=cellOf hy1 8;have b9:=cellOf hy1 9;have b10:=cellOf hy1 10;(try dsimp only at b2 b3 b4 b5 b6 b7 b8 b9 b10);clear hx1 hy1 hb1))
     go_ret
     exact⟨by rw[HE.out];simp[q1,q2,q3],HB.out.trans (HB1.out.mono HB.out.size)⟩
    ·cases v
     ·go_wp2_with (first | (go_at_call 45;refine HST.out.mono ?_;rintro e w1 ⟨rfl,hb1⟩;have HB1:=hid hb1;have hx1:=heapExt hb1 HX.out;have hy1:=heapExt hb1 HY.out;clear a0 a1 b0 b1;have a2:=cellOf hx1 2;have a3:=cellOf hx1 3;have a4:=cellOf hx1 4;have a5:=cellOf hx1 5;have a6:=cellOf hx1 6;have a7:=cellOf hx1 7;have a8:=cellOf hx1 8;have a9:=cellOf hx1 9;have a10:=cellOf hx1 10;(try dsimp only at a2 a3 a4 a5 a6 a7 a8 a9 a10);have b2:=cellOf hy1 2;have b3:=cellOf hy1 3;have b4:=cellOf hy1 4;have b5:=cellOf hy1 5;have b6:=cellOf hy1 6;have b7:=cellOf hy1 7;have b8:=cellOf hy1 8;have b9:=cellOf hy1 9;have b10:=cellOf hy1 10;(try dsimp only at b2 b3 b4 b5 b6 b7 b8 b9 b10);clear hx1 hy1 hb1) | (go_at_call 115;refine(HVL.out _ HB1.out).mono ?_;rintro e w3 ⟨rfl,hb3⟩;have HB3:=hid hb3;clear hb3))
      go_ret
      exact⟨by rw[HE.out];simp[q1,q2,q3],HB.out.trans ((HB1.out.trans (HB3.out.mono HB1.out.size)).mono HB.out.size)⟩
     ·go_wp2_with (first | (go_at_call 45;refine HST.out.mono ?_;rintro e w1 ⟨rfl,hb1⟩;have HB1:=hid hb1;have hx1:=heapExt hb1 HX.out;have hy1:=heapExt hb1 HY.out;clear a0 a1 b0 b1;have a2:=cellOf hx1 2;have a3:=cellOf hx1 3;have a4:=cellOf hx1 4;have a5:=cellOf hx1 5;have a6:=cellOf hx1 6;have a7:=cellOf hx1 7;have a8:=cellOf hx1 8;have a9:=cellOf hx1 9;have a10:=cellOf hx1 10;(try dsimp only at a2 a3 a4 a5 a6 a7 a8 a9 a10);have b2:=cellOf hy1 2;have b3:=cellOf hy1 3;have b4:=cellOf hy1 4;have b5:=cellOf hy1 5;have b6:=cellOf hy1 6;have b7:=cellOf hy1 7;have b8:=cellOf hy1 8;have b9:=cellOf hy1 9;have b10:=cellOf hy1 10;(try dsimp only at b2 b3 b4 b5 b6 b7 b8 b9 b10);clear hx1 hy1 hb1) | (go_at_call 115;refine(HVL.out _ HB1.out).mono ?_;rintro e w3 ⟨rfl,hb3⟩;have HB3:=hid hb3;clear hb3))
      rw[rounds_succ]
      go_wp2
      go_ret
      exact⟨by rw[HE.out];simp[q1,q2,q3],HB.out.trans ((HB1.out.trans (HB3.out.mono HB1.out.size)).mono HB.out.size)⟩
   ·go_wp2_with (first | (go_at_call 45;refine HST.out.mono ?_;rintro e w1 ⟨rfl,hb1⟩;have HB1:=hid hb1;have hx1:=heapExt hb1 HX.out;have hy1:=heapExt hb1 HY.out;clear a0 a1 b0 b1;have a2:=cellOf hx1 2;have a3:=cellOf hx1 3;have a4:=cellOf hx1 4;have a5:=cellOf hx1 5;have a6:=cellOf hx1 6;have a7:=cellOf hx1 7;have a8:=cellOf hx1 8;have a9:=cellOf hx1 9;have a10:=cellOf hx1 10;(try dsimp only at a2 a3 a4 a5 a6 a7 a8 a9 a10);have b2:=cellOf hy1 2;have b3:=cellOf hy1 3;have b4:=cellOf hy1 4;have b5:=cellOf hy1 5;have b6:=cellOf hy1 6;have b7:=cellOf hy1 7;have b8:=cellOf hy1 8;have b9:=cellOf hy1 9;have b10:=cellOf hy1 10;(try dsimp only at b2 b3 b4 b5 b6 b7 b8 b9 b10);clear hx1 hy1 hb1))
    go_ret
    exact⟨by rw[HE.out];simp[q1,q2],HB.out.trans (HB1.out.mono HB.out.size)⟩
end
section
open Go Go.RowKit Go.Shelf
theorem neq_cnt (x y:Cnt) (w:World):(binOp .neq 58 (.agg #[.string x.nm,.int .i64 x.nu]) (.agg #[.string y.nm,.int .i64 y.nu])).run Tryz.prog w=.ok (.bool (!cntEqB x y)) w:=by
 go_simp
 unfold cntEqB
 repeat' split
 all_goals simp_all
theorem neq_que (x y:Que) (w:World):(binOp .neq 60 (.agg #[.string x.nm,.int .i64 x.nu,.int .i64 x.vr,.string x.tx]) (.agg #[.string y.nm,.int .i64 y.nu,.int .i64 y.vr,.string y.tx])).run Tryz.prog w=.ok (.bool (!queEqB x y)) w:=by
 go_simp
 unfold queEqB
 repeat' split
 all_goals simp_all
section
attribute [-go_sem] run_neq_struct
attribute [local go_sem] neq_cnt
theorem eqCnt_call (a a2:Option Addr) (n c n2 c2:Nat) (l l2:List Cnt) (w:World) (hd:IsRow cntK (· < w.heap.size) w a n c l) (hd2:IsRow cntK (· < w.heap.size) w a2 n2 c2 l2) :
 Calls Tryz.prog 49 #[.slice a n c,.slice a2 n2 c2] w fun e w'=>e=.returned (.bool (eqL cntEqB l l2))∧Below w.heap.size w w':=by
 have hbig:=hd.big
 have hbig2:=hd2.big
 have HL:=hid hd.len
 have HL2:=hid hd2.len
 have HD:=hid hd
 have HD2:=hid hd2
 clear hd hd2
 go_enter Tryz.func49,Tryz.ntmps49
 by_cases q2:n=n2
 ·subst q2
  go_wp2
  go_loopw [13] (fun i wr=>∃k:Nat,k≤n∧i=.int .i64 k∧(∀j (h1:j<l.length) (h2:j<l2.length),j<k→cntEqB l[j] l2[j]=true)∧Below w.heap.size w wr) (fun i _=>n-(intOf i).toNat)
  case atStart=>exact⟨0,Nat.zero_le _,rfl,fun j _ _ h=>absurd h (Nat.not_lt_zero j),Below.refl _ _⟩
  case round =>
   obtain⟨k,hk,rfl,hall,hbr⟩:=hrel
   have HA:=hid hall
   clear hall
   obtain⟨wp,rfl⟩:∃w1:World,w1=wr:=⟨_,rfl⟩
   have HBR:=hid hbr
   have hn63:(n:Int)≤9223372036854775807:=by omega
   by_cases hlt:k<n
   ·have hkl:k<l.length:=by have:=HL.out;omega
    have hkl2:k<l2.length:=by have:=HL2.out;omega
    obtain⟨b,o,rfl,hb,hx⟩:=HD.out.slot (show 0<n by omega)
    obtain⟨b2,o2,rfl,hb2,hy⟩:=HD2.out.slot (show 0<n by omega)
    obtain⟨x,hxa,hxi⟩:=hx k hkl
    obtain⟨y,hya,hyi⟩:=hy k hkl2
    have hlt':(k:Int)<(n:Int):=by omega
    have hk0:(0:Int)≤(k:Int):=by omega
    obtain⟨u,hu⟩:∃u,u=cntEqB l[k] l2[k]:=⟨_,rfl⟩
    have hxy:cntEqB x y=u:=by rw[hu,←hxi.e,←hyi.e]
    obtain⟨x0,x1⟩:=AtG.cnt (hxa.same (hbr.block b hb))
    obtain⟨y0,y1⟩:=AtG.cnt (hya.same (hbr.block b2 hb2))
    have HC6:Hid (∀w':World,(w'.heap[b]?=wp.heap[b]?∧w'.heap[b2]?=wp.heap[b2]?)→(w'.cell? ⟨b,o+k * 2,none⟩=some (.string x.nm)∧w'.cell? ⟨b,o+k * 2+1,none⟩=some (.int .i64 x.nu))∧(w'.cell? ⟨b2,o2+k * 2,none⟩=some (.string y.nm)∧w'.cell? ⟨b2,o2+k * 2+1,none⟩=some (.int .i64 y.nu))):=hid fun w' h =>
     ⟨⟨(World.cell?_of_block (w:=wp) (a:=⟨b,o+k * 2,none⟩) h.1).trans x0,(World.cell?_of_block (w:=wp) (a:=⟨b,o+k * 2+1,none⟩) h.1).trans x1⟩,⟨(World.cell?_of_block (w:=wp) (a:=⟨b2,o2+k * 2,none⟩) h.2).trans y0,(World.cell?_of_block (w:=wp) (a:=⟨b2,o2+k * 2+1,none⟩) h.2).trans y1⟩⟩
    have HU:=hid hu
    clear hx hy hu hxa hya hxi hyi hbr hb hb2 x0 x1 y0 y1
    cases u with
    | false =>
      go_upto_region 6 with (fail)
      refine wp_region_held_drew (S:=(fun w'=>w'.heap[b]?=wp.heap[b]?∧w'.heap[b2]?=wp.heap[b2]?)) (by kernel_rfl) (⟨rfl,rfl⟩) (fun hS=>?_)
      refine tkQ 0 (v:=?_) ?_ hS ?_;rotate_left;· intro w' hw';have hcells:=HC6.out w' hw';go_simp;(try with_reducible rfl)
      simp only[Act.put,pt1,pt2,pt3,pt4,pt5,pt6]
      refine tkQ 1 (v:=?_) ?_ hS ?_;rotate_left;· intro w' hw';have hcells:=HC6.out w' hw';go_simp;(try with_reducible rfl)
      simp only[Act.put,pt1,pt2,pt3,pt4,pt5,pt6]
      refine tkQ 2 (v:=?_) ?_ hS ?_;rotate_left;· intro w' hw';have hcells:=HC6.out w' hw';go_simp;(try with_reducible rfl)
      simp only[Act.put,pt1,pt2,pt3,pt4,pt5,pt6]
      refine tkQ 3 (v:=?_) ?_ hS ?_;rotate_left;· intro w' hw';have hcells:=HC6.out w' hw';go_simp;(try with_reducible rfl)
      simp only[Act.put,pt1,pt2,pt3,pt4,pt5,pt6]
      refine tkQ 4 (v:=?_) ?_ hS ?_;rotate_left;· intro w' hw';have hcells:=HC6.out w' hw';go_simp;(try with_reducible rfl)
      simp only[Act.put,pt1,pt2,pt3,pt4,pt5,pt6]
      refine tkQ 5 (v:=?_) ?_ hS ?_;rotate_left;· intro w' hw';have hcells:=HC6.out w' hw';go_simp;(try with_reducible rfl)
      simp only[Act.put,pt1,pt2,pt3,pt4,pt5,pt6]
      refine tkQ 6 (v:=?_) ?_ hS ?_;rotate_left;· intro w' hw';have hcells:=HC6.out w' hw';go_simp;(try with_reducible rfl)
      simp only[Act.put,pt1,pt2,pt3,pt4,pt5,pt6]
      refine tkQ 7 (v:=?_) ?_ hS ?_;rotate_left;· intro w' hw';have hcells:=HC6.out w' hw';go_simp;(try with_reducible rfl)
      simp only[Act.put,pt1,pt2,pt3,pt4,pt5,pt6]
      refine tkQ 8 (v:=?_) ?_ hS ?_;rotate_left;· intro w' hw';have hcells:=HC6.out w' hw';go_simp;(try with_reducible rfl)
      simp only[Act.put,pt1,pt2,pt3,pt4,pt5,pt6]
      refine wpAnyH_done (by kernel_rfl) ?_ _
      (try dsimp only)
      clear hS
      go_wp2
      go_ret
      exact⟨retB (eqL_ne k hkl hkl2 HU.out.symm).symm,HBR.out.drew⟩
    | true =>
      go_upto_region 6 with (fail)
      refine wp_region_held_drew (S:=(fun w'=>w'.heap[b]?=wp.heap[b]?∧w'.heap[b2]?=wp.heap[b2]?)) (by kernel_rfl) (⟨rfl,rfl⟩) (fun hS=>?_)
      refine tkQ 0 (v:=?_) ?_ hS ?_;rotate_left;· intro w' hw';have hcells:=HC6.out w' hw';go_simp;(try with_reducible rfl)
      simp only[Act.put,pt1,pt2,pt3,pt4,pt5,pt6]
      refine tkQ 1 (v:=?_) ?_ hS ?_;rotate_left;· intro w' hw';have hcells:=HC6.out w' hw';go_simp;(try with_reducible rfl)
      simp only[Act.put,pt1,pt2,pt3,pt4,pt5,pt6]
      refine tkQ 2 (v:=?_) ?_ hS ?_;rotate_left;· intro w' hw';have hcells:=HC6.out w' hw';go_simp;(try with_reducible rfl)
      simp only[Act.put,pt1,pt2,pt3,pt4,pt5,pt6]
      refine tkQ 3 (v:=?_) ?_ hS ?_;rotate_left;· intro w' hw';have hcells:=HC6.out w' hw';go_simp;(try with_reducible rfl)
      simp only[Act.put,pt1,pt2,pt3,pt4,pt5,pt6]
      refine tkQ 4 (v:=?_) ?_ hS ?_;rotate_left;· intro w' hw';have hcells:=HC6.out w' hw';go_simp;(try with_reducible rfl)
      simp only[Act.put,pt1,pt2,pt3,pt4,pt5,pt6]
      refine tkQ 5 (v:=?_) ?_ hS ?_;rotate_left;· intro w' hw';have hcells:=HC6.out w' hw';go_simp;(try with_reducible rfl)
      simp only[Act.put,pt1,pt2,pt3,pt4,pt5,pt6]
      refine tkQ 6 (v:=?_) ?_ hS ?_;rotate_left;· intro w' hw';have hcells:=HC6.out w' hw';go_simp;(try with_reducible rfl)
      simp only[Act.put,pt1,pt2,pt3,pt4,pt5,pt6]
      refine tkQ 7 (v:=?_) ?_ hS ?_;rotate_left;· intro w' hw';have hcells:=HC6.out w' hw';go_simp;(try with_reducible rfl)
      simp only[Act.put,pt1,pt2,pt3,pt4,pt5,pt6]
      refine tkQ 8 (v:=?_) ?_ hS ?_;rotate_left;· intro w' hw';have hcells:=HC6.out w' hw';go_simp;(try with_reducible rfl)
      simp only[Act.put,pt1,pt2,pt3,pt4,pt5,pt6]
      refine wpAnyH_done (by kernel_rfl) ?_ _
      (try dsimp only)
      clear hS
      go_wp2
      go_roundw
      case rel=>exact⟨k+1,by omega,by go_num,fun j h1 h2 h=>by
       by_cases hjk:j<k
       ·exact HA.out j h1 h2 hjk
       ·obtain rfl:j=k:=by omega
        exact HU.out.symm,HBR.out.drew⟩
      case measure=>simp[intOf];omega
   ·obtain rfl:k=n:=by omega
    have r:=hid (eqL_of (f:=cntEqB) (HL.out.symm.trans HL2.out) fun j h1 h2=>HA.out j h1 h2 (by have:=HL.out;omega))
    go_wp2
    go_ret
    exact⟨retB r.out.symm,HBR.out⟩
 ·have q2':¬ (n:Int)=(n2:Int):=by omega
  go_wp2
  go_ret
  exact⟨retB (eqL_len (by rw[←HL.out,←HL2.out];exact q2)).symm,Below.refl _ _⟩
theorem sameCnt_call (a a2:Option Addr) (n c n2 c2:Nat) (l l2:List Cnt) (w:World) (hd:IsRow cntK (· < w.heap.size) w a n c l) (hd2:IsRow cntK (· < w.heap.size) w a2 n2 c2 l2) :
 Calls Tryz.prog 119 #[.slice a n c,.slice a2 n2 c2] w fun e w'=>e=.returned (.bool (eqL cntEqB l l2))∧Below w.heap.size w w':=by
 have hbig:=hd.big
 have hbig2:=hd2.big
 have HL:=hid hd.len
 have HL2:=hid hd2.len
 have HD:=hid hd
 have HD2:=hid hd2
 clear hd hd2
 go_enter Tryz.func119,Tryz.ntmps119
 by_cases q2:n=n2
 ·subst q2
  go_wp2
  go_loopw [5] (fun i wr=>∃k:Nat,k≤n∧i=.int .i64 k∧(∀j (h1:j<l.length) (h2:j<l2.length),j<k→cntEqB l[j] l2[j]=true)∧Below w.heap.size w wr) (fun i _=>n-(intOf i).toNat)
  case atStart=>exact⟨0,Nat.zero_le _,rfl,fun j _ _ h=>absurd h (Nat.not_lt_zero j),Below.refl _ _⟩
  case round =>
   obtain⟨k,hk,rfl,hall,hbr⟩:=hrel
   have HA:=hid hall
   clear hall
   obtain⟨wp,rfl⟩:∃w1:World,w1=wr:=⟨_,rfl⟩
   have HBR:=hid hbr
   have hn63:(n:Int)≤9223372036854775807:=by omega
   by_cases hlt:k<n
   ·have hkl:k<l.length:=by have:=HL.out;omega
    have hkl2:k<l2.length:=by have:=HL2.out;omega
    obtain⟨b,o,rfl,hb,hx⟩:=HD.out.slot (show 0<n by omega)
    obtain⟨b2,o2,rfl,hb2,hy⟩:=HD2.out.slot (show 0<n by omega)
    obtain⟨x,hxa,hxi⟩:=hx k hkl
    obtain⟨y,hya,hyi⟩:=hy k hkl2
    have hlt':(k:Int)<(n:Int):=by omega
    have hk0:(0:Int)≤(k:Int):=by omega
    obtain⟨u,hu⟩:∃u,u=cntEqB l[k] l2[k]:=⟨_,rfl⟩
    have hxy:cntEqB x y=u:=by rw[hu,←hxi.e,←hyi.e]
    obtain⟨x0,x1⟩:=AtG.cnt (hxa.same (hbr.block b hb))
    obtain⟨y0,y1⟩:=AtG.cnt (hya.same (hbr.block b2 hb2))
    have HC6:Hid (∀w':World,(w'.heap[b]?=wp.heap[b]?∧w'.heap[b2]?=wp.heap[b2]?)→(w'.cell? ⟨b,o+k * 2,none⟩=some (.string x.nm)∧w'.cell? ⟨b,o+k * 2+1,none⟩=some (.int .i64 x.nu))∧(w'.cell? ⟨b2,o2+k * 2,none⟩=some (.string y.nm)∧w'.cell? ⟨b2,o2+k * 2+1,none⟩=some (.int .i64 y.nu))):=hid fun w' h =>
     ⟨⟨(World.cell?_of_block (w:=wp) (a:=⟨b,o+k * 2,none⟩) h.1).trans x0,(World.cell?_of_block (w:=wp) (a:=⟨b,o+k * 2+1,none⟩) h.1).trans x1⟩,⟨(World.cell?_of_block (w:=wp) (a:=⟨b2,o2+k * 2,none⟩) h.2).trans y0,(World.cell?_of_block (w:=wp) (a:=⟨b2,o2+k * 2+1,none⟩) h.2).trans y1⟩⟩
    have HU:=hid hu
    clear hx hy hu hxa hya hxi hyi hbr hb hb2 x0 x1 y0 y1
    cases u with
    | false =>
      go_upto_region 6 with (fail)
      refine wp_region_held_drew (S:=(fun w'=>w'.heap[b]?=wp.heap[b]?∧w'.heap[b2]?=wp.heap[b2]?)) (by kernel_rfl) (⟨rfl,rfl⟩) (fun hS=>?_)
      refine tkQ 0 (v:=?_) ?_ hS ?_;rotate_left;· intro w' hw';have hcells:=HC6.out w' hw';go_simp;(try with_reducible rfl)
      simp only[Act.put,pt1,pt2,pt3,pt4,pt5,pt6]
      refine tkQ 1 (v:=?_) ?_ hS ?_;rotate_left;· intro w' hw';have hcells:=HC6.out w' hw';go_simp;(try with_reducible rfl)
      simp only[Act.put,pt1,pt2,pt3,pt4,pt5,pt6]
      refine tkQ 2 (v:=?_) ?_ hS ?_;rotate_left;· intro w' hw';have hcells:=HC6.out w' hw';go_simp;(try with_reducible rfl)
      simp only[Act.put,pt1,pt2,pt3,pt4,pt5,pt6]
      refine tkQ 3 (v:=?_) ?_ hS ?_;rotate_left;· intro w' hw';have hcells:=HC6.out w' hw';go_simp;(try with_reducible rfl)
      simp only[Act.put,pt1,pt2,pt3,pt4,pt5,pt6]
      refine tkQ 4 (v:=?_) ?_ hS ?_;rotate_left;· intro w' hw';have hcells:=HC6.out w' hw';go_simp;(try with_reducible rfl)
      simp only[Act.put,pt1,pt2,pt3,pt4,pt5,pt6]
      refine tkQ 5 (v:=?_) ?_ hS ?_;rotate_left;· intro w' hw';have hcells:=HC6.out w' hw';go_simp;(try with_reducible rfl)
      simp only[Act.put,pt1,pt2,pt3,pt4,pt5,pt6]
      refine tkQ 6 (v:=?_) ?_ hS ?_;rotate_left;· intro w' hw';have hcells:=HC6.out w' hw';go_simp;(try with_reducible rfl)
      simp only[Act.put,pt1,pt2,pt3,pt4,pt5,pt6]
      refine tkQ 7 (v:=?_) ?_ hS ?_;rotate_left;· intro w' hw';have hcells:=HC6.out w' hw';go_simp;(try with_reducible rfl)
      simp only[Act.put,pt1,pt2,pt3,pt4,pt5,pt6]
      refine tkQ 8 (v:=?_) ?_ hS ?_;rotate_left;· intro w' hw';have hcells:=HC6.out w' hw';go_simp;(try with_reducible rfl)
      simp only[Act.put,pt1,pt2,pt3,pt4,pt5,pt6]
      refine wpAnyH_done (by kernel_rfl) ?_ _
      (try dsimp only)
      clear hS
      go_wp2
      go_ret
      exact⟨retB (eqL_ne k hkl hkl2 HU.out.symm).symm,HBR.out.drew⟩
    | true =>
      go_upto_region 6 with (fail)
      refine wp_region_held_drew (S:=(fun w'=>w'.heap[b]?=wp.heap[b]?∧w'.heap[b2]?=wp.heap[b2]?)) (by kernel_rfl) (⟨rfl,rfl⟩) (fun hS=>?_)
      refine tkQ 0 (v:=?_) ?_ hS ?_;rotate_left;· intro w' hw';have hcells:=HC6.out w' hw';go_simp;(try with_reducible rfl)
      simp only[Act.put,pt1,pt2,pt3,pt4,pt5,pt6]
      refine tkQ 1 (v:=?_) ?_ hS ?_;rotate_left;· intro w' hw';have hcells:=HC6.out w' hw';go_simp;(try with_reducible rfl)
      simp only[Act.put,pt1,pt2,pt3,pt4,pt5,pt6]
      refine tkQ 2 (v:=?_) ?_ hS ?_;rotate_left;· intro w' hw';have hcells:=HC6.out w' hw';go_simp;(try with_reducible rfl)
      simp only[Act.put,pt1,pt2,pt3,pt4,pt5,pt6]
      refine tkQ 3 (v:=?_) ?_ hS ?_;rotate_left;· intro w' hw';have hcells:=HC6.out w' hw';go_simp;(try with_reducible rfl)
      simp only[Act.put,pt1,pt2,pt3,pt4,pt5,pt6]
      refine tkQ 4 (v:=?_) ?_ hS ?_;rotate_left;· intro w' hw';have hcells:=HC6.out w' hw';go_simp;(try with_reducible rfl)
      simp only[Act.put,pt1,pt2,pt3,pt4,pt5,pt6]
      refine tkQ 5 (v:=?_) ?_ hS ?_;rotate_left;· intro w' hw';have hcells:=HC6.out w' hw';go_simp;(try with_reducible rfl)
      simp only[Act.put,pt1,pt2,pt3,pt4,pt5,pt6]
      refine tkQ 6 (v:=?_) ?_ hS ?_;rotate_left;· intro w' hw';have hcells:=HC6.out w' hw';go_simp;(try with_reducible rfl)
      simp only[Act.put,pt1,pt2,pt3,pt4,pt5,pt6]
      refine tkQ 7 (v:=?_) ?_ hS ?_;rotate_left;· intro w' hw';have hcells:=HC6.out w' hw';go_simp;(try with_reducible rfl)
      simp only[Act.put,pt1,pt2,pt3,pt4,pt5,pt6]
      refine tkQ 8 (v:=?_) ?_ hS ?_;rotate_left;· intro w' hw';have hcells:=HC6.out w' hw';go_simp;(try with_reducible rfl)
      simp only[Act.put,pt1,pt2,pt3,pt4,pt5,pt6]
      refine wpAnyH_done (by kernel_rfl) ?_ _
      (try dsimp only)
      clear hS
      go_wp2
      go_roundw
      case rel=>exact⟨k+1,by omega,by go_num,fun j h1 h2 h=>by
       by_cases hjk:j<k
       ·exact HA.out j h1 h2 hjk
       ·obtain rfl:j=k:=by omega
        exact HU.out.symm,HBR.out.drew⟩
      case measure=>simp[intOf];omega
   ·obtain rfl:k=n:=by omega
    have r:=hid (eqL_of (f:=cntEqB) (HL.out.symm.trans HL2.out) fun j h1 h2=>HA.out j h1 h2 (by have:=HL.out;omega))
    go_wp2
    go_ret
    exact⟨retB r.out.symm,HBR.out⟩
 ·have q2':¬ (n:Int)=(n2:Int):=by omega
  go_wp2
  go_ret
  exact⟨retB (eqL_len (by rw[←HL.out,←HL2.out];exact q2)).symm,Below.refl _ _⟩
end
section
attribute [-go_sem] run_neq_struct
attribute [local go_sem] neq_que
theorem eqQue_call (a a2:Option Addr) (n c n2 c2:Nat) (l l2:List Que) (w:World) (hd:IsRow queK (· < w.heap.size) w a n c l) (hd2:IsRow queK (· < w.heap.size) w a2 n2 c2 l2) :
 Calls Tryz.prog 50 #[.slice a n c,.slice a2 n2 c2] w fun e w'=>e=.returned (.bool (eqL queEqB l l2))∧Below w.heap.size w w':=by
 have hbig:=hd.big
 have hbig2:=hd2.big
 have HL:=hid hd.len
 have HL2:=hid hd2.len
 have HD:=hid hd
 have HD2:=hid hd2
 clear hd hd2
 go_enter Tryz.func50,Tryz.ntmps50
 by_cases q2:n=n2
 ·subst q2
  go_wp2
  go_loopw [13] (fun i wr=>∃k:Nat,k≤n∧i=.int .i64 k∧(∀j (h1:j<l.length) (h2:j<l2.length),j<k→queEqB l[j] l2[j]=true)∧Below w.heap.size w wr) (fun i _=>n-(intOf i).toNat)
  case atStart=>exact⟨0,Nat.zero_le _,rfl,fun j _ _ h=>absurd h (Nat.not_lt_zero j),Below.refl _ _⟩
  case round =>
   obtain⟨k,hk,rfl,hall,hbr⟩:=hrel
   have HA:=hid hall
   clear hall
   obtain⟨wp,rfl⟩:∃w1:World,w1=wr:=⟨_,rfl⟩
   have HBR:=hid hbr
   have hn63:(n:Int)≤9223372036854775807:=by omega
   by_cases hlt:k<n
   ·have hkl:k<l.length:=by have:=HL.out;omega
    have hkl2:k<l2.length:=by have:=HL2.out;omega
    obtain⟨b,o,rfl,hb,hx⟩:=HD.out.slot (show 0<n by omega)
    obtain⟨b2,o2,rfl,hb2,hy⟩:=HD2.out.slot (show 0<n by omega)
    obtain⟨x,hxa,hxi⟩:=hx k hkl
    obtain⟨y,hya,hyi⟩:=hy k hkl2
    have hlt':(k:Int)<(n:Int):=by omega
    have hk0:(0:Int)≤(k:Int):=by omega
    obtain⟨u,hu⟩:∃u,u=queEqB l[k] l2[k]:=⟨_,rfl⟩
    have hxy:queEqB x y=u:=by rw[hu,←hxi.e,←hyi.e]
    obtain⟨x0,x1,x2,x3⟩:=AtG.que (hxa.same (hbr.block b hb))
    obtain⟨y0,y1,y2,y3⟩:=AtG.que (hya.same (hbr.block b2 hb2))
    have HC6:Hid (∀w':World,(w'.heap[b]?=wp.heap[b]?∧w'.heap[b2]?=wp.heap[b2]?)→(w'.cell? ⟨b,o+k * 4,none⟩=some (.string x.nm)∧w'.cell? ⟨b,o+k * 4+1,none⟩=some (.int .i64 x.nu)∧w'.cell? ⟨b,o+k * 4+2,none⟩=some (.int .i64 x.vr)∧w'.cell? ⟨b,o+k * 4+3,none⟩=some (.string x.tx))∧(w'.cell? ⟨b2,o2+k * 4,none⟩=some (.string y.nm)∧w'.cell? ⟨b2,o2+k * 4+1,none⟩=some (.int .i64 y.nu)∧w'.cell? ⟨b2,o2+k * 4+2,none⟩=some (.int .i64 y.vr)∧w'.cell? ⟨b2,o2+k * 4+3,none⟩=some (.string y.tx))):=hid fun w' h =>
     ⟨⟨(World.cell?_of_block (w:=wp) (a:=⟨b,o+k * 4,none⟩) h.1).trans x0,(World.cell?_of_block (w:=wp) (a:=⟨b,o+k * 4+1,none⟩) h.1).trans x1,(World.cell?_of_block (w:=wp) (a:=⟨b,o+k * 4+2,none⟩) h.1).trans x2,(World.cell?_of_block (w:=wp) (a:=⟨b,o+k * 4+3,none⟩) h.1).trans x3⟩,⟨(World.cell?_of_block (w:=wp) (a:=⟨b2,o2+k * 4,none⟩) h.2).trans y0,(World.cell?_of_block (w:=wp) (a:=⟨b2,o2+k * 4+1,none⟩) h.2).trans y1,(World.cell?_of_block (w:=wp) (a:=⟨b2,o2+k * 4+2,none⟩) h.2).trans y2,(World.cell?_of_block (w:=wp) (a:=⟨b2,o2+k * 4+3,none⟩) h.2).trans y3⟩⟩
    have HU:=hid hu
    clear hx hy hu hxa hya hxi hyi hbr hb hb2 x0 x1 x2 x3 y0 y1 y2 y3
    cases u with
    | false =>
      go_upto_region 6 with (fail)
      refine wp_region_held_drew (S:=(fun w'=>w'.heap[b]?=wp.heap[b]?∧w'.heap[b2]?=wp.heap[b2]?)) (by kernel_rfl) (⟨rfl,rfl⟩) (fun hS=>?_)
      refine tkQ 0 (v:=?_) ?_ hS ?_;rotate_left;· intro w' hw';have hcells:=HC6.out w' hw';go_simp;(try with_reducible rfl)
      simp only[Act.put,pt1,pt2,pt3,pt4,pt5,pt6]
      refine tkQ 1 (v:=?_) ?_ hS ?_;rotate_left;· intro w' hw';have hcells:=HC6.out w' hw';go_simp;(try with_reducible rfl)
      simp only[Act.put,pt1,pt2,pt3,pt4,pt5,pt6]
      refine tkQ 2 (v:=?_) ?_ hS ?_;rotate_left;· intro w' hw';have hcells:=HC6.out w' hw';go_simp;(try with_reducible rfl)
      simp only[Act.put,pt1,pt2,pt3,pt4,pt5,pt6]
      refine tkQ 3 (v:=?_) ?_ hS ?_;rotate_left;· intro w' hw';have hcells:=HC6.out w' hw';go_simp;(try with_reducible rfl)
      simp only[Act.put,pt1,pt2,pt3,pt4,pt5,pt6]
      refine tkQ 4 (v:=?_) ?_ hS ?_;rotate_left;· intro w' hw';have hcells:=HC6.out w' hw';go_simp;(try with_reducible rfl)
      simp only[Act.put,pt1,pt2,pt3,pt4,pt5,pt6]
      refine tkQ 5 (v:=?_) ?_ hS ?_;rotate_left;· intro w' hw';have hcells:=HC6.out w' hw';go_simp;(try with_reducible rfl)
      simp only[Act.put,pt1,pt2,pt3,pt4,pt5,pt6]
      refine tkQ 6 (v:=?_) ?_ hS ?_;rotate_left;· intro w' hw';have hcells:=HC6.out w' hw';go_simp;(try with_reducible rfl)
      simp only[Act.put,pt1,pt2,pt3,pt4,pt5,pt6]
      refine tkQ 7 (v:=?_) ?_ hS ?_;rotate_left;· intro w' hw';have hcells:=HC6.out w' hw';go_simp;(try with_reducible rfl)
      simp only[Act.put,pt1,pt2,pt3,pt4,pt5,pt6]
      refine tkQ 8 (v:=?_) ?_ hS ?_;rotate_left;· intro w' hw';have hcells:=HC6.out w' hw';go_simp;(try with_reducible rfl)
      simp only[Act.put,pt1,pt2,pt3,pt4,pt5,pt6]
      refine wpAnyH_done (by kernel_rfl) ?_ _
      (try dsimp only)
      clear hS
      go_wp2
      go_ret
      exact⟨retB (eqL_ne k hkl hkl2 HU.out.symm).symm,HBR.out.drew⟩
    | true =>
      go_upto_region 6 with (fail)
      refine wp_region_held_drew (S:=(fun w'=>w'.heap[b]?=wp.heap[b]?∧w'.heap[b2]?=wp.heap[b2]?)) (by kernel_rfl) (⟨rfl,rfl⟩) (fun hS=>?_)
      refine tkQ 0 (v:=?_) ?_ hS ?_;rotate_left;· intro w' hw';have hcells:=HC6.out w' hw';go_simp;(try with_reducible rfl)
      simp only[Act.put,pt1,pt2,pt3,pt4,pt5,pt6]
      refine tkQ 1 (v:=?_) ?_ hS ?_;rotate_left;· intro w' hw';have hcells:=HC6.out w' hw';go_simp;(try with_reducible rfl)
      simp only[Act.put,pt1,pt2,pt3,pt4,pt5,pt6]
      refine tkQ 2 (v:=?_) ?_ hS ?_;rotate_left;· intro w' hw';have hcells:=HC6.out w' hw';go_simp;(try with_reducible rfl)
      simp only[Act.put,pt1,pt2,pt3,pt4,pt5,pt6]
      refine tkQ 3 (v:=?_) ?_ hS ?_;rotate_left;· intro w' hw';have hcells:=HC6.out w' hw';go_simp;(try with_reducible rfl)
      simp only[Act.put,pt1,pt2,pt3,pt4,pt5,pt6]
      refine tkQ 4 (v:=?_) ?_ hS ?_;rotate_left;· intro w' hw';have hcells:=HC6.out w' hw';go_simp;(try with_reducible rfl)
      simp only[Act.put,pt1,pt2,pt3,pt4,pt5,pt6]
      refine tkQ 5 (v:=?_) ?_ hS ?_;rotate_left;· intro w' hw';have hcells:=HC6.out w' hw';go_simp;(try with_reducible rfl)
      simp only[Act.put,pt1,pt2,pt3,pt4,pt5,pt6]
      refine tkQ 6 (v:=?_) ?_ hS ?_;rotate_left;· intro w' hw';have hcells:=HC6.out w' hw';go_simp;(try with_reducible rfl)
      simp only[Act.put,pt1,pt2,pt3,pt4,pt5,pt6]
      refine tkQ 7 (v:=?_) ?_ hS ?_;rotate_left;· intro w' hw';have hcells:=HC6.out w' hw';go_simp;(try with_reducible rfl)
      simp only[Act.put,pt1,pt2,pt3,pt4,pt5,pt6]
      refine tkQ 8 (v:=?_) ?_ hS ?_;rotate_left;· intro w' hw';have hcells:=HC6.out w' hw';go_simp;(try with_reducible rfl)
      simp only[Act.put,pt1,pt2,pt3,pt4,pt5,pt6]
      refine wpAnyH_done (by kernel_rfl) ?_ _
      (try dsimp only)
      clear hS
      go_wp2
      go_roundw
      case rel=>exact⟨k+1,by omega,by go_num,fun j h1 h2 h=>by
       by_cases hjk:j<k
       ·exact HA.out j h1 h2 hjk
       ·obtain rfl:j=k:=by omega
        exact HU.out.symm,HBR.out.drew⟩
      case measure=>simp[intOf];omega
   ·obtain rfl:k=n:=by omega
    have r:=hid (eqL_of (f:=queEqB) (HL.out.symm.trans HL2.out) fun j h1 h2=>HA.out j h1 h2 (by have:=HL.out;omega))
    go_wp2
    go_ret
    exact⟨retB r.out.symm,HBR.out⟩
 ·have q2':¬ (n:Int)=(n2:Int):=by omega
  go_wp2
  go_ret
  exact⟨retB (eqL_len (by rw[←HL.out,←HL2.out];exact q2)).symm,Below.refl _ _⟩
end
end
end Go.Proofs.YteladbdfiannjaaGreatDoor
