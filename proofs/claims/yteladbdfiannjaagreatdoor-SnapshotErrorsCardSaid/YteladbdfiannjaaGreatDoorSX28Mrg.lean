/- A part. -/
import Derived.Test.YteladbdfiannjaaGreatDoorSX24Mrg
namespace Go.Proofs.YteladbdfiannjaaGreatDoor
set_option linter.unusedVariables false
set_option maxRecDepth 100000
set_option maxHeartbeats 64000000
set_option linter.unusedSimpArgs false
section
open Go Go.RowKit Go.Shelf
theorem sK (k:Int) (x:EfC) (d:Ef) (w:World) (hd:IsEf (· < w.heap.size) w x d) (hT:Tabs w) (hk:x.k=2) (h1:aI x.nm=true) (h2:inQ x.nu 1 999999999999999=true) (h3:aS d.st=0) :
 Calls Tryz.prog 36 #[.int .i64 k,.agg #[.int .i64 x.k,.string x.nm,.int .i64 x.nu,.string x.tx,.int .i64 x.st.e,.slice x.st.a x.st.n x.st.c,.int .i64 x.rs.e,.slice x.rs.a x.rs.n x.rs.c,.string x.sv,.int .i64 x.ca,.bool x.un,.int .i64 x.bd.k,.int .i64 x.bd.i,.int .i64 x.bd.s,.string x.bd.t,.slice x.bd.la x.bd.ll x.bd.lc,.slice x.bd.fa x.bd.fl x.bd.fc,.string x.nd]] w fun e w'=>e=.returned (.int .i64 (efE d))∧Below w.heap.size w w':=by
 have hba:Below w.heap.size w (w.alloc (efO x)):=(bR w).alloc lr _
 have HSC:Hid (Calls Tryz.prog 112 #[x.st.v] (w.alloc (efO x)) fun e w'=>e=.returned (.int .i64 0)∧Below (w.alloc (efO x)).heap.size (w.alloc (efO x)) w'):=hid (by rw[←h3];exact bK (· < w.heap.size) x.st d.st w _ hd.st fun b hb=>⟨by simp;omega,hba.block b hb⟩)
 obtain⟨z,hz⟩:∃z,z=hU d.rs d.st:=⟨_,rfl⟩
 obtain⟨ce,hce⟩:∃ce,ce=bP d.bd:=⟨_,rfl⟩
 have HSE:=hid (fun (w1:World) (hb:Below (w.alloc (efO x)).heap.size (w.alloc (efO x)) w1)=>(show Calls Tryz.prog 45 #[x.rs.v,x.st.v] (w1.alloc (rqO x)) fun e w'=>e=.returned (.bool z)∧Below (w1.alloc (rqO x)).heap.size (w1.alloc (rqO x)) w' from by
  rw[hz]
  have hs:=hb.size
  have hs0:(w.alloc (efO x)).heap.size=w.heap.size+1:=by simp
  have hq:∀b,b<w.heap.size→b<(w1.alloc (rqO x)).heap.size∧(w1.alloc (rqO x)).heap[b]?=w.heap[b]?:=fun b hb'=>⟨by simp;omega,(Below.heap_alloc w1 _ b (by omega)).trans ((hb.block b (by omega)).trans (hba.block b hb'))⟩
  exact fN _ _ _ _ (w1.alloc (rqO x)) (hd.rs.same hq) (hd.st.same hq)))
 have HVC:=hid (fun (w':World) (hb:Below w.heap.size w w')=>(show Calls Tryz.prog 104 #[x.bd.v] w' fun e w2=>e=.returned (.int .i64 ce)∧Below w'.heap.size w' w2 from by
  rw[hce]
  exact gH x.bd d.bd w' (hd.bd.same fun b hb'=>⟨by have:=hb.size;omega,hb.block b hb'⟩) (hT.below hb)))
 have HE:=hid (show efE d=if x.tx.toList.isEmpty=false∨(x.sv.toList==x.nm.toList)=false∨z=false then 3 else if aI x.nd=false then 12 else if inQ x.ca 0 999999999999999=false then 2 else ce by
  unfold efE;rw[if_neg (fun h=>h.2 (hd.k▸hk)),if_neg (by rw[←hd.nm,h1];decide),if_neg (by rw[←hd.nu,h2];decide),if_neg (by rw[h3];simp),if_neg (by rw[←hd.k,hk];decide),hd.tx,hz,hd.nd,hd.sv,hd.nm,hd.ca,hce])
 have HX:=hid (heap_alloc_new w (efO x))
 have HB:=hid hba
 clear hba hd hT hz h3 hce
 obtain⟨xk,nm,nu,tx,st,rs,sv,ca,un,bd,nd⟩:=x
 dsimp only[SC.v,VC.v] at HSC HE HSE HVC hk h1 h2 ⊢
 subst hk
 cases h4:tx.toList.isEmpty
 ·go_enter Tryz.func36,Tryz.ntmps36
  go_wp2_with (first | (go_at_call 39;refine(aG _ _).mono ?_;rintro e w3 ⟨rfl,hw3⟩;obtain rfl:=hw3) | (go_at_call 25;refine(aL _ _ _ _).mono ?_;rintro e w3 ⟨rfl,hw3⟩;obtain rfl:=hw3) | (go_at_call 112;refine HSC.out.mono ?_;rintro e w1 ⟨rfl,hb1⟩;have HB1:=hid hb1;have hx1:=aB hb1 HX.out;have a0:=aA hx1 0;have a1:=aA hx1 1;have a2:=aA hx1 2;have a3:=aA hx1 3;have a4:=aA hx1 4;have a5:=aA hx1 5;have a6:=aA hx1 6;have a7:=aA hx1 7;have a8:=aA hx1 8;have a9:=aA hx1 9;have a10:=aA hx1 10;have a11:=aA hx1 11;have a12:=aA hx1 12;have a13:=aA hx1 13;have a14:=aA hx1 14;have a15:=aA hx1 15;have a16:=aA hx1 16;have a17:=aA hx1 17;(try dsimp only at a0 a1 a2 a3 a4 a5 a6 a7 a8 a9 a10 a11 a12 a13 a14 a15 a16 a17);have hy1:=aC (.cells #[.int .i64 rs.e,.slice rs.a rs.n rs.c,.string sv,.int .i64 ca,.bool un,.int .i64 bd.k,.int .i64 bd.i,.int .i64 bd.s,.string bd.t,.slice bd.la bd.ll bd.lc,.slice bd.fa bd.fl bd.fc] 73) hx1;have y0:=aA hy1 0;have y1:=aA hy1 1;have y3:=aA hy1 3;have y4:=aA hy1 4;have y5:=aA hy1 5;have y17:=aA hy1 17;(try dsimp only at y0 y1 y3 y4 y5 y17);clear hx1 hy1 hb1))
  go_ret
  exact⟨by rw[HE.out,if_pos (by simp[h4])];rfl,HB.out.trans ((HB1.out.mono HB.out.size).trans ((Below.refl _ _).alloc (Nat.le_trans HB.out.size HB1.out.size) _))⟩
 ·cases h5:(sv.toList==nm.toList)
  ·go_enter Tryz.func36,Tryz.ntmps36
   go_wp2_with (first | (go_at_call 39;refine(aG _ _).mono ?_;rintro e w3 ⟨rfl,hw3⟩;obtain rfl:=hw3) | (go_at_call 25;refine(aL _ _ _ _).mono ?_;rintro e w3 ⟨rfl,hw3⟩;obtain rfl:=hw3) | (go_at_call 112;refine HSC.out.mono ?_;rintro e w1 ⟨rfl,hb1⟩;have HB1:=hid hb1;have hx1:=aB hb1 HX.out;have a0:=aA hx1 0;have a1:=aA hx1 1;have a2:=aA hx1 2;have a3:=aA hx1 3;have a4:=aA hx1 4;have a5:=aA hx1 5;have a6:=aA hx1 6;have a7:=aA hx1 7;have a8:=aA hx1 8;have a9:=aA hx1 9;have a10:=aA hx1 10;have a11:=aA hx1 11;have a12:=aA hx1 12;have a13:=aA hx1 13;have a14:=aA hx1 14;have a15:=aA hx1 15;have a16:=aA hx1 16;have a17:=aA hx1 17;(try dsimp only at a0 a1 a2 a3 a4 a5 a6 a7 a8 a9 a10 a11 a12 a13 a14 a15 a16 a17);have hy1:=aC (.cells #[.int .i64 rs.e,.slice rs.a rs.n rs.c,.string sv,.int .i64 ca,.bool un,.int .i64 bd.k,.int .i64 bd.i,.int .i64 bd.s,.string bd.t,.slice bd.la bd.ll bd.lc,.slice bd.fa bd.fl bd.fc] 73) hx1;have y0:=aA hy1 0;have y1:=aA hy1 1;have y3:=aA hy1 3;have y4:=aA hy1 4;have y5:=aA hy1 5;have y17:=aA hy1 17;(try dsimp only at y0 y1 y3 y4 y5 y17);clear hx1 hy1 hb1))
   go_ret
   exact⟨by rw[HE.out,if_pos (by simp[h5])];rfl,HB.out.trans ((HB1.out.mono HB.out.size).trans ((Below.refl _ _).alloc (Nat.le_trans HB.out.size HB1.out.size) _))⟩
  ·cases z
   ·go_enter Tryz.func36,Tryz.ntmps36
    go_wp2_with (first | (go_at_call 39;refine(aG _ _).mono ?_;rintro e w3 ⟨rfl,hw3⟩;obtain rfl:=hw3) | (go_at_call 25;refine(aL _ _ _ _).mono ?_;rintro e w3 ⟨rfl,hw3⟩;obtain rfl:=hw3) | (go_at_call 112;refine HSC.out.mono ?_;rintro e w1 ⟨rfl,hb1⟩;have HB1:=hid hb1;have hx1:=aB hb1 HX.out;have a0:=aA hx1 0;have a1:=aA hx1 1;have a2:=aA hx1 2;have a3:=aA hx1 3;have a4:=aA hx1 4;have a5:=aA hx1 5;have a6:=aA hx1 6;have a7:=aA hx1 7;have a8:=aA hx1 8;have a9:=aA hx1 9;have a10:=aA hx1 10;have a11:=aA hx1 11;have a12:=aA hx1 12;have a13:=aA hx1 13;have a14:=aA hx1 14;have a15:=aA hx1 15;have a16:=aA hx1 16;have a17:=aA hx1 17;(try dsimp only at a0 a1 a2 a3 a4 a5 a6 a7 a8 a9 a10 a11 a12 a13 a14 a15 a16 a17);have hy1:=aC (.cells #[.int .i64 rs.e,.slice rs.a rs.n rs.c,.string sv,.int .i64 ca,.bool un,.int .i64 bd.k,.int .i64 bd.i,.int .i64 bd.s,.string bd.t,.slice bd.la bd.ll bd.lc,.slice bd.fa bd.fl bd.fc] 73) hx1;have y0:=aA hy1 0;have y1:=aA hy1 1;have y3:=aA hy1 3;have y4:=aA hy1 4;have y5:=aA hy1 5;have y17:=aA hy1 17;(try dsimp only at y0 y1 y3 y4 y5 y17);clear hx1 hy1 hb1) | (go_at_call 45;refine(HSE.out _ HB1.out).mono ?_;rintro e w4 ⟨rfl,hb4⟩;have HB4:=hid hb4;have hx4:=aB hb4 (aC (.cells #[.int .i64 rs.e,.slice rs.a rs.n rs.c,.string sv,.int .i64 ca,.bool un,.int .i64 bd.k,.int .i64 bd.i,.int .i64 bd.s,.string bd.t,.slice bd.la bd.ll bd.lc,.slice bd.fa bd.fl bd.fc] 73) (aB HB1.out HX.out));have c17:=aA hx4 17;(try dsimp only at c17);have hy4:=aB hb4 (heap_alloc_new _ (.cells #[.int .i64 rs.e,.slice rs.a rs.n rs.c,.string sv,.int .i64 ca,.bool un,.int .i64 bd.k,.int .i64 bd.i,.int .i64 bd.s,.string bd.t,.slice bd.la bd.ll bd.lc,.slice bd.fa bd.fl bd.fc] 73));have r3:=aA hy4 3;have r5:=aA hy4 5;have r6:=aA hy4 6;have r7:=aA hy4 7;have r8:=aA hy4 8;have r9:=aA hy4 9;have r10:=aA hy4 10;(try dsimp only at r3 r5 r6 r7 r8 r9 r10);clear hx4 hy4 hb4))
    go_ret
    exact⟨by rw[HE.out,if_pos (by simp)];rfl,HB.out.trans (((HB1.out.mono HB.out.size).trans ((Below.refl _ _).alloc (Nat.le_trans HB.out.size HB1.out.size) _)).trans (HB4.out.mono (by have h1:=HB.out.size;have h2:=HB1.out.size;simp at h1 h2 ⊢;omega)))⟩
   ·cases h6:aI nd
    ·go_enter Tryz.func36,Tryz.ntmps36
     go_wp2_with (first | (go_at_call 39;refine(aG _ _).mono ?_;rintro e w3 ⟨rfl,hw3⟩;obtain rfl:=hw3) | (go_at_call 25;refine(aL _ _ _ _).mono ?_;rintro e w3 ⟨rfl,hw3⟩;obtain rfl:=hw3) | (go_at_call 112;refine HSC.out.mono ?_;rintro e w1 ⟨rfl,hb1⟩;have HB1:=hid hb1;have hx1:=aB hb1 HX.out;have a0:=aA hx1 0;have a1:=aA hx1 1;have a2:=aA hx1 2;have a3:=aA hx1 3;have a4:=aA hx1 4;have a5:=aA hx1 5;have a6:=aA hx1 6;have a7:=aA hx1 7;have a8:=aA hx1 8;have a9:=aA hx1 9;have a10:=aA hx1 10;have a11:=aA hx1 11;have a12:=aA hx1 12;have a13:=aA hx1 13;have a14:=aA hx1 14;have a15:=aA hx1 15;have a16:=aA hx1 16;have a17:=aA hx1 17;(try dsimp only at a0 a1 a2 a3 a4 a5 a6 a7 a8 a9 a10 a11 a12 a13 a14 a15 a16 a17);have hy1:=aC (.cells #[.int .i64 rs.e,.slice rs.a rs.n rs.c,.string sv,.int .i64 ca,.bool un,.int .i64 bd.k,.int .i64 bd.i,.int .i64 bd.s,.string bd.t,.slice bd.la bd.ll bd.lc,.slice bd.fa bd.fl bd.fc] 73) hx1;have y0:=aA hy1 0;have y1:=aA hy1 1;have y3:=aA hy1 3;have y4:=aA hy1 4;have y5:=aA hy1 5;have y17:=aA hy1 17;(try dsimp only at y0 y1 y3 y4 y5 y17);clear hx1 hy1 hb1) | (go_at_call 45;refine(HSE.out _ HB1.out).mono ?_;rintro e w4 ⟨rfl,hb4⟩;have HB4:=hid hb4;have hx4:=aB hb4 (aC (.cells #[.int .i64 rs.e,.slice rs.a rs.n rs.c,.string sv,.int .i64 ca,.bool un,.int .i64 bd.k,.int .i64 bd.i,.int .i64 bd.s,.string bd.t,.slice bd.la bd.ll bd.lc,.slice bd.fa bd.fl bd.fc] 73) (aB HB1.out HX.out));have c17:=aA hx4 17;(try dsimp only at c17);have hy4:=aB hb4 (heap_alloc_new _ (.cells #[.int .i64 rs.e,.slice rs.a rs.n rs.c,.string sv,.int .i64 ca,.bool un,.int .i64 bd.k,.int .i64 bd.i,.int .i64 bd.s,.string bd.t,.slice bd.la bd.ll bd.lc,.slice bd.fa bd.fl bd.fc] 73));have r3:=aA hy4 3;have r5:=aA hy4 5;have r6:=aA hy4 6;have r7:=aA hy4 7;have r8:=aA hy4 8;have r9:=aA hy4 9;have r10:=aA hy4 10;(try dsimp only at r3 r5 r6 r7 r8 r9 r10);clear hx4 hy4 hb4))
     go_ret
     exact⟨by rw[HE.out,if_neg (by simp[h4,h5]),if_pos h6];rfl,HB.out.trans (((HB1.out.mono HB.out.size).trans ((Below.refl _ _).alloc (Nat.le_trans HB.out.size HB1.out.size) _)).trans (HB4.out.mono (by have h1:=HB.out.size;have h2:=HB1.out.size;simp at h1 h2 ⊢;omega)))⟩
    ·cases h7:inQ ca 0 999999999999999
     ·go_enter Tryz.func36,Tryz.ntmps36
      go_wp2_with (first | (go_at_call 39;refine(aG _ _).mono ?_;rintro e w3 ⟨rfl,hw3⟩;obtain rfl:=hw3) | (go_at_call 25;refine(aL _ _ _ _).mono ?_;rintro e w3 ⟨rfl,hw3⟩;obtain rfl:=hw3) | (go_at_call 112;refine HSC.out.mono ?_;rintro e w1 ⟨rfl,hb1⟩;have HB1:=hid hb1;have hx1:=aB hb1 HX.out;have a0:=aA hx1 0;have a1:=aA hx1 1;have a2:=aA hx1 2;have a3:=aA hx1 3;have a4:=aA hx1 4;have a5:=aA hx1 5;have a6:=aA hx1 6;have a7:=aA hx1 7;have a8:=aA hx1 8;have a9:=aA hx1 9;have a10:=aA hx1 10;have a11:=aA hx1 11;have a12:=aA hx1 12;have a13:=aA hx1 13;have a14:=aA hx1 14;have a15:=aA hx1 15;have a16:=aA hx1 16;have a17:=aA hx1 17;(try dsimp only at a0 a1 a2 a3 a4 a5 a6 a7 a8 a9 a10 a11 a12 a13 a14 a15 a16 a17);have hy1:=aC (.cells #[.int .i64 rs.e,.slice rs.a rs.n rs.c,.string sv,.int .i64 ca,.bool un,.int .i64 bd.k,.int .i64 bd.i,.int .i64 bd.s,.string bd.t,.slice bd.la bd.ll bd.lc,.slice bd.fa bd.fl bd.fc] 73) hx1;have y0:=aA hy1 0;have y1:=aA hy1 1;have y3:=aA hy1 3;have y4:=aA hy1 4;have y5:=aA hy1 5;have y17:=aA hy1 17;(try dsimp only at y0 y1 y3 y4 y5 y17);clear hx1 hy1 hb1) | (go_at_call 45;refine(HSE.out _ HB1.out).mono ?_;rintro e w4 ⟨rfl,hb4⟩;have HB4:=hid hb4;have hx4:=aB hb4 (aC (.cells #[.int .i64 rs.e,.slice rs.a rs.n rs.c,.string sv,.int .i64 ca,.bool un,.int .i64 bd.k,.int .i64 bd.i,.int .i64 bd.s,.string bd.t,.slice bd.la bd.ll bd.lc,.slice bd.fa bd.fl bd.fc] 73) (aB HB1.out HX.out));have c17:=aA hx4 17;(try dsimp only at c17);have hy4:=aB hb4 (heap_alloc_new _ (.cells #[.int .i64 rs.e,.slice rs.a rs.n rs.c,.string sv,.int .i64 ca,.bool un,.int .i64 bd.k,.int .i64 bd.i,.int .i64 bd.s,.string bd.t,.slice bd.la bd.ll bd.lc,.slice bd.fa bd.fl bd.fc] 73));have r3:=aA hy4 3;have r5:=aA hy4 5;have r6:=aA hy4 6;have r7:=aA hy4 7;have r8:=aA hy4 8;have r9:=aA hy4 9;have r10:=aA hy4 10;(try dsimp only at r3 r5 r6 r7 r8 r9 r10);clear hx4 hy4 hb4))
      go_ret
      exact⟨by rw[HE.out,if_neg (by simp[h4,h5]),if_neg (by simp[h6]),if_pos h7];rfl,HB.out.trans (((HB1.out.mono HB.out.size).trans ((Below.refl _ _).alloc (Nat.le_trans HB.out.size HB1.out.size) _)).trans (HB4.out.mono (by have h1:=HB.out.size;have h2:=HB1.out.size;simp at h1 h2 ⊢;omega)))⟩
     ·go_enter Tryz.func36,Tryz.ntmps36
      go_wp2_with (first | (go_at_call 39;refine(aG _ _).mono ?_;rintro e w3 ⟨rfl,hw3⟩;obtain rfl:=hw3) | (go_at_call 25;refine(aL _ _ _ _).mono ?_;rintro e w3 ⟨rfl,hw3⟩;obtain rfl:=hw3) | (go_at_call 112;refine HSC.out.mono ?_;rintro e w1 ⟨rfl,hb1⟩;have HB1:=hid hb1;have hx1:=aB hb1 HX.out;have a0:=aA hx1 0;have a1:=aA hx1 1;have a2:=aA hx1 2;have a3:=aA hx1 3;have a4:=aA hx1 4;have a5:=aA hx1 5;have a6:=aA hx1 6;have a7:=aA hx1 7;have a8:=aA hx1 8;have a9:=aA hx1 9;have a10:=aA hx1 10;have a11:=aA hx1 11;have a12:=aA hx1 12;have a13:=aA hx1 13;have a14:=aA hx1 14;have a15:=aA hx1 15;have a16:=aA hx1 16;have a17:=aA hx1 17;(try dsimp only at a0 a1 a2 a3 a4 a5 a6 a7 a8 a9 a10 a11 a12 a13 a14 a15 a16 a17);have hy1:=aC (.cells #[.int .i64 rs.e,.slice rs.a rs.n rs.c,.string sv,.int .i64 ca,.bool un,.int .i64 bd.k,.int .i64 bd.i,.int .i64 bd.s,.string bd.t,.slice bd.la bd.ll bd.lc,.slice bd.fa bd.fl bd.fc] 73) hx1;have y0:=aA hy1 0;have y1:=aA hy1 1;have y3:=aA hy1 3;have y4:=aA hy1 4;have y5:=aA hy1 5;have y17:=aA hy1 17;(try dsimp only at y0 y1 y3 y4 y5 y17);clear hx1 hy1 hb1) | (go_at_call 45;refine(HSE.out _ HB1.out).mono ?_;rintro e w4 ⟨rfl,hb4⟩;have HB4:=hid hb4;have hx4:=aB hb4 (aC (.cells #[.int .i64 rs.e,.slice rs.a rs.n rs.c,.string sv,.int .i64 ca,.bool un,.int .i64 bd.k,.int .i64 bd.i,.int .i64 bd.s,.string bd.t,.slice bd.la bd.ll bd.lc,.slice bd.fa bd.fl bd.fc] 73) (aB HB1.out HX.out));have c17:=aA hx4 17;(try dsimp only at c17);have hy4:=aB hb4 (heap_alloc_new _ (.cells #[.int .i64 rs.e,.slice rs.a rs.n rs.c,.string sv,.int .i64 ca,.bool un,.int .i64 bd.k,.int .i64 bd.i,.int .i64 bd.s,.string bd.t,.slice bd.la bd.ll bd.lc,.slice bd.fa bd.fl bd.fc] 73));have r3:=aA hy4 3;have r5:=aA hy4 5;have r6:=aA hy4 6;have r7:=aA hy4 7;have r8:=aA hy4 8;have r9:=aA hy4 9;have r10:=aA hy4 10;(try dsimp only at r3 r5 r6 r7 r8 r9 r10);clear hx4 hy4 hb4) | (go_at_call 104;refine(HVC.out _ (HB.out.trans (((HB1.out.mono HB.out.size).trans ((Below.refl _ _).alloc (Nat.le_trans HB.out.size HB1.out.size) _)).trans (HB4.out.mono (by have h1:=HB.out.size;have h2:=HB1.out.size;simp at h1 h2 ⊢;omega))))).mono ?_;rintro e w6 ⟨rfl,hb6⟩;have HB6:=hid hb6;clear hb6))
      go_ret
      exact⟨by rw[HE.out,if_neg (by simp[h4,h5]),if_neg (by simp[h6]),if_neg (by simp[h7])];rfl,(HB.out.trans (((HB1.out.mono HB.out.size).trans ((Below.refl _ _).alloc (Nat.le_trans HB.out.size HB1.out.size) _)).trans (HB4.out.mono (by have h1:=HB.out.size;have h2:=HB1.out.size;simp at h1 h2 ⊢;omega)))).trans (HB6.out.mono (HB.out.trans (((HB1.out.mono HB.out.size).trans ((Below.refl _ _).alloc (Nat.le_trans HB.out.size HB1.out.size) _)).trans (HB4.out.mono (by have h1:=HB.out.size;have h2:=HB1.out.size;simp at h1 h2 ⊢;omega)))).size)⟩
theorem uU (k:Int) (x:EfC) (d:Ef) (w:World) (hd:IsEf (· < w.heap.size) w x d) (hT:Tabs w):Calls Tryz.prog 36 #[.int .i64 k,.agg #[.int .i64 x.k,.string x.nm,.int .i64 x.nu,.string x.tx,.int .i64 x.st.e,.slice x.st.a x.st.n x.st.c,.int .i64 x.rs.e,.slice x.rs.a x.rs.n x.rs.c,.string x.sv,.int .i64 x.ca,.bool x.un,.int .i64 x.bd.k,.int .i64 x.bd.i,.int .i64 x.bd.s,.string x.bd.t,.slice x.bd.la x.bd.ll x.bd.lc,.slice x.bd.fa x.bd.fl x.bd.fc,.string x.nd]] w fun e w'=>e=.returned (.int .i64 (efE d))∧Below w.heap.size w w':=by
 by_cases hn:(x.k≠1∧x.k≠2)∨aI x.nm=false∨inQ x.nu 1 999999999999999=false∨aS d.st≠0
 ·exact sM k x d w hd hT hn
 ·have h1:aI x.nm=true:=by cases h:aI x.nm;exact absurd (.inr (.inl h)) hn;rfl
  have h2:inQ x.nu 1 999999999999999=true:=by cases h:inQ x.nu 1 999999999999999;exact absurd (.inr (.inr (.inl h))) hn;rfl
  have h3:aS d.st=0:=Decidable.byContradiction fun h=>hn (.inr (.inr (.inr h)))
  by_cases hk:x.k=1
  ·exact sL k x d w hd hT hk h1 h2 h3
  ·exact sK k x d w hd hT (Decidable.byContradiction fun h=>hn (.inl ⟨hk,h⟩)) h1 h2 h3
end
section
open Go Go.RowKit Go.Shelf
theorem rI (c:SnC) (d:Snp) (w:World) (hd:IsSn (· < w.heap.size) w c d) (hT:Tabs w):Calls Tryz.prog 8 #[c.w] w fun e w'=>e=.returned (.int .i64 (snE d))∧Below w.heap.size w w':=by
 obtain⟨cv,ce,ct,na,nl,nc,aa,al,ac,sa,sl,sc,qa,ql,qc,la,ll,lc,pa,pl,pc⟩:=c
 dsimp only[SnC.w]
 have HIN:=hid (fun (n a b:Int) (w:World)=>aL n a b w)
 obtain⟨r1,hr1⟩:∃r,r=aP (fun _ s=>bB s) 0 d.ns:=⟨_,rfl⟩
 obtain⟨r2,hr2⟩:∃r,r=aP (eG d.ar) 0 d.ar:=⟨_,rfl⟩
 obtain⟨r3,hr3⟩:∃r,r=aP (eG d.se) 0 d.se:=⟨_,rfl⟩
 obtain⟨r4,hr4⟩:∃r,r=aP (fun _ q=>fP q) 0 d.qs:=⟨_,rfl⟩
 obtain⟨r5,hr5⟩:∃r,r=aP (fun _ s=>kL s) 0 d.ls:=⟨_,rfl⟩
 obtain⟨r6,hr6⟩:∃r,r=aP (fun _ s=>efE s) 0 d.ps:=⟨_,rfl⟩
 obtain⟨WB,hWB⟩:∃WB,WB=((w.alloc (.cells #[.int .i64 cv,.int .i64 ce,.int .i64 ct,.slice na nl nc,.slice aa al ac,.slice sa sl sc,.slice qa ql qc,.slice la ll lc,.slice pa pl pc] 30)).alloc (.cells #[.int .i64 cv,.int .i64 ce,.int .i64 ct,.slice na nl nc,.slice aa al ac,.slice sa sl sc,.slice qa ql qc,.slice la ll lc] 27)):=⟨_,rfl⟩
 have hbW:Below w.heap.size w WB:=by rw[hWB];exact((bR w).alloc lr _).alloc (by simp) _
 have g1:WB.heap[w.heap.size]?=some (.cells #[.int .i64 cv,.int .i64 ce,.int .i64 ct,.slice na nl nc,.slice aa al ac,.slice sa sl sc,.slice qa ql qc,.slice la ll lc,.slice pa pl pc] 30):=by rw[hWB];exact aC _ (heap_alloc_new w _)
 have g2:WB.heap[w.heap.size+1]?=some (.cells #[.int .i64 cv,.int .i64 ce,.int .i64 ct,.slice na nl nc,.slice aa al ac,.slice sa sl sc,.slice qa ql qc,.slice la ll lc] 27):=by rw[hWB];exact aM _ _ _ (by simp)
 have HR1:=hid (fun (w':World) (h:Below WB.heap.size WB w')=>(show Calls Tryz.prog 29 #[.slice na nl nc,.func (.func 26) #[] #[]] w' fun e w2=>e=.returned (.int .i64 r1)∧Below w'.heap.size w' w2 from by
  rw[hr1]
  have hq:∀b,b<w.heap.size→b<w'.heap.size∧w'.heap[b]?=w.heap[b]?:=fun b hb=>⟨by have h1:=h.size;have h2:=hbW.size;omega,(h.block b (by have h2:=hbW.size;omega)).trans (hbW.block b hb)⟩
  exact rY 26 (enters_of Tryz.func26 (by kernel_rfl) rfl) (fun _ s=>bB s) _ _ _ _ w' (hd.ns.same hq) (fun k hk x w2 hb hx=>aB7 k x _ w2 hx (((hT.below hbW).below h).below hb))))
 have HR2:=hid (fun (w':World) (h:Below WB.heap.size WB w')=>(show Calls Tryz.prog 30 #[.slice aa al ac] w' fun e w2=>e=.returned (.int .i64 r2)∧Below w'.heap.size w' w2 from by
  rw[hr2]
  exact lK _ _ _ _ w' (hd.ar.same fun b hb=>⟨by have h1:=h.size;have h2:=hbW.size;omega,(h.block b (by have h2:=hbW.size;omega)).trans (hbW.block b hb)⟩)))
 have HR3:=hid (fun (w':World) (h:Below WB.heap.size WB w')=>(show Calls Tryz.prog 30 #[.slice sa sl sc] w' fun e w2=>e=.returned (.int .i64 r3)∧Below w'.heap.size w' w2 from by
  rw[hr3]
  exact lK _ _ _ _ w' (hd.se.same fun b hb=>⟨by have h1:=h.size;have h2:=hbW.size;omega,(h.block b (by have h2:=hbW.size;omega)).trans (hbW.block b hb)⟩)))
 have HR4:=hid (fun (w':World) (h:Below WB.heap.size WB w')=>(show Calls Tryz.prog 31 #[.slice qa ql qc,.func (.func 32) #[] #[]] w' fun e w2=>e=.returned (.int .i64 r4)∧Below w'.heap.size w' w2 from by
  rw[hr4]
  have hq:∀b,b<w.heap.size→b<w'.heap.size∧w'.heap[b]?=w.heap[b]?:=fun b hb=>⟨by have h1:=h.size;have h2:=hbW.size;omega,(h.block b (by have h2:=hbW.size;omega)).trans (hbW.block b hb)⟩
  exact rZ 32 (enters_of Tryz.func32 (by kernel_rfl) rfl) (fun _ q=>fP q) _ _ _ _ w' (hd.qs.same hq) (fun k hk x w2 hb hx=>(by have he:=hx.e;rw[←he];exact tV k x w2))))
 have HR5:=hid (fun (w':World) (h:Below WB.heap.size WB w')=>(show Calls Tryz.prog 33 #[.slice la ll lc,.func (.func 34) #[] #[]] w' fun e w2=>e=.returned (.int .i64 r5)∧Below w'.heap.size w' w2 from by
  rw[hr5]
  have hq:∀b,b<w.heap.size→b<w'.heap.size∧w'.heap[b]?=w.heap[b]?:=fun b hb=>⟨by have h1:=h.size;have h2:=hbW.size;omega,(h.block b (by have h2:=hbW.size;omega)).trans (hbW.block b hb)⟩
  exact sA 34 (enters_of Tryz.func34 (by kernel_rfl) rfl) (fun _ s=>kL s) _ _ _ _ w' (hd.ls.same hq) (fun k hk x w2 hb hx=>oU k x _ w2 hx (((hT.below hbW).below h).below hb))))
 have HR6:=hid (fun (w':World) (h:Below WB.heap.size WB w')=>(show Calls Tryz.prog 35 #[.slice pa pl pc,.func (.func 36) #[] #[]] w' fun e w2=>e=.returned (.int .i64 r6)∧Below w'.heap.size w' w2 from by
  rw[hr6]
  have hq:∀b,b<w.heap.size→b<w'.heap.size∧w'.heap[b]?=w.heap[b]?:=fun b hb=>⟨by have h1:=h.size;have h2:=hbW.size;omega,(h.block b (by have h2:=hbW.size;omega)).trans (hbW.block b hb)⟩
  exact sB 36 (enters_of Tryz.func36 (by kernel_rfl) rfl) (fun _ s=>efE s) _ _ _ _ w' (hd.ps.same hq) (fun k hk x w2 hb hx=>uU k x _ w2 hx (((hT.below hbW).below h).below hb))))
 have HC:=hid (fun (w':World) (h:Below WB.heap.size WB w')=>(show w'.cell? ⟨w.heap.size,8,none⟩=some (.slice pa pl pc)∧w'.cell? ⟨w.heap.size+1,3,none⟩=some (.slice na nl nc)∧w'.cell? ⟨w.heap.size+1,4,none⟩=some (.slice aa al ac)∧w'.cell? ⟨w.heap.size+1,5,none⟩=some (.slice sa sl sc)∧w'.cell? ⟨w.heap.size+1,6,none⟩=some (.slice qa ql qc)∧w'.cell? ⟨w.heap.size+1,7,none⟩=some (.slice la ll lc) from⟨aA (aB h g1) 8,aA (aB h g2) 3,aA (aB h g2) 4,aA (aB h g2) 5,aA (aB h g2) 6,aA (aB h g2) 7⟩))
 have HE:=hid (show snE d=if inQ cv 0 999=false∨inQ ce 0 1048576=false∨inQ ct 0 17592186044416=false then 2 else if 128<nl then 9 else orL [r1,r2,r3,r4,r5,r6] by
  unfold snE;rw[←hr1,←hr2,←hr3,←hr4,←hr5,←hr6,←hd.v,←hd.e,←hd.t,←hd.ns.len])
 have HWB:=hid hbW;have HEQ:=hid hWB;have G2:=hid g2
 have m0:=aA g2 0
 have m1:=aA g2 1
 have m2:=aA g2 2
 have m3:=aA g2 3
 (try dsimp only at m0 m1 m2 m3)
 clear hd hT hbW g1 g2 hWB hr1 hr2 hr3 hr4 hr5 hr6
 cases b1:inQ cv 0 999
 ·skip
  go_enter Tryz.func8,Tryz.ntmps8
  go_upto_region 2 with (fail)
  rw[←HEQ.out]
  go_wp2_with (go_at_call 25;refine(HIN.out _ _ _ _).mono ?_;rintro q w3 ⟨rfl,hw3⟩;rw[hw3];clear hw3)
  go_ret
  exact⟨by rw[HE.out,if_pos (by simp[b1])];rfl,HWB.out⟩
 ·cases b2:inQ ce 0 1048576
  ·skip
   go_enter Tryz.func8,Tryz.ntmps8
   go_upto_region 2 with (fail)
   rw[←HEQ.out]
   go_wp2_with (go_at_call 25;refine(HIN.out _ _ _ _).mono ?_;rintro q w3 ⟨rfl,hw3⟩;rw[hw3];clear hw3)
   go_ret
   exact⟨by rw[HE.out,if_pos (by simp[b2])];rfl,HWB.out⟩
  ·cases b3:inQ ct 0 17592186044416
   ·skip
    go_enter Tryz.func8,Tryz.ntmps8
    go_upto_region 2 with (fail)
    rw[←HEQ.out]
    go_wp2_with (go_at_call 25;refine(HIN.out _ _ _ _).mono ?_;rintro q w3 ⟨rfl,hw3⟩;rw[hw3];clear hw3)
    go_ret
    exact⟨by rw[HE.out,if_pos (by simp[b3])];rfl,HWB.out⟩
   ·by_cases b4:(128:Int)<(nl:Int)
    ·have b4':128<nl:=by omega
     go_enter Tryz.func8,Tryz.ntmps8
     go_upto_region 2 with (fail)
     rw[←HEQ.out]
     go_wp2_with (go_at_call 25;refine(HIN.out _ _ _ _).mono ?_;rintro q w3 ⟨rfl,hw3⟩;rw[hw3];clear hw3)
     go_ret
     exact⟨by rw[HE.out,if_neg (by simp[b1,b2,b3]),if_pos b4'];rfl,HWB.out⟩
    ·have b4':¬ 128<nl:=by omega
     go_enter Tryz.func8,Tryz.ntmps8
     go_upto_region 2 with (fail)
     rw[←HEQ.out]
     go_upto_region 7 with (go_at_call 25;refine(HIN.out _ _ _ _).mono ?_;rintro q w3 ⟨rfl,hw3⟩;rw[hw3];clear hw3)
     clear m0 m1 m2 m3
     refine wp_region_held_drew (S:=(fun w'=>Below WB.heap.size WB w')) (by kernel_rfl) ((Below.refl _ _).drew) (fun hS=>?_)
     refine tkQ 0 (v:=?_) ?_ hS ?_;rotate_left;· intro w' hw';have hcells:=HC.out w' hw';go_simp;(try rfl)
     simp only[Act.put,pq]
     refine tkQ 1 (v:=?_) ?_ hS ?_;rotate_left;· intro w' hw';have hcells:=HC.out w' hw';go_simp;(try rfl)
     simp only[Act.put,pq]
     refine tkQ 2 (v:=?_) ?_ hS ?_;rotate_left;· intro w' hw';have hcells:=HC.out w' hw';go_simp;(try rfl)
     simp only[Act.put,pq]
     refine tkQ 4 (v:=?_) ?_ hS ?_;rotate_left;· intro w' hw';have hcells:=HC.out w' hw';go_simp;(try rfl)
     simp only[Act.put,pq]
     refine tkQ 5 (v:=?_) ?_ hS ?_;rotate_left;· intro w' hw';have hcells:=HC.out w' hw';go_simp;(try rfl)
     simp only[Act.put,pq]
     refine tkQ 7 (v:=?_) ?_ hS ?_;rotate_left;· intro w' hw';have hcells:=HC.out w' hw';go_simp;(try rfl)
     simp only[Act.put,pq]
     refine tkQ 8 (v:=?_) ?_ hS ?_;rotate_left;· intro w' hw';have hcells:=HC.out w' hw';go_simp;(try rfl)
     simp only[Act.put,pq]
     refine tkQ 10 (v:=?_) ?_ hS ?_;rotate_left;· intro w' hw';have hcells:=HC.out w' hw';go_simp;(try rfl)
     simp only[Act.put,pq]
     refine tkQ 11 (v:=?_) ?_ hS ?_;rotate_left;· intro w' hw';have hcells:=HC.out w' hw';go_simp;(try rfl)
     simp only[Act.put,pq]
     refine tkQ 13 (v:=?_) ?_ hS ?_;rotate_left;· intro w' hw';have hcells:=HC.out w' hw';go_simp;(try rfl)
     simp only[Act.put,pq]
     refine tkQ 14 (v:=?_) ?_ hS ?_;rotate_left;· intro w' hw';have hcells:=HC.out w' hw';go_simp;(try rfl)
     simp only[Act.put,pq]
     refine tkQ 16 (v:=?_) ?_ hS ?_;rotate_left;· intro w' hw';have hcells:=HC.out w' hw';go_simp;(try rfl)
     simp only[Act.put,pq]
     refine tkQ 17 (v:=?_) ?_ hS ?_;rotate_left;· intro w' hw';have hcells:=HC.out w' hw';go_simp;(try rfl)
     simp only[Act.put,pq]
     refine ry [3] ?_
     refine arQ fun K hK=>?_
     go_simp;go_at_call 29;refine(HR1.out _ hS).mono ?_
     rintro e w1 ⟨rfl,hbw1⟩
     refine hK.out _ _ (hS.trans (hbw1.mono hS.size)) (fun hS=>?_)
     clear hK K
     (try simp only[Act.put,pq])
     refine ry [6] ?_
     refine arQ fun K hK=>?_
     go_simp;go_at_call 30;refine(HR2.out _ hS).mono ?_
     rintro e w2 ⟨rfl,hbw2⟩
     refine hK.out _ _ (hS.trans (hbw2.mono hS.size)) (fun hS=>?_)
     clear hK K
     (try simp only[Act.put,pq])
     refine ry [9] ?_
     refine arQ fun K hK=>?_
     go_simp;go_at_call 30;refine(HR3.out _ hS).mono ?_
     rintro e w3 ⟨rfl,hbw3⟩
     refine hK.out _ _ (hS.trans (hbw3.mono hS.size)) (fun hS=>?_)
     clear hK K
     (try simp only[Act.put,pq])
     refine ry [12] ?_
     refine arQ fun K hK=>?_
     go_simp;go_at_call 31;refine(HR4.out _ hS).mono ?_
     rintro e w4 ⟨rfl,hbw4⟩
     refine hK.out _ _ (hS.trans (hbw4.mono hS.size)) (fun hS=>?_)
     clear hK K
     (try simp only[Act.put,pq])
     refine ry [15] ?_
     refine arQ fun K hK=>?_
     go_simp;go_at_call 33;refine(HR5.out _ hS).mono ?_
     rintro e w5 ⟨rfl,hbw5⟩
     refine hK.out _ _ (hS.trans (hbw5.mono hS.size)) (fun hS=>?_)
     clear hK K
     (try simp only[Act.put,pq])
     refine ry [18] ?_
     refine arQ fun K hK=>?_
     go_simp;go_at_call 35;refine(HR6.out _ hS).mono ?_
     rintro e w6 ⟨rfl,hbw6⟩
     refine hK.out _ _ (hS.trans (hbw6.mono hS.size)) (fun hS=>?_)
     clear hK K
     (try simp only[Act.put,pq])
     refine ry [19] ?_
     refine arQ fun K hK=>?_
     go_simp
     refine hK.out _ _ (hS.trans (((Below.refl _ _).alloc lr _).mono hS.size)) (fun hS=>?_)
     clear hK K
     (try simp only[Act.put,pq])
     refine ry [20] ?_
     refine arQ fun K hK=>?_
     go_simp;go_at_call 28;refine(yU [r1,r2,r3,r4,r5,r6] w6 33 (by simp)).mono ?_
     rintro e w7 ⟨rfl,hw7⟩;obtain rfl:=hw7.symm
     refine hK.out _ _ (hS) (fun hS=>?_)
     clear hK K
     (try simp only[Act.put,pq])
     refine tkQ 21 (v:=?_) ?_ hS ?_;rotate_left;· intro w' hw';have hcells:=HC.out w' hw';go_simp;(try rfl)
     simp only[Act.put,pq]
     refine wpAnyH_done (by kernel_rfl) ?_ _
     (try dsimp only)
     have hS2:=hid hS
     clear hS
     go_wp2
     go_ret
     exact⟨by rw[HE.out,b1,b2,b3,if_neg (by simp),if_neg b4'];rfl,HWB.out.trans ((hS2.out).mono HWB.out.size)⟩
end
end Go.Proofs.YteladbdfiannjaaGreatDoor
