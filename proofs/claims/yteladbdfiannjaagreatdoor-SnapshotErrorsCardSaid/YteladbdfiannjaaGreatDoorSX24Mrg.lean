/- A part. -/
import Derived.Test.YteladbdfiannjaaGreatDoorSX21Mrg
namespace Go.Proofs.YteladbdfiannjaaGreatDoor
set_option linter.unusedVariables false
set_option maxRecDepth 100000
set_option maxHeartbeats 64000000
set_option linter.unusedSimpArgs false
section
open Go Go.RowKit Go.Shelf
abbrev rqO (x:EfC):Obj:=.cells #[.int .i64 x.rs.e,.slice x.rs.a x.rs.n x.rs.c,.string x.sv,.int .i64 x.ca,.bool x.un,.int .i64 x.bd.k,.int .i64 x.bd.i,.int .i64 x.bd.s,.string x.bd.t,.slice x.bd.la x.bd.ll x.bd.lc,.slice x.bd.fa x.bd.fl x.bd.fc] 73
theorem xG (x y:EfC) (dx dy:Ef) (w:World) (hd:IsEf (· < w.heap.size) w x dx) (hd2:IsEf (· < w.heap.size) w y dy) :
 Calls Tryz.prog 46 #[.agg #[.int .i64 x.rs.e,.slice x.rs.a x.rs.n x.rs.c,.string x.sv,.int .i64 x.ca,.bool x.un,.int .i64 x.bd.k,.int .i64 x.bd.i,.int .i64 x.bd.s,.string x.bd.t,.slice x.bd.la x.bd.ll x.bd.lc,.slice x.bd.fa x.bd.fl x.bd.fc],.agg #[.int .i64 y.rs.e,.slice y.rs.a y.rs.n y.rs.c,.string y.sv,.int .i64 y.ca,.bool y.un,.int .i64 y.bd.k,.int .i64 y.bd.i,.int .i64 y.bd.s,.string y.bd.t,.slice y.bd.la y.bd.ll y.bd.lc,.slice y.bd.fa y.bd.fl y.bd.fc]] w fun e w'=>e=.returned (.bool (nB dx dy))∧Below w.heap.size w w':=by
 obtain⟨u,hu⟩:∃u,u=hU dx.rs dy.rs:=⟨_,rfl⟩
 obtain⟨v,hv⟩:∃v,v=(dJ dx.bd dy.bd==0):=⟨_,rfl⟩
 have HE:=hid (show nB dx dy=(u&&((x.sv.toList==y.sv.toList)&&(decide (x.ca=y.ca)&&((x.un==y.un)&&v)))) by rw[nB,hu,hv,hd.sv,hd2.sv,hd.ca,hd2.ca,hd.un,hd2.un])
 have hba:Below w.heap.size w ((w.alloc (rqO x)).alloc (rqO y)):=((bR w).alloc lr _).alloc (by simp) _
 have hx:=aC (rqO y) (heap_alloc_new w (rqO x))
 have hy:((w.alloc (rqO x)).alloc (rqO y)).heap[w.heap.size+1]?=some (rqO y):=aM _ _ _ (by simp)
 have hz:((w.alloc (rqO x)).alloc (rqO y)).heap.size=w.heap.size+2:=by simp
 obtain⟨w0,hw0⟩:∃w0,w0=(w.alloc (rqO x)).alloc (rqO y):=⟨_,rfl⟩
 rw[←hw0] at hba hx hy hz
 have hk:∀w1,Below w0.heap.size w0 w1→∀b,b<w.heap.size→b<w1.heap.size∧w1.heap[b]?=w.heap[b]?:=fun w1 h b hb=>⟨by have:=h.size;omega,(h.block b (by omega)).trans (hba.block b hb)⟩
 have HST:Hid (Calls Tryz.prog 45 #[x.rs.v,y.rs.v] w0 fun e w'=>e=.returned (.bool u)∧Below w0.heap.size w0 w'):=hid (by rw[hu];exact fN _ _ _ _ w0 (hd.rs.same (hk w0 (Below.refl _ _))) (hd2.rs.same (hk w0 (Below.refl _ _))))
 have HVL:Hid (∀w1,Below w0.heap.size w0 w1→Calls Tryz.prog 115 #[x.bd.v,y.bd.v] w1 fun e w'=>e=.returned (.bool v)∧Below w1.heap.size w1 w'):=hid (fun w1 h=>by rw[hv];exact oP _ _ _ _ w1 (hd.bd.same (hk w1 h)) (hd2.bd.same (hk w1 h)))
 have HX:=hid hx;have HY:=hid hy;have HB:=hid hba;have HW:=hid hw0
 have a0:=aA hx 0;have a1:=aA hx 1;(try dsimp only at a0 a1)
 have b0:=aA hy 0;have b1:=aA hy 1;(try dsimp only at b0 b1)
 clear hk hz hba hx hy hu hv hd hd2 hw0
 dsimp only[SC.v,VC.v] at HST HVL
 go_enter Tryz.func46,Tryz.ntmps46
 go_upto_region 1 with (fail)
 rw[←HW.out]
 cases u
 ·go_wp2_with (go_at_call 45;refine HST.out.mono ?_;rintro e w1 ⟨rfl,hb1⟩;have HB1:=hid hb1;have hx1:=aB hb1 HX.out;have hy1:=aB hb1 HY.out;clear a0 b0 a1 b1;have a0:=aA hx1 0;have a1:=aA hx1 1;have a2:=aA hx1 2;have a3:=aA hx1 3;have a4:=aA hx1 4;have a5:=aA hx1 5;have a6:=aA hx1 6;have a7:=aA hx1 7;have a8:=aA hx1 8;have a9:=aA hx1 9;have a10:=aA hx1 10;(try dsimp only at a0 a1 a2 a3 a4 a5 a6 a7 a8 a9 a10);have b0:=aA hy1 0;have b1:=aA hy1 1;have b2:=aA hy1 2;have b3:=aA hy1 3;have b4:=aA hy1 4;have b5:=aA hy1 5;have b6:=aA hy1 6;have b7:=aA hy1 7;have b8:=aA hy1 8;have b9:=aA hy1 9;have b10:=aA hy1 10;(try dsimp only at b0 b1 b2 b3 b4 b5 b6 b7 b8 b9 b10);clear hx1 hy1 hb1)
  go_ret
  exact⟨by rw[HE.out];simp,HB.out.trans (HB1.out.mono HB.out.size)⟩
 ·cases q1:(x.sv.toList==y.sv.toList)
  ·go_wp2_with (go_at_call 45;refine HST.out.mono ?_;rintro e w1 ⟨rfl,hb1⟩;have HB1:=hid hb1;have hx1:=aB hb1 HX.out;have hy1:=aB hb1 HY.out;clear a0 b0 a1 b1;have a0:=aA hx1 0;have a1:=aA hx1 1;have a2:=aA hx1 2;have a3:=aA hx1 3;have a4:=aA hx1 4;have a5:=aA hx1 5;have a6:=aA hx1 6;have a7:=aA hx1 7;have a8:=aA hx1 8;have a9:=aA hx1 9;have a10:=aA hx1 10;(try dsimp only at a0 a1 a2 a3 a4 a5 a6 a7 a8 a9 a10);have b0:=aA hy1 0;have b1:=aA hy1 1;have b2:=aA hy1 2;have b3:=aA hy1 3;have b4:=aA hy1 4;have b5:=aA hy1 5;have b6:=aA hy1 6;have b7:=aA hy1 7;have b8:=aA hy1 8;have b9:=aA hy1 9;have b10:=aA hy1 10;(try dsimp only at b0 b1 b2 b3 b4 b5 b6 b7 b8 b9 b10);clear hx1 hy1 hb1)
   go_ret
   exact⟨by rw[HE.out];simp[q1],HB.out.trans (HB1.out.mono HB.out.size)⟩
  ·by_cases q2:x.ca=y.ca
   ·cases q3:(x.un==y.un)
    ·go_wp2_with (go_at_call 45;refine HST.out.mono ?_;rintro e w1 ⟨rfl,hb1⟩;have HB1:=hid hb1;have hx1:=aB hb1 HX.out;have hy1:=aB hb1 HY.out;clear a0 b0 a1 b1;have a0:=aA hx1 0;have a1:=aA hx1 1;have a2:=aA hx1 2;have a3:=aA hx1 3;have a4:=aA hx1 4;have a5:=aA hx1 5;have a6:=aA hx1 6;have a7:=aA hx1 7;have a8:=aA hx1 8;have a9:=aA hx1 9;have a10:=aA hx1 10;(try dsimp only at a0 a1 a2 a3 a4 a5 a6 a7 a8 a9 a10);have b0:=aA hy1 0;have b1:=aA hy1 1;have b2:=aA hy1 2;have b3:=aA hy1 3;have b4:=aA hy1 4;have b5:=aA hy1 5;have b6:=aA hy1 6;have b7:=aA hy1 7;have b8:=aA hy1 8;have b9:=aA hy1 9;have b10:=aA hy1 10;(try dsimp only at b0 b1 b2 b3 b4 b5 b6 b7 b8 b9 b10);clear hx1 hy1 hb1)
     go_ret
     exact⟨by rw[HE.out];simp[q1,q2,q3],HB.out.trans (HB1.out.mono HB.out.size)⟩
    ·cases v
     ·go_wp2_with (first | (go_at_call 45;refine HST.out.mono ?_;rintro e w1 ⟨rfl,hb1⟩;have HB1:=hid hb1;have hx1:=aB hb1 HX.out;have hy1:=aB hb1 HY.out;clear a0 b0 a1 b1;have a0:=aA hx1 0;have a1:=aA hx1 1;have a2:=aA hx1 2;have a3:=aA hx1 3;have a4:=aA hx1 4;have a5:=aA hx1 5;have a6:=aA hx1 6;have a7:=aA hx1 7;have a8:=aA hx1 8;have a9:=aA hx1 9;have a10:=aA hx1 10;(try dsimp only at a0 a1 a2 a3 a4 a5 a6 a7 a8 a9 a10);have b0:=aA hy1 0;have b1:=aA hy1 1;have b2:=aA hy1 2;have b3:=aA hy1 3;have b4:=aA hy1 4;have b5:=aA hy1 5;have b6:=aA hy1 6;have b7:=aA hy1 7;have b8:=aA hy1 8;have b9:=aA hy1 9;have b10:=aA hy1 10;(try dsimp only at b0 b1 b2 b3 b4 b5 b6 b7 b8 b9 b10);clear hx1 hy1 hb1) | (go_at_call 115;refine(HVL.out _ HB1.out).mono ?_;rintro e w3 ⟨rfl,hb3⟩;have HB3:=hid hb3;clear hb3))
      go_ret
      exact⟨by rw[HE.out];simp[q1,q2,q3],HB.out.trans ((HB1.out.mono HB.out.size).trans (HB3.out.mono (Nat.le_trans HB.out.size HB1.out.size)))⟩
     ·go_wp2_with (first | (go_at_call 45;refine HST.out.mono ?_;rintro e w1 ⟨rfl,hb1⟩;have HB1:=hid hb1;have hx1:=aB hb1 HX.out;have hy1:=aB hb1 HY.out;clear a0 b0 a1 b1;have a0:=aA hx1 0;have a1:=aA hx1 1;have a2:=aA hx1 2;have a3:=aA hx1 3;have a4:=aA hx1 4;have a5:=aA hx1 5;have a6:=aA hx1 6;have a7:=aA hx1 7;have a8:=aA hx1 8;have a9:=aA hx1 9;have a10:=aA hx1 10;(try dsimp only at a0 a1 a2 a3 a4 a5 a6 a7 a8 a9 a10);have b0:=aA hy1 0;have b1:=aA hy1 1;have b2:=aA hy1 2;have b3:=aA hy1 3;have b4:=aA hy1 4;have b5:=aA hy1 5;have b6:=aA hy1 6;have b7:=aA hy1 7;have b8:=aA hy1 8;have b9:=aA hy1 9;have b10:=aA hy1 10;(try dsimp only at b0 b1 b2 b3 b4 b5 b6 b7 b8 b9 b10);clear hx1 hy1 hb1) | (go_at_call 115;refine(HVL.out _ HB1.out).mono ?_;rintro e w3 ⟨rfl,hb3⟩;have HB3:=hid hb3;clear hb3))
      go_ret
      exact⟨by rw[HE.out];simp[q1,q2,q3],HB.out.trans ((HB1.out.mono HB.out.size).trans (HB3.out.mono (Nat.le_trans HB.out.size HB1.out.size)))⟩
   ·go_wp2_with (go_at_call 45;refine HST.out.mono ?_;rintro e w1 ⟨rfl,hb1⟩;have HB1:=hid hb1;have hx1:=aB hb1 HX.out;have hy1:=aB hb1 HY.out;clear a0 b0 a1 b1;have a0:=aA hx1 0;have a1:=aA hx1 1;have a2:=aA hx1 2;have a3:=aA hx1 3;have a4:=aA hx1 4;have a5:=aA hx1 5;have a6:=aA hx1 6;have a7:=aA hx1 7;have a8:=aA hx1 8;have a9:=aA hx1 9;have a10:=aA hx1 10;(try dsimp only at a0 a1 a2 a3 a4 a5 a6 a7 a8 a9 a10);have b0:=aA hy1 0;have b1:=aA hy1 1;have b2:=aA hy1 2;have b3:=aA hy1 3;have b4:=aA hy1 4;have b5:=aA hy1 5;have b6:=aA hy1 6;have b7:=aA hy1 7;have b8:=aA hy1 8;have b9:=aA hy1 9;have b10:=aA hy1 10;(try dsimp only at b0 b1 b2 b3 b4 b5 b6 b7 b8 b9 b10);clear hx1 hy1 hb1)
    go_ret
    exact⟨by rw[HE.out];simp[q1,q2],HB.out.trans (HB1.out.mono HB.out.size)⟩
end
section
open Go Go.RowKit Go.Shelf
abbrev efO (x:EfC):Obj:=.cells #[.int .i64 x.k,.string x.nm,.int .i64 x.nu,.string x.tx,.int .i64 x.st.e,.slice x.st.a x.st.n x.st.c,.int .i64 x.rs.e,.slice x.rs.a x.rs.n x.rs.c,.string x.sv,.int .i64 x.ca,.bool x.un,.int .i64 x.bd.k,.int .i64 x.bd.i,.int .i64 x.bd.s,.string x.bd.t,.slice x.bd.la x.bd.ll x.bd.lc,.slice x.bd.fa x.bd.fl x.bd.fc,.string x.nd] 75
theorem qO (d:Ef) (h1:d.k≠1) (h2:d.k≠2):efE d=11:=by unfold efE;rw[if_pos ⟨h1,h2⟩]
theorem sM (k:Int) (x:EfC) (d:Ef) (w:World) (hd:IsEf (· < w.heap.size) w x d) (hT:Tabs w) (hn:(x.k≠1∧x.k≠2)∨aI x.nm=false∨inQ x.nu 1 999999999999999=false∨aS d.st≠0) :
 Calls Tryz.prog 36 #[.int .i64 k,.agg #[.int .i64 x.k,.string x.nm,.int .i64 x.nu,.string x.tx,.int .i64 x.st.e,.slice x.st.a x.st.n x.st.c,.int .i64 x.rs.e,.slice x.rs.a x.rs.n x.rs.c,.string x.sv,.int .i64 x.ca,.bool x.un,.int .i64 x.bd.k,.int .i64 x.bd.i,.int .i64 x.bd.s,.string x.bd.t,.slice x.bd.la x.bd.ll x.bd.lc,.slice x.bd.fa x.bd.fl x.bd.fc,.string x.nd]] w fun e w'=>e=.returned (.int .i64 (efE d))∧Below w.heap.size w w':=by
 obtain⟨se,hse⟩:∃se,se=aS d.st:=⟨_,rfl⟩
 have HE0:=hid (show x.k≠1→x.k≠2→efE d=11 from fun h1 h2=>qO d (hd.k▸h1) (hd.k▸h2))
 have hkk:∀{P:Prop},(x.k=1∨x.k=2)→(d.k≠1∧d.k≠2)→P:=fun h h'=>absurd h (by rw[hd.k];omega)
 have HE1:=hid (show(x.k=1∨x.k=2)→aI x.nm=false→efE d=12 from fun h h1=>by unfold efE;rw[if_neg (fun h'=>hkk h h'),if_pos (hd.nm▸h1)])
 have HE2:=hid (show(x.k=1∨x.k=2)→aI x.nm=true→inQ x.nu 1 999999999999999=false→efE d=2 from fun h h1 h2=>by unfold efE;rw[if_neg (fun h'=>hkk h h'),if_neg (by rw[←hd.nm,h1];decide),if_pos (hd.nu▸h2)])
 have HE3:=hid (show(x.k=1∨x.k=2)→aI x.nm=true→inQ x.nu 1 999999999999999=true→se≠0→efE d=se from fun h h1 h2 h3=>by unfold efE;rw[if_neg (fun h'=>hkk h h'),if_neg (by rw[←hd.nm,h1];decide),if_neg (by rw[←hd.nu,h2];decide),if_pos (hse▸h3),hse])
 have hba:Below w.heap.size w (w.alloc (efO x)):=(bR w).alloc lr _
 have HSC:Hid (Calls Tryz.prog 112 #[x.st.v] (w.alloc (efO x)) fun e w'=>e=.returned (.int .i64 se)∧Below (w.alloc (efO x)).heap.size (w.alloc (efO x)) w'):=hid (by rw[hse];exact bK (· < w.heap.size) x.st d.st w _ hd.st fun b hb=>⟨by simp;omega,hba.block b hb⟩)
 have HX:=hid (heap_alloc_new w (efO x))
 have HB:=hid hba
 rw[←hse] at hn
 clear hba hd hT hse hkk
 obtain⟨xk,nm,nu,tx,st,rs,sv,ca,un,bd,nd⟩:=x
 dsimp only[SC.v] at HSC HE0 HE1 HE2 HE3 hn ⊢
 by_cases q1:xk=1
 ·subst q1
  cases h1:aI nm
  go_enter Tryz.func36,Tryz.ntmps36
  go_wp2_with (first | (go_at_call 39;refine(aG _ _).mono ?_;rintro e w3 ⟨rfl,hw3⟩;obtain rfl:=hw3))
  go_ret
  exact⟨by rw[HE1.out (by simp) h1];rfl,HB.out⟩
  ·cases h2:inQ nu 1 999999999999999
   go_enter Tryz.func36,Tryz.ntmps36
   go_wp2_with (first | (go_at_call 39;refine(aG _ _).mono ?_;rintro e w3 ⟨rfl,hw3⟩;obtain rfl:=hw3) | (go_at_call 25;refine(aL _ _ _ _).mono ?_;rintro e w3 ⟨rfl,hw3⟩;obtain rfl:=hw3))
   go_ret
   exact⟨by rw[HE2.out (by simp) h1 h2];rfl,HB.out⟩
   ·have h3:se≠0:=by rcases hn with h | h | h | h;exact absurd rfl h.1;simp[h1] at h;simp[h2] at h;exact h
    go_enter Tryz.func36,Tryz.ntmps36
    go_wp2_with (first | (go_at_call 39;refine(aG _ _).mono ?_;rintro e w3 ⟨rfl,hw3⟩;obtain rfl:=hw3) | (go_at_call 25;refine(aL _ _ _ _).mono ?_;rintro e w3 ⟨rfl,hw3⟩;obtain rfl:=hw3) | (go_at_call 112;refine HSC.out.mono ?_;rintro e w1 ⟨rfl,hb1⟩;have HB1:=hid hb1;have hx1:=aB hb1 HX.out;have a0:=aA hx1 0;have a1:=aA hx1 1;have a2:=aA hx1 2;have a3:=aA hx1 3;have a4:=aA hx1 4;have a5:=aA hx1 5;have a6:=aA hx1 6;have a7:=aA hx1 7;have a8:=aA hx1 8;have a9:=aA hx1 9;have a10:=aA hx1 10;have a11:=aA hx1 11;have a12:=aA hx1 12;have a13:=aA hx1 13;have a14:=aA hx1 14;have a15:=aA hx1 15;have a16:=aA hx1 16;have a17:=aA hx1 17;(try dsimp only at a0 a1 a2 a3 a4 a5 a6 a7 a8 a9 a10 a11 a12 a13 a14 a15 a16 a17);clear hx1 hb1))
    go_ret
    exact⟨by rw[HE3.out (by simp) h1 h2 h3];rfl,HB.out.trans (HB1.out.mono HB.out.size)⟩
 ·by_cases q2:xk=2
  ·subst q2
   cases h1:aI nm
   go_enter Tryz.func36,Tryz.ntmps36
   go_wp2_with (first | (go_at_call 39;refine(aG _ _).mono ?_;rintro e w3 ⟨rfl,hw3⟩;obtain rfl:=hw3))
   go_ret
   exact⟨by rw[HE1.out (by simp) h1];rfl,HB.out⟩
   ·cases h2:inQ nu 1 999999999999999
    go_enter Tryz.func36,Tryz.ntmps36
    go_wp2_with (first | (go_at_call 39;refine(aG _ _).mono ?_;rintro e w3 ⟨rfl,hw3⟩;obtain rfl:=hw3) | (go_at_call 25;refine(aL _ _ _ _).mono ?_;rintro e w3 ⟨rfl,hw3⟩;obtain rfl:=hw3))
    go_ret
    exact⟨by rw[HE2.out (by simp) h1 h2];rfl,HB.out⟩
    ·have h3:se≠0:=by rcases hn with h | h | h | h;exact absurd rfl h.2;simp[h1] at h;simp[h2] at h;exact h
     go_enter Tryz.func36,Tryz.ntmps36
     go_wp2_with (first | (go_at_call 39;refine(aG _ _).mono ?_;rintro e w3 ⟨rfl,hw3⟩;obtain rfl:=hw3) | (go_at_call 25;refine(aL _ _ _ _).mono ?_;rintro e w3 ⟨rfl,hw3⟩;obtain rfl:=hw3) | (go_at_call 112;refine HSC.out.mono ?_;rintro e w1 ⟨rfl,hb1⟩;have HB1:=hid hb1;have hx1:=aB hb1 HX.out;have a0:=aA hx1 0;have a1:=aA hx1 1;have a2:=aA hx1 2;have a3:=aA hx1 3;have a4:=aA hx1 4;have a5:=aA hx1 5;have a6:=aA hx1 6;have a7:=aA hx1 7;have a8:=aA hx1 8;have a9:=aA hx1 9;have a10:=aA hx1 10;have a11:=aA hx1 11;have a12:=aA hx1 12;have a13:=aA hx1 13;have a14:=aA hx1 14;have a15:=aA hx1 15;have a16:=aA hx1 16;have a17:=aA hx1 17;(try dsimp only at a0 a1 a2 a3 a4 a5 a6 a7 a8 a9 a10 a11 a12 a13 a14 a15 a16 a17);clear hx1 hb1))
     go_ret
     exact⟨by rw[HE3.out (by simp) h1 h2 h3];rfl,HB.out.trans (HB1.out.mono HB.out.size)⟩
  ·have p1:(xk != 1)=true:=by simp[q1]
   have p2:(xk != 2)=true:=by simp[q2]
   go_enter Tryz.func36,Tryz.ntmps36
   go_wp2
   go_ret
   exact⟨by rw[HE0.out q1 q2];rfl,HB.out⟩
end
section
open Go Go.RowKit Go.Shelf
theorem kA (s:ByteArray) (hs:s.size≤140737488351232) (w:World) (hT:Tabs w):Calls Tryz.prog 110 #[.string s] w fun x w'=>x=.returned (.bool (Lib.validD s.data.toList))∧Below w.heap.size w w':=by
 have HV:=hid (Tryz.utf8_ValidString s w (by omega) hT.1)
 clear hT
 go_enter Tryz.func110,Tryz.ntmps110
 go_wp2_with (go_at_call 176;refine HV.out.mono ?_;rintro e w1 ⟨rfl,hb⟩)
 go_ret
 exact⟨rfl,hb⟩
abbrev letO (x:LetC):Obj:=.cells #[.int .i64 x.m.st.e,.slice x.m.st.a x.m.st.n x.m.st.c,.int .i64 x.m.m,.slice x.m.a x.m.n x.m.c,.int .i64 x.m.b.k,.int .i64 x.m.b.i,.int .i64 x.m.b.s,.string x.m.b.t,.slice x.m.b.la x.m.b.ll x.m.b.lc,.slice x.m.b.fa x.m.b.fl x.m.b.fc,.string x.nd,.string x.tx,.int .i64 x.vr] 70
theorem oU (k:Int) (x:LetC) (d:Let) (w:World) (hd:IsLet (· < w.heap.size) w x d) (hT:Tabs w):Calls Tryz.prog 34 #[.int .i64 k,.agg #[.int .i64 x.m.st.e,.slice x.m.st.a x.m.st.n x.m.st.c,.int .i64 x.m.m,.slice x.m.a x.m.n x.m.c,.int .i64 x.m.b.k,.int .i64 x.m.b.i,.int .i64 x.m.b.s,.string x.m.b.t,.slice x.m.b.la x.m.b.ll x.m.b.lc,.slice x.m.b.fa x.m.b.fl x.m.b.fc,.string x.nd,.string x.tx,.int .i64 x.vr]] w fun e w'=>e=.returned (.int .i64 (kL d))∧Below w.heap.size w w':=by
 have hba:Below w.heap.size w (w.alloc (letO x)):=(Below.refl _ _).alloc lr _
 have HB:=hid hba
 have HV:=hid (kA x.tx hd.txz (w.alloc (letO x)) (hT.below hba))
 have HM:=hid (fun (w':World) (hb:Below (w.alloc (letO x)).heap.size (w.alloc (letO x)) w')=>by
  have hs:=hb.size
  have hz:(w.alloc (letO x)).heap.size=w.heap.size+1:=by simp
  exact cQ x.m d.m w' (hd.m.same fun b hb'=>⟨by omega,(hb.block b (by omega)).trans (hba.block b hb')⟩) ((hT.below hba).below hb))
 have hE:kL d=if inQ x.vr 1 999=false then 2 else if aI x.nd=false then 12 else if Lib.validD x.tx.data.toList=false then 16 else dB d.m:=by unfold kL;rw[hd.vr,hd.nd,hd.tx]
 obtain⟨me,hme⟩:∃me,me=dB d.m:=⟨_,rfl⟩
 rw[←hme] at hE
 simp only[←hme] at HM
 dsimp only[MC.v] at HM
 have HE:=hid hE
 clear hE hba hd hT hme
 obtain⟨xm,nd,tx,vr⟩:=x
 dsimp only at HV HM HE HB ⊢
 cases h0:inQ vr 1 999
 ·go_enter Tryz.func34,Tryz.ntmps34
  go_wp2_with (go_at_call 25;refine(aL _ _ _ _).mono ?_;rintro e w3 ⟨rfl,hw3⟩;obtain rfl:=hw3)
  go_ret
  exact⟨by rw[HE.out,if_pos h0];rfl,HB.out⟩
 ·cases h1:aI nd
  ·go_enter Tryz.func34,Tryz.ntmps34
   go_wp2_with (first | (go_at_call 25;refine(aL _ _ _ _).mono ?_;rintro e w3 ⟨rfl,hw3⟩;obtain rfl:=hw3) | (go_at_call 39;refine(aG _ _).mono ?_;rintro e w3 ⟨rfl,hw3⟩;obtain rfl:=hw3))
   go_ret
   exact⟨by rw[HE.out,h0,h1];rfl,HB.out⟩
  ·cases h2:Lib.validD tx.data.toList
   ·go_enter Tryz.func34,Tryz.ntmps34
    go_wp2_with (first | (go_at_call 25;refine(aL _ _ _ _).mono ?_;rintro e w3 ⟨rfl,hw3⟩;obtain rfl:=hw3) | (go_at_call 39;refine(aG _ _).mono ?_;rintro e w3 ⟨rfl,hw3⟩;obtain rfl:=hw3) | (go_at_call 110;refine HV.out.mono ?_;rintro e w3 ⟨rfl,hb3⟩;have HB3:=hid hb3;clear hb3))
    go_ret
    exact⟨by rw[HE.out,h0,h1,h2];rfl,HB.out.trans (HB3.out.mono HB.out.size)⟩
   ·go_enter Tryz.func34,Tryz.ntmps34
    have HG:=hid (heap_alloc_new w (letO ⟨xm,nd,tx,vr⟩))
    go_wp2_with (first | (go_at_call 25;refine(aL _ _ _ _).mono ?_;rintro e w3 ⟨rfl,hw3⟩;obtain rfl:=hw3) | (go_at_call 39;refine(aG _ _).mono ?_;rintro e w3 ⟨rfl,hw3⟩;obtain rfl:=hw3) | (go_at_call 110;refine HV.out.mono ?_;rintro e w3 ⟨rfl,hb3⟩;have HB3:=hid hb3;have hg3:=aB hb3 HG.out;have q0:=aA hg3 0;have q1:=aA hg3 1;have q2:=aA hg3 2;have q3:=aA hg3 3;have q4:=aA hg3 4;have q5:=aA hg3 5;have q6:=aA hg3 6;have q7:=aA hg3 7;have q8:=aA hg3 8;have q9:=aA hg3 9;(try dsimp only at q0 q1 q2 q3 q4 q5 q6 q7 q8 q9);clear hb3 hg3) | (go_at_call 111;refine(HM.out _ HB3.out).mono ?_;rintro e w5 ⟨rfl,hb5⟩;have HB5:=hid hb5;clear hb5))
    go_ret
    exact⟨by rw[HE.out,h0,h1,h2];rfl,HB.out.trans ((HB3.out.mono HB.out.size).trans (HB5.out.mono (Nat.le_trans HB.out.size HB3.out.size)))⟩
end
section
open Go Go.RowKit Go.Shelf
theorem noInts' (S:Nat→Prop) (w:World):IsInts S w none 0 0 []:=⟨rfl,Nat.le_refl _,by omega,fun x hx=>absurd hx (by simp),.inl rfl⟩
theorem zeroVal (S:Nat→Prop) (w:World):IsVal S w ⟨0,0,0,⟨#[]⟩,none,0,0,none,0,0⟩ zV:=by
 refine⟨⟨rfl,rfl,rfl,rfl,?_,rfl,rfl,rfl⟩,.inl rfl,.inl rfl⟩
 have h:I64 0:=by unfold I64;omega
 exact⟨h,h,h,by decide,by decide,by decide,by decide,by decide⟩
theorem zeroEf (S:Nat→Prop) (w:World):IsEf S w ⟨0,⟨#[]⟩,0,⟨#[]⟩,⟨0,none,0,0⟩,⟨0,none,0,0⟩,⟨#[]⟩,0,false,⟨0,0,0,⟨#[]⟩,none,0,0,none,0,0⟩,⟨#[]⟩⟩ ⟨0,⟨#[]⟩,0,⟨#[]⟩,⟨0,[]⟩,⟨0,[]⟩,⟨#[]⟩,0,false,zV,⟨#[]⟩⟩ :=
 ⟨rfl,rfl,by decide,rfl,rfl,by decide,⟨rfl,(show I64 0 by unfold I64;omega),noInts' S w⟩,⟨rfl,(show I64 0 by unfold I64;omega),noInts' S w⟩,rfl,rfl,(show I64 0 by unfold I64;omega),rfl,zeroVal S w,rfl,by decide⟩
theorem reqZ (d:Ef):nB d ⟨0,⟨#[]⟩,0,⟨#[]⟩,⟨0,[]⟩,⟨0,[]⟩,⟨#[]⟩,0,false,zV,⟨#[]⟩⟩=jC d:=by
 unfold nB jC
 rw[aDf]
 have h1:hU d.rs ⟨0,[]⟩=(decide (d.rs.e=0)&&decide (d.rs.ps.length=0)):=by
  unfold hU
  rw[←Bool.decide_and]
  simp
 have h2:(d.sv.toList==(⟨#[]⟩:ByteArray).toList)=d.sv.toList.isEmpty:=by
  have:(⟨#[]⟩:ByteArray).toList=[]:=by rw[ByteArray.toList_eq]
  rw[this];cases d.sv.toList<;>rfl
 rw[h1,h2,Bool.and_assoc]
 cases d.un<;>rfl
theorem sL (k:Int) (x:EfC) (d:Ef) (w:World) (hd:IsEf (· < w.heap.size) w x d) (hT:Tabs w) (hk:x.k=1) (h1:aI x.nm=true) (h2:inQ x.nu 1 999999999999999=true) (h3:aS d.st=0) :
 Calls Tryz.prog 36 #[.int .i64 k,.agg #[.int .i64 x.k,.string x.nm,.int .i64 x.nu,.string x.tx,.int .i64 x.st.e,.slice x.st.a x.st.n x.st.c,.int .i64 x.rs.e,.slice x.rs.a x.rs.n x.rs.c,.string x.sv,.int .i64 x.ca,.bool x.un,.int .i64 x.bd.k,.int .i64 x.bd.i,.int .i64 x.bd.s,.string x.bd.t,.slice x.bd.la x.bd.ll x.bd.lc,.slice x.bd.fa x.bd.fl x.bd.fc,.string x.nd]] w fun e w'=>e=.returned (.int .i64 (efE d))∧Below w.heap.size w w':=by
 have hba:Below w.heap.size w (w.alloc (efO x)):=(bR w).alloc lr _
 have HSC:Hid (Calls Tryz.prog 112 #[x.st.v] (w.alloc (efO x)) fun e w'=>e=.returned (.int .i64 0)∧Below (w.alloc (efO x)).heap.size (w.alloc (efO x)) w'):=hid (by rw[←h3];exact bK (· < w.heap.size) x.st d.st w _ hd.st fun b hb=>⟨by simp;omega,hba.block b hb⟩)
 obtain⟨z,hz⟩:∃z,z=jC d:=⟨_,rfl⟩
 have HRQ:=hid (fun (w1:World) (hb:Below (w.alloc (efO x)).heap.size (w.alloc (efO x)) w1)=>(show Calls Tryz.prog 46 #[.agg #[.int .i64 x.rs.e,.slice x.rs.a x.rs.n x.rs.c,.string x.sv,.int .i64 x.ca,.bool x.un,.int .i64 x.bd.k,.int .i64 x.bd.i,.int .i64 x.bd.s,.string x.bd.t,.slice x.bd.la x.bd.ll x.bd.lc,.slice x.bd.fa x.bd.fl x.bd.fc],.agg #[.int .i64 0,.slice none 0 0,.string ⟨#[]⟩,.int .i64 0,.bool false,.int .i64 0,.int .i64 0,.int .i64 0,.string ⟨#[]⟩,.slice none 0 0,.slice none 0 0]] (w1.alloc (rqO x)) fun e w'=>e=.returned (.bool z)∧Below (w1.alloc (rqO x)).heap.size (w1.alloc (rqO x)) w' from by
  rw[hz,←reqZ]
  have hs:=hb.size
  have hs0:(w.alloc (efO x)).heap.size=w.heap.size+1:=by simp
  exact xG x ⟨0,⟨#[]⟩,0,⟨#[]⟩,⟨0,none,0,0⟩,⟨0,none,0,0⟩,⟨#[]⟩,0,false,⟨0,0,0,⟨#[]⟩,none,0,0,none,0,0⟩,⟨#[]⟩⟩ d ⟨0,⟨#[]⟩,0,⟨#[]⟩,⟨0,[]⟩,⟨0,[]⟩,⟨#[]⟩,0,false,zV,⟨#[]⟩⟩ (w1.alloc (rqO x)) (hd.same fun b hb'=>⟨by simp;omega,(Below.heap_alloc w1 _ b (by omega)).trans ((hb.block b (by omega)).trans (hba.block b hb'))⟩) (zeroEf _ _)))
 have HE:=hid (show efE d=if 65536<x.tx.size then 5 else if z=false∨x.nd.toList.isEmpty=false then 3 else 0 by
  unfold efE;rw[if_neg (fun h=>h.1 (hd.k▸hk)),if_neg (by rw[←hd.nm,h1];decide),if_neg (by rw[←hd.nu,h2];decide),if_neg (by rw[h3];simp),if_pos (hd.k▸hk),hd.tx,hz,hd.nd])
 have HX:=hid (heap_alloc_new w (efO x))
 have HB:=hid hba
 clear hba hd hT hz h3
 obtain⟨xk,nm,nu,tx,st,rs,sv,ca,un,bd,nd⟩:=x
 dsimp only[SC.v] at HSC HE HRQ hk h1 h2 ⊢
 subst hk
 by_cases h4:(65536:Int)<(tx.size:Int)
 ·have h4':65536<tx.size:=by omega
  go_enter Tryz.func36,Tryz.ntmps36
  go_wp2_with (first | (go_at_call 39;refine(aG _ _).mono ?_;rintro e w3 ⟨rfl,hw3⟩;obtain rfl:=hw3) | (go_at_call 25;refine(aL _ _ _ _).mono ?_;rintro e w3 ⟨rfl,hw3⟩;obtain rfl:=hw3) | (go_at_call 112;refine HSC.out.mono ?_;rintro e w1 ⟨rfl,hb1⟩;have HB1:=hid hb1;have hx1:=aB hb1 HX.out;have a0:=aA hx1 0;have a1:=aA hx1 1;have a2:=aA hx1 2;have a3:=aA hx1 3;have a4:=aA hx1 4;have a5:=aA hx1 5;have a6:=aA hx1 6;have a7:=aA hx1 7;have a8:=aA hx1 8;have a9:=aA hx1 9;have a10:=aA hx1 10;have a11:=aA hx1 11;have a12:=aA hx1 12;have a13:=aA hx1 13;have a14:=aA hx1 14;have a15:=aA hx1 15;have a16:=aA hx1 16;have a17:=aA hx1 17;(try dsimp only at a0 a1 a2 a3 a4 a5 a6 a7 a8 a9 a10 a11 a12 a13 a14 a15 a16 a17);have hy1:=aC (.cells #[.int .i64 rs.e,.slice rs.a rs.n rs.c,.string sv,.int .i64 ca,.bool un,.int .i64 bd.k,.int .i64 bd.i,.int .i64 bd.s,.string bd.t,.slice bd.la bd.ll bd.lc,.slice bd.fa bd.fl bd.fc] 73) hx1;have y0:=aA hy1 0;have y1:=aA hy1 1;have y3:=aA hy1 3;have y4:=aA hy1 4;have y5:=aA hy1 5;have y17:=aA hy1 17;(try dsimp only at y0 y1 y3 y4 y5 y17);clear hx1 hy1 hb1))
  go_ret
  exact⟨by rw[HE.out,if_pos h4'];rfl,HB.out.trans ((HB1.out.mono HB.out.size).trans ((Below.refl _ _).alloc (Nat.le_trans HB.out.size HB1.out.size) _))⟩
 ·have h4':¬ 65536<tx.size:=by omega
  cases z
  ·go_enter Tryz.func36,Tryz.ntmps36
   go_wp2_with (first | (go_at_call 39;refine(aG _ _).mono ?_;rintro e w3 ⟨rfl,hw3⟩;obtain rfl:=hw3) | (go_at_call 25;refine(aL _ _ _ _).mono ?_;rintro e w3 ⟨rfl,hw3⟩;obtain rfl:=hw3) | (go_at_call 112;refine HSC.out.mono ?_;rintro e w1 ⟨rfl,hb1⟩;have HB1:=hid hb1;have hx1:=aB hb1 HX.out;have a0:=aA hx1 0;have a1:=aA hx1 1;have a2:=aA hx1 2;have a3:=aA hx1 3;have a4:=aA hx1 4;have a5:=aA hx1 5;have a6:=aA hx1 6;have a7:=aA hx1 7;have a8:=aA hx1 8;have a9:=aA hx1 9;have a10:=aA hx1 10;have a11:=aA hx1 11;have a12:=aA hx1 12;have a13:=aA hx1 13;have a14:=aA hx1 14;have a15:=aA hx1 15;have a16:=aA hx1 16;have a17:=aA hx1 17;(try dsimp only at a0 a1 a2 a3 a4 a5 a6 a7 a8 a9 a10 a11 a12 a13 a14 a15 a16 a17);have hy1:=aC (.cells #[.int .i64 rs.e,.slice rs.a rs.n rs.c,.string sv,.int .i64 ca,.bool un,.int .i64 bd.k,.int .i64 bd.i,.int .i64 bd.s,.string bd.t,.slice bd.la bd.ll bd.lc,.slice bd.fa bd.fl bd.fc] 73) hx1;have y0:=aA hy1 0;have y1:=aA hy1 1;have y3:=aA hy1 3;have y4:=aA hy1 4;have y5:=aA hy1 5;have y17:=aA hy1 17;(try dsimp only at y0 y1 y3 y4 y5 y17);clear hx1 hy1 hb1) | (go_at_call 46;refine(HRQ.out _ HB1.out).mono ?_;rintro e w4 ⟨rfl,hb4⟩;have HB4:=hid hb4;have hx4:=aB hb4 (aC _ (aB HB1.out HX.out));have c17:=aA hx4 17;(try dsimp only at c17);clear hx4 hb4))
   go_ret
   exact⟨by rw[HE.out,if_neg h4',if_pos (by simp)];rfl,HB.out.trans (((HB1.out.mono HB.out.size).trans ((Below.refl _ _).alloc (Nat.le_trans HB.out.size HB1.out.size) _)).trans (HB4.out.mono (by have h1:=HB.out.size;have h2:=HB1.out.size;simp at h1 h2 ⊢;omega)))⟩
  ·cases h5:nd.toList.isEmpty
   ·go_enter Tryz.func36,Tryz.ntmps36
    go_wp2_with (first | (go_at_call 39;refine(aG _ _).mono ?_;rintro e w3 ⟨rfl,hw3⟩;obtain rfl:=hw3) | (go_at_call 25;refine(aL _ _ _ _).mono ?_;rintro e w3 ⟨rfl,hw3⟩;obtain rfl:=hw3) | (go_at_call 112;refine HSC.out.mono ?_;rintro e w1 ⟨rfl,hb1⟩;have HB1:=hid hb1;have hx1:=aB hb1 HX.out;have a0:=aA hx1 0;have a1:=aA hx1 1;have a2:=aA hx1 2;have a3:=aA hx1 3;have a4:=aA hx1 4;have a5:=aA hx1 5;have a6:=aA hx1 6;have a7:=aA hx1 7;have a8:=aA hx1 8;have a9:=aA hx1 9;have a10:=aA hx1 10;have a11:=aA hx1 11;have a12:=aA hx1 12;have a13:=aA hx1 13;have a14:=aA hx1 14;have a15:=aA hx1 15;have a16:=aA hx1 16;have a17:=aA hx1 17;(try dsimp only at a0 a1 a2 a3 a4 a5 a6 a7 a8 a9 a10 a11 a12 a13 a14 a15 a16 a17);have hy1:=aC (.cells #[.int .i64 rs.e,.slice rs.a rs.n rs.c,.string sv,.int .i64 ca,.bool un,.int .i64 bd.k,.int .i64 bd.i,.int .i64 bd.s,.string bd.t,.slice bd.la bd.ll bd.lc,.slice bd.fa bd.fl bd.fc] 73) hx1;have y0:=aA hy1 0;have y1:=aA hy1 1;have y3:=aA hy1 3;have y4:=aA hy1 4;have y5:=aA hy1 5;have y17:=aA hy1 17;(try dsimp only at y0 y1 y3 y4 y5 y17);clear hx1 hy1 hb1) | (go_at_call 46;refine(HRQ.out _ HB1.out).mono ?_;rintro e w4 ⟨rfl,hb4⟩;have HB4:=hid hb4;have hx4:=aB hb4 (aC _ (aB HB1.out HX.out));have c17:=aA hx4 17;(try dsimp only at c17);clear hx4 hb4))
    go_ret
    exact⟨by rw[HE.out,if_neg h4',if_pos (by simp[h5])];rfl,HB.out.trans (((HB1.out.mono HB.out.size).trans ((Below.refl _ _).alloc (Nat.le_trans HB.out.size HB1.out.size) _)).trans (HB4.out.mono (by have h1:=HB.out.size;have h2:=HB1.out.size;simp at h1 h2 ⊢;omega)))⟩
   ·go_enter Tryz.func36,Tryz.ntmps36
    go_wp2_with (first | (go_at_call 39;refine(aG _ _).mono ?_;rintro e w3 ⟨rfl,hw3⟩;obtain rfl:=hw3) | (go_at_call 25;refine(aL _ _ _ _).mono ?_;rintro e w3 ⟨rfl,hw3⟩;obtain rfl:=hw3) | (go_at_call 112;refine HSC.out.mono ?_;rintro e w1 ⟨rfl,hb1⟩;have HB1:=hid hb1;have hx1:=aB hb1 HX.out;have a0:=aA hx1 0;have a1:=aA hx1 1;have a2:=aA hx1 2;have a3:=aA hx1 3;have a4:=aA hx1 4;have a5:=aA hx1 5;have a6:=aA hx1 6;have a7:=aA hx1 7;have a8:=aA hx1 8;have a9:=aA hx1 9;have a10:=aA hx1 10;have a11:=aA hx1 11;have a12:=aA hx1 12;have a13:=aA hx1 13;have a14:=aA hx1 14;have a15:=aA hx1 15;have a16:=aA hx1 16;have a17:=aA hx1 17;(try dsimp only at a0 a1 a2 a3 a4 a5 a6 a7 a8 a9 a10 a11 a12 a13 a14 a15 a16 a17);have hy1:=aC (.cells #[.int .i64 rs.e,.slice rs.a rs.n rs.c,.string sv,.int .i64 ca,.bool un,.int .i64 bd.k,.int .i64 bd.i,.int .i64 bd.s,.string bd.t,.slice bd.la bd.ll bd.lc,.slice bd.fa bd.fl bd.fc] 73) hx1;have y0:=aA hy1 0;have y1:=aA hy1 1;have y3:=aA hy1 3;have y4:=aA hy1 4;have y5:=aA hy1 5;have y17:=aA hy1 17;(try dsimp only at y0 y1 y3 y4 y5 y17);clear hx1 hy1 hb1) | (go_at_call 46;refine(HRQ.out _ HB1.out).mono ?_;rintro e w4 ⟨rfl,hb4⟩;have HB4:=hid hb4;have hx4:=aB hb4 (aC _ (aB HB1.out HX.out));have c17:=aA hx4 17;(try dsimp only at c17);clear hx4 hb4))
    go_ret
    exact⟨by rw[HE.out,if_neg h4',if_neg (by simp[h5])];rfl,HB.out.trans (((HB1.out.mono HB.out.size).trans ((Below.refl _ _).alloc (Nat.le_trans HB.out.size HB1.out.size) _)).trans (HB4.out.mono (by have h1:=HB.out.size;have h2:=HB1.out.size;simp at h1 h2 ⊢;omega)))⟩
end
end Go.Proofs.YteladbdfiannjaaGreatDoor
