/-
  The closures of snapshot.Equal; slices.EqualFunc at states, letters and effects. Conditions: both sides can be read as data.
-/
import Derived.Test.YteladbdfiannjaaGreatDoorSP21Mrg
namespace Go.Proofs.YteladbdfiannjaaGreatDoor
set_option linter.unusedVariables false
set_option maxRecDepth 100000
set_option maxHeartbeats 64000000
set_option linter.unusedSimpArgs false
open Go Go.RowKit Go.Shelf
theorem at_ef' {W:World} {b:Nat} {c:EfC} (h:W.heap[b]?=some (.cells (EfC.cs c).toArray 75)):AtG efK W b 0 c:=fun j hj=>by
 have hl:(EfC.cs c).length=18:=rfl
 have h1:(EfC.cs c)[j]?=some ((EfC.cs c)[j]'(by rw[hl];exact hj)):=List.getElem?_eq_getElem _
 have h2:=World.news_of_block h j _ h1
 have hadd:(⟨b,0,none⟩:Addr).add j=⟨b,0+j,none⟩:=by unfold Addr.add;split<;>simp_all
 rw[hadd] at h2
 exact h2.trans h1.symm
theorem letEq_call (x y:LetC) (dx dy:Let) (w:World) (hd:IsLet (· < w.heap.size) w x dx) (hd2:IsLet (· < w.heap.size) w y dy) :
 Calls Tryz.prog 42 #[.agg #[.int .i64 x.m.st.e,.slice x.m.st.a x.m.st.n x.m.st.c,.int .i64 x.m.m,.slice x.m.a x.m.n x.m.c,.int .i64 x.m.b.k,.int .i64 x.m.b.i,.int .i64 x.m.b.s,.string x.m.b.t,.slice x.m.b.la x.m.b.ll x.m.b.lc,.slice x.m.b.fa x.m.b.fl x.m.b.fc,.string x.nd,.string x.tx,.int .i64 x.vr],.agg #[.int .i64 y.m.st.e,.slice y.m.st.a y.m.st.n y.m.st.c,.int .i64 y.m.m,.slice y.m.a y.m.n y.m.c,.int .i64 y.m.b.k,.int .i64 y.m.b.i,.int .i64 y.m.b.s,.string y.m.b.t,.slice y.m.b.la y.m.b.ll y.m.b.lc,.slice y.m.b.fa y.m.b.fl y.m.b.fc,.string y.nd,.string y.tx,.int .i64 y.vr]] w fun e w'=>e=.returned (.bool (letEqB dx dy))∧Below w.heap.size w w':=by
 obtain⟨u,hu⟩:∃u,u=msgEqB dx.m dy.m:=⟨_,rfl⟩
 have HE:=hid (show letEqB dx dy=(u&&((x.nd.toList==y.nd.toList)&&((x.tx.toList==y.tx.toList)&&decide (x.vr=y.vr)))) by rw[letEqB,hu,hd.nd,hd2.nd,hd.tx,hd2.tx,hd.vr,hd2.vr])
 have hba:Below w.heap.size w ((w.alloc (letO x)).alloc (letO y)):=((Below.refl _ w).alloc (Nat.le_refl _) _).alloc (by simp) _
 have hx:=heapAlloc (letO y) (heap_alloc_new w (letO x))
 have hy:((w.alloc (letO x)).alloc (letO y)).heap[w.heap.size+1]?=some (letO y):=heapNewAt _ _ _ (by simp)
 have hz:((w.alloc (letO x)).alloc (letO y)).heap.size=w.heap.size+2:=by simp
 obtain⟨w0,hw0⟩:∃w0,w0=(w.alloc (letO x)).alloc (letO y):=⟨_,rfl⟩
 rw[←hw0] at hba hx hy hz
 have hk:∀b,b<w.heap.size→b<w0.heap.size∧w0.heap[b]?=w.heap[b]?:=fun b hb=>⟨by omega,hba.block b hb⟩
 have HMS:Hid (Calls Tryz.prog 43 #[x.m.v,y.m.v] w0 fun e w'=>e=.returned (.bool u)∧Below w0.heap.size w0 w'):=hid (by rw[hu];exact msgEqual_call _ _ _ _ w0 (hd.m.same hk) (hd2.m.same hk))
 have HX:=hid hx;have HY:=hid hy;have HB:=hid hba;have HW:=hid hw0
 have a0:=cellOf hx 0;have a1:=cellOf hx 1;have a2:=cellOf hx 2;have a3:=cellOf hx 3;have a4:=cellOf hx 4;have a5:=cellOf hx 5;have a6:=cellOf hx 6;have a7:=cellOf hx 7;have a8:=cellOf hx 8;have a9:=cellOf hx 9;(try dsimp only at a0 a1 a2 a3 a4 a5 a6 a7 a8 a9)
 have b0:=cellOf hy 0;have b1:=cellOf hy 1;have b2:=cellOf hy 2;have b3:=cellOf hy 3;have b4:=cellOf hy 4;have b5:=cellOf hy 5;have b6:=cellOf hy 6;have b7:=cellOf hy 7;have b8:=cellOf hy 8;have b9:=cellOf hy 9;(try dsimp only at b0 b1 b2 b3 b4 b5 b6 b7 b8 b9)
 clear hk hz hba hx hy hu hd hd2 hw0
 dsimp only[MC.v] at HMS
 go_enter Tryz.func42,Tryz.ntmps42
 go_upto_region 1 with (fail)
 rw[←HW.out]
 cases u
 ·go_wp2_with (go_at_call 43;refine HMS.out.mono ?_;rintro e w1 ⟨rfl,hb1⟩;have HB1:=hid hb1;have hx1:=heapExt hb1 HX.out;have hy1:=heapExt hb1 HY.out;clear a0 b0 a1 b1 a2 b2 a3 b3 a4 b4 a5 b5 a6 b6 a7 b7 a8 b8 a9 b9;have a10:=cellOf hx1 10;have a11:=cellOf hx1 11;have a12:=cellOf hx1 12;(try dsimp only at a10 a11 a12);have b10:=cellOf hy1 10;have b11:=cellOf hy1 11;have b12:=cellOf hy1 12;(try dsimp only at b10 b11 b12);clear hx1 hy1 hb1)
  go_ret
  exact⟨by rw[HE.out];simp,HB.out.trans (HB1.out.mono HB.out.size)⟩
 ·cases q1:(x.nd.toList==y.nd.toList)
  ·go_wp2_with (go_at_call 43;refine HMS.out.mono ?_;rintro e w1 ⟨rfl,hb1⟩;have HB1:=hid hb1;have hx1:=heapExt hb1 HX.out;have hy1:=heapExt hb1 HY.out;clear a0 b0 a1 b1 a2 b2 a3 b3 a4 b4 a5 b5 a6 b6 a7 b7 a8 b8 a9 b9;have a10:=cellOf hx1 10;have a11:=cellOf hx1 11;have a12:=cellOf hx1 12;(try dsimp only at a10 a11 a12);have b10:=cellOf hy1 10;have b11:=cellOf hy1 11;have b12:=cellOf hy1 12;(try dsimp only at b10 b11 b12);clear hx1 hy1 hb1)
   go_ret
   exact⟨by rw[HE.out];simp[q1],HB.out.trans (HB1.out.mono HB.out.size)⟩
  ·cases q2:(x.tx.toList==y.tx.toList)
   ·go_wp2_with (go_at_call 43;refine HMS.out.mono ?_;rintro e w1 ⟨rfl,hb1⟩;have HB1:=hid hb1;have hx1:=heapExt hb1 HX.out;have hy1:=heapExt hb1 HY.out;clear a0 b0 a1 b1 a2 b2 a3 b3 a4 b4 a5 b5 a6 b6 a7 b7 a8 b8 a9 b9;have a10:=cellOf hx1 10;have a11:=cellOf hx1 11;have a12:=cellOf hx1 12;(try dsimp only at a10 a11 a12);have b10:=cellOf hy1 10;have b11:=cellOf hy1 11;have b12:=cellOf hy1 12;(try dsimp only at b10 b11 b12);clear hx1 hy1 hb1)
    go_ret
    exact⟨by rw[HE.out];simp[q1,q2],HB.out.trans (HB1.out.mono HB.out.size)⟩
   ·by_cases q3:x.vr=y.vr
    ·go_wp2_with (go_at_call 43;refine HMS.out.mono ?_;rintro e w1 ⟨rfl,hb1⟩;have HB1:=hid hb1;have hx1:=heapExt hb1 HX.out;have hy1:=heapExt hb1 HY.out;clear a0 b0 a1 b1 a2 b2 a3 b3 a4 b4 a5 b5 a6 b6 a7 b7 a8 b8 a9 b9;have a10:=cellOf hx1 10;have a11:=cellOf hx1 11;have a12:=cellOf hx1 12;(try dsimp only at a10 a11 a12);have b10:=cellOf hy1 10;have b11:=cellOf hy1 11;have b12:=cellOf hy1 12;(try dsimp only at b10 b11 b12);clear hx1 hy1 hb1)
     go_ret
     exact⟨by rw[HE.out];simp[q1,q2,q3],HB.out.trans (HB1.out.mono HB.out.size)⟩
    ·go_wp2_with (go_at_call 43;refine HMS.out.mono ?_;rintro e w1 ⟨rfl,hb1⟩;have HB1:=hid hb1;have hx1:=heapExt hb1 HX.out;have hy1:=heapExt hb1 HY.out;clear a0 b0 a1 b1 a2 b2 a3 b3 a4 b4 a5 b5 a6 b6 a7 b7 a8 b8 a9 b9;have a10:=cellOf hx1 10;have a11:=cellOf hx1 11;have a12:=cellOf hx1 12;(try dsimp only at a10 a11 a12);have b10:=cellOf hy1 10;have b11:=cellOf hy1 11;have b12:=cellOf hy1 12;(try dsimp only at b10 b11 b12);clear hx1 hy1 hb1)
     go_ret
     exact⟨by rw[HE.out];simp[q1,q2,q3],HB.out.trans (HB1.out.mono HB.out.size)⟩
theorem efEq_call (x y:EfC) (dx dy:Ef) (w:World) (hd:IsEf (· < w.heap.size) w x dx) (hd2:IsEf (· < w.heap.size) w y dy) :
 Calls Tryz.prog 44 #[.agg #[.int .i64 x.k,.string x.nm,.int .i64 x.nu,.string x.tx,.int .i64 x.st.e,.slice x.st.a x.st.n x.st.c,.int .i64 x.rs.e,.slice x.rs.a x.rs.n x.rs.c,.string x.sv,.int .i64 x.ca,.bool x.un,.int .i64 x.bd.k,.int .i64 x.bd.i,.int .i64 x.bd.s,.string x.bd.t,.slice x.bd.la x.bd.ll x.bd.lc,.slice x.bd.fa x.bd.fl x.bd.fc,.string x.nd],.agg #[.int .i64 y.k,.string y.nm,.int .i64 y.nu,.string y.tx,.int .i64 y.st.e,.slice y.st.a y.st.n y.st.c,.int .i64 y.rs.e,.slice y.rs.a y.rs.n y.rs.c,.string y.sv,.int .i64 y.ca,.bool y.un,.int .i64 y.bd.k,.int .i64 y.bd.i,.int .i64 y.bd.s,.string y.bd.t,.slice y.bd.la y.bd.ll y.bd.lc,.slice y.bd.fa y.bd.fl y.bd.fc,.string y.nd]] w fun e w'=>e=.returned (.bool (efEqS dx dy))∧Below w.heap.size w w':=by
 obtain⟨u,hu⟩:∃u,u=stEqB dx.st dy.st:=⟨_,rfl⟩
 obtain⟨v,hv⟩:∃v,v=reqEqB dx dy:=⟨_,rfl⟩
 have HE:=hid (show efEqS dx dy=(decide (x.k=y.k)&&((x.nm.toList==y.nm.toList)&&(decide (x.nu=y.nu)&&((x.tx.toList==y.tx.toList)&&(u&&(v&&(x.nd.toList==y.nd.toList))))))) by rw[efEqS,hu,hv,hd.k,hd2.k,hd.nm,hd2.nm,hd.nu,hd2.nu,hd.tx,hd2.tx,hd.nd,hd2.nd])
 have hba:Below w.heap.size w ((w.alloc (efO x)).alloc (efO y)):=((Below.refl _ w).alloc (Nat.le_refl _) _).alloc (by simp) _
 have hx:=heapAlloc (efO y) (heap_alloc_new w (efO x))
 have hy:((w.alloc (efO x)).alloc (efO y)).heap[w.heap.size+1]?=some (efO y):=heapNewAt _ _ _ (by simp)
 have hz:((w.alloc (efO x)).alloc (efO y)).heap.size=w.heap.size+2:=by simp
 obtain⟨w0,hw0⟩:∃w0,w0=(w.alloc (efO x)).alloc (efO y):=⟨_,rfl⟩
 rw[←hw0] at hba hx hy hz
 have hk:∀w1,Below w0.heap.size w0 w1→∀b,b<w.heap.size→b<w1.heap.size∧w1.heap[b]?=w.heap[b]?:=fun w1 h b hb=>⟨by have:=h.size;omega,(h.block b (by omega)).trans (hba.block b hb)⟩
 have HST:Hid (Calls Tryz.prog 45 #[x.st.v,y.st.v] w0 fun e w'=>e=.returned (.bool u)∧Below w0.heap.size w0 w'):=hid (by rw[hu];exact stEqual_call _ _ _ _ w0 (hd.st.same (hk w0 (Below.refl _ _))) (hd2.st.same (hk w0 (Below.refl _ _))))
 have HRQ:Hid (∀w1,Below w0.heap.size w0 w1→Calls Tryz.prog 46 #[.agg #[.int .i64 x.rs.e,.slice x.rs.a x.rs.n x.rs.c,.string x.sv,.int .i64 x.ca,.bool x.un,.int .i64 x.bd.k,.int .i64 x.bd.i,.int .i64 x.bd.s,.string x.bd.t,.slice x.bd.la x.bd.ll x.bd.lc,.slice x.bd.fa x.bd.fl x.bd.fc],.agg #[.int .i64 y.rs.e,.slice y.rs.a y.rs.n y.rs.c,.string y.sv,.int .i64 y.ca,.bool y.un,.int .i64 y.bd.k,.int .i64 y.bd.i,.int .i64 y.bd.s,.string y.bd.t,.slice y.bd.la y.bd.ll y.bd.lc,.slice y.bd.fa y.bd.fl y.bd.fc]] w1 fun e w'=>e=.returned (.bool v)∧Below w1.heap.size w1 w'):=hid (fun w1 h=>by rw[hv];exact reqEq_call x y dx dy w1 (hd.same (hk w1 h)) (hd2.same (hk w1 h)))
 have HX:=hid hx;have HY:=hid hy;have HB:=hid hba;have HW:=hid hw0
 have a0:=cellOf hx 0;have a1:=cellOf hx 1;have a2:=cellOf hx 2;have a3:=cellOf hx 3;have a4:=cellOf hx 4;have a5:=cellOf hx 5;(try dsimp only at a0 a1 a2 a3 a4 a5)
 have b0:=cellOf hy 0;have b1:=cellOf hy 1;have b2:=cellOf hy 2;have b3:=cellOf hy 3;have b4:=cellOf hy 4;have b5:=cellOf hy 5;(try dsimp only at b0 b1 b2 b3 b4 b5)
 clear hk hz hba hx hy hu hv hd hd2 hw0
 dsimp only[SC.v] at HST
 go_enter Tryz.func44,Tryz.ntmps44
 go_upto_region 1 with (fail)
 rw[←HW.out]
 by_cases q0:x.k=y.k
 ·cases q1:(x.nm.toList==y.nm.toList)
  ·go_wp2
   go_ret
   exact⟨by rw[HE.out];simp[q0,q1],HB.out⟩
  ·by_cases q2:x.nu=y.nu
   ·cases q3:(x.tx.toList==y.tx.toList)
    ·go_wp2
     go_ret
     exact⟨by rw[HE.out];simp[q0,q1,q2,q3],HB.out⟩
    ·cases u
     ·go_wp2_with (first | (go_at_call 45;refine HST.out.mono ?_;rintro e w1 ⟨rfl,hb1⟩;have HB1:=hid hb1;have hx1:=heapExt hb1 HX.out;have hy1:=heapExt hb1 HY.out;clear a0 b0 a1 b1 a2 b2 a3 b3 a4 b4 a5 b5;have a6:=cellOf hx1 6;have a7:=cellOf hx1 7;have a8:=cellOf hx1 8;have a9:=cellOf hx1 9;have a10:=cellOf hx1 10;have a11:=cellOf hx1 11;have a12:=cellOf hx1 12;have a13:=cellOf hx1 13;have a14:=cellOf hx1 14;have a15:=cellOf hx1 15;have a16:=cellOf hx1 16;have a17:=cellOf hx1 17;(try dsimp only at a6 a7 a8 a9 a10 a11 a12 a13 a14 a15 a16 a17);have b6:=cellOf hy1 6;have b7:=cellOf hy1 7;have b8:=cellOf hy1 8;have b9:=cellOf hy1 9;have b10:=cellOf hy1 10;have b11:=cellOf hy1 11;have b12:=cellOf hy1 12;have b13:=cellOf hy1 13;have b14:=cellOf hy1 14;have b15:=cellOf hy1 15;have b16:=cellOf hy1 16;have b17:=cellOf hy1 17;(try dsimp only at b6 b7 b8 b9 b10 b11 b12 b13 b14 b15 b16 b17);clear hx1 hy1 hb1))
      go_ret
      exact⟨by rw[HE.out];simp[q0,q1,q2,q3],HB.out.trans (HB1.out.mono HB.out.size)⟩
     ·cases v
      ·go_wp2_with (first | (go_at_call 45;refine HST.out.mono ?_;rintro e w1 ⟨rfl,hb1⟩;have HB1:=hid hb1;have hx1:=heapExt hb1 HX.out;have hy1:=heapExt hb1 HY.out;clear a0 b0 a1 b1 a2 b2 a3 b3 a4 b4 a5 b5;have a6:=cellOf hx1 6;have a7:=cellOf hx1 7;have a8:=cellOf hx1 8;have a9:=cellOf hx1 9;have a10:=cellOf hx1 10;have a11:=cellOf hx1 11;have a12:=cellOf hx1 12;have a13:=cellOf hx1 13;have a14:=cellOf hx1 14;have a15:=cellOf hx1 15;have a16:=cellOf hx1 16;have a17:=cellOf hx1 17;(try dsimp only at a6 a7 a8 a9 a10 a11 a12 a13 a14 a15 a16 a17);have b6:=cellOf hy1 6;have b7:=cellOf hy1 7;have b8:=cellOf hy1 8;have b9:=cellOf hy1 9;have b10:=cellOf hy1 10;have b11:=cellOf hy1 11;have b12:=cellOf hy1 12;have b13:=cellOf hy1 13;have b14:=cellOf hy1 14;have b15:=cellOf hy1 15;have b16:=cellOf hy1 16;have b17:=cellOf hy1 17;(try dsimp only at b6 b7 b8 b9 b10 b11 b12 b13 b14 b15 b16 b17);clear hx1 hy1 hb1) | (go_at_call 46;refine(HRQ.out _ HB1.out).mono ?_;rintro e w3 ⟨rfl,hb3⟩;have HB3:=hid hb3;have hx3:=heapExt hb3 (heapExt HB1.out HX.out);have hy3:=heapExt hb3 (heapExt HB1.out HY.out);clear a6 b6 a7 b7 a8 b8 a9 b9 a10 b10 a11 b11 a12 b12 a13 b13 a14 b14 a15 b15 a16 b16 a17 b17;have a17:=cellOf hx3 17;(try dsimp only at a17);have b17:=cellOf hy3 17;(try dsimp only at b17);clear hx3 hy3 hb3))
       go_ret
       exact⟨by rw[HE.out];simp[q0,q1,q2,q3],HB.out.trans ((HB1.out.trans (HB3.out.mono HB1.out.size)).mono HB.out.size)⟩
      ·cases q4:(x.nd.toList==y.nd.toList)
       ·go_wp2_with (first | (go_at_call 45;refine HST.out.mono ?_;rintro e w1 ⟨rfl,hb1⟩;have HB1:=hid hb1;have hx1:=heapExt hb1 HX.out;have hy1:=heapExt hb1 HY.out;clear a0 b0 a1 b1 a2 b2 a3 b3 a4 b4 a5 b5;have a6:=cellOf hx1 6;have a7:=cellOf hx1 7;have a8:=cellOf hx1 8;have a9:=cellOf hx1 9;have a10:=cellOf hx1 10;have a11:=cellOf hx1 11;have a12:=cellOf hx1 12;have a13:=cellOf hx1 13;have a14:=cellOf hx1 14;have a15:=cellOf hx1 15;have a16:=cellOf hx1 16;have a17:=cellOf hx1 17;(try dsimp only at a6 a7 a8 a9 a10 a11 a12 a13 a14 a15 a16 a17);have b6:=cellOf hy1 6;have b7:=cellOf hy1 7;have b8:=cellOf hy1 8;have b9:=cellOf hy1 9;have b10:=cellOf hy1 10;have b11:=cellOf hy1 11;have b12:=cellOf hy1 12;have b13:=cellOf hy1 13;have b14:=cellOf hy1 14;have b15:=cellOf hy1 15;have b16:=cellOf hy1 16;have b17:=cellOf hy1 17;(try dsimp only at b6 b7 b8 b9 b10 b11 b12 b13 b14 b15 b16 b17);clear hx1 hy1 hb1) | (go_at_call 46;refine(HRQ.out _ HB1.out).mono ?_;rintro e w3 ⟨rfl,hb3⟩;have HB3:=hid hb3;have hx3:=heapExt hb3 (heapExt HB1.out HX.out);have hy3:=heapExt hb3 (heapExt HB1.out HY.out);clear a6 b6 a7 b7 a8 b8 a9 b9 a10 b10 a11 b11 a12 b12 a13 b13 a14 b14 a15 b15 a16 b16 a17 b17;have a17:=cellOf hx3 17;(try dsimp only at a17);have b17:=cellOf hy3 17;(try dsimp only at b17);clear hx3 hy3 hb3))
        go_ret
        exact⟨by rw[HE.out];simp[q0,q1,q2,q3,q4],HB.out.trans ((HB1.out.trans (HB3.out.mono HB1.out.size)).mono HB.out.size)⟩
       ·go_wp2_with (first | (go_at_call 45;refine HST.out.mono ?_;rintro e w1 ⟨rfl,hb1⟩;have HB1:=hid hb1;have hx1:=heapExt hb1 HX.out;have hy1:=heapExt hb1 HY.out;clear a0 b0 a1 b1 a2 b2 a3 b3 a4 b4 a5 b5;have a6:=cellOf hx1 6;have a7:=cellOf hx1 7;have a8:=cellOf hx1 8;have a9:=cellOf hx1 9;have a10:=cellOf hx1 10;have a11:=cellOf hx1 11;have a12:=cellOf hx1 12;have a13:=cellOf hx1 13;have a14:=cellOf hx1 14;have a15:=cellOf hx1 15;have a16:=cellOf hx1 16;have a17:=cellOf hx1 17;(try dsimp only at a6 a7 a8 a9 a10 a11 a12 a13 a14 a15 a16 a17);have b6:=cellOf hy1 6;have b7:=cellOf hy1 7;have b8:=cellOf hy1 8;have b9:=cellOf hy1 9;have b10:=cellOf hy1 10;have b11:=cellOf hy1 11;have b12:=cellOf hy1 12;have b13:=cellOf hy1 13;have b14:=cellOf hy1 14;have b15:=cellOf hy1 15;have b16:=cellOf hy1 16;have b17:=cellOf hy1 17;(try dsimp only at b6 b7 b8 b9 b10 b11 b12 b13 b14 b15 b16 b17);clear hx1 hy1 hb1) | (go_at_call 46;refine(HRQ.out _ HB1.out).mono ?_;rintro e w3 ⟨rfl,hb3⟩;have HB3:=hid hb3;have hx3:=heapExt hb3 (heapExt HB1.out HX.out);have hy3:=heapExt hb3 (heapExt HB1.out HY.out);clear a6 b6 a7 b7 a8 b8 a9 b9 a10 b10 a11 b11 a12 b12 a13 b13 a14 b14 a15 b15 a16 b16 a17 b17;have a17:=cellOf hx3 17;(try dsimp only at a17);have b17:=cellOf hy3 17;(try dsimp only at b17);clear hx3 hy3 hb3))
        go_ret
        exact⟨by rw[HE.out];simp[q0,q1,q2,q3,q4],HB.out.trans ((HB1.out.trans (HB3.out.mono HB1.out.size)).mono HB.out.size)⟩
   ·go_wp2
    go_ret
    exact⟨by rw[HE.out];simp[q0,q1,q2],HB.out⟩
 ·go_wp2
  go_ret
  exact⟨by rw[HE.out];simp[q0],HB.out⟩
theorem eqFnSta_call (a a2:Option Addr) (n c n2 c2:Nat) (l l2:List Sta) (w:World) (hd:IsRow staK (· < w.heap.size) w a n c l) (hd2:IsRow staK (· < w.heap.size) w a2 n2 c2 l2) :
 Calls Tryz.prog 47 #[.slice a n c,.slice a2 n2 c2,.func (.func 48) #[] #[]] w fun e w'=>e=.returned (.bool (eqL staEqB l l2))∧Below w.heap.size w w':=by
 have hen:∀args w,(callFunc 48 args).run Tryz.prog w=.ok (.enter 48 args) w:=enters_of Tryz.func48 (by kernel_rfl) rfl
 have hbig:=hd.big
 have hbig2:=hd2.big
 have HL:=hid hd.len
 have HL2:=hid hd2.len
 have HD:=hid hd
 have HD2:=hid hd2
 clear hd hd2
 go_enter Tryz.func47,Tryz.ntmps47
 by_cases q2:n=n2
 ·subst q2
  go_wp2
  go_loopw [17] (fun i wr=>∃k:Nat,k≤n∧i=.int .i64 k∧(∀j (h1:j<l.length) (h2:j<l2.length),j<k→staEqB l[j] l2[j]=true)∧Below w.heap.size w wr) (fun i _=>n-(intOf i).toNat)
  case atStart=>exact⟨0,Nat.zero_le _,rfl,fun j _ _ h=>absurd h (Nat.not_lt_zero j),Below.refl _ _⟩
  case round =>
   obtain⟨k,hk,rfl,hall,hbr⟩:=hrel
   have HA:=hid hall
   clear hall
   obtain⟨wp,rfl⟩:∃w1:World,w1=wr:=⟨_,rfl⟩
   have HBR:=hid hbr
   have hn63:(n:Int)≤9223372036854775807:=by omega
   by_cases hlt:k<n
   ·have hkl:k<l.length:=by have:=HL.out;omega
    have hkl2:k<l2.length:=by have:=HL2.out;omega
    obtain⟨b,o,rfl,hb,hx⟩:=HD.out.slot (show 0<n by omega)
    obtain⟨b2,o2,rfl,hb2,hy⟩:=HD2.out.slot (show 0<n by omega)
    obtain⟨x,hxa,hxi⟩:=hx k hkl
    obtain⟨y,hya,hyi⟩:=hy k hkl2
    clear hx hy
    obtain⟨x0,x1,x2⟩:=AtG.sta (hxa.same (hbr.block b hb))
    obtain⟨y0,y1,y2⟩:=AtG.sta (w:=wp.alloc (.cells #[.int .i64 x.n,.int .i64 x.t,.slice x.a x.l x.c] 55)) (hya.same ((Below.heap_alloc _ _ _ (by have:=hbr.size;omega)).trans (hbr.block b2 hb2)))
    have hlt':(k:Int)<(n:Int):=by omega
    have hk0:(0:Int)≤(k:Int):=by omega
    obtain⟨u,hu⟩:∃u,u=staEqB l[k] l2[k]:=⟨_,rfl⟩
    have hba:Below w.heap.size w ((wp.alloc (.cells #[.int .i64 x.n,.int .i64 x.t,.slice x.a x.l x.c] 55)).alloc (.cells #[.int .i64 y.n,.int .i64 y.t,.slice y.a y.l y.c] 55)):=(hbr.alloc hbr.size _).alloc (by have:=hbr.size;simp;omega) _
    have HC:Hid (Calls Tryz.prog 48 #[.agg #[.int .i64 x.n,.int .i64 x.t,.slice x.a x.l x.c],.agg #[.int .i64 y.n,.int .i64 y.t,.slice y.a y.l y.c]] ((wp.alloc (.cells #[.int .i64 x.n,.int .i64 x.t,.slice x.a x.l x.c] 55)).alloc (.cells #[.int .i64 y.n,.int .i64 y.t,.slice y.a y.l y.c] 55)) fun e w'=>e=.returned (.bool u)∧Below ((wp.alloc (.cells #[.int .i64 x.n,.int .i64 x.t,.slice x.a x.l x.c] 55)).alloc (.cells #[.int .i64 y.n,.int .i64 y.t,.slice y.a y.l y.c] 55)).heap.size ((wp.alloc (.cells #[.int .i64 x.n,.int .i64 x.t,.slice x.a x.l x.c] 55)).alloc (.cells #[.int .i64 y.n,.int .i64 y.t,.slice y.a y.l y.c] 55)) w'):=hid (by
     rw[hu]
     have hs:=hba.size
     exact equalSta_call x y l[k] l2[k] ((wp.alloc (.cells #[.int .i64 x.n,.int .i64 x.t,.slice x.a x.l x.c] 55)).alloc (.cells #[.int .i64 y.n,.int .i64 y.t,.slice y.a y.l y.c] 55)) (staK.same (fun b q=>⟨by omega,hba.block b q⟩) hxi) (staK.same (fun b q=>⟨by omega,hba.block b q⟩) hyi))
    have HBA:=hid hba
    have HU:=hid hu
    clear hu hba hxa hya hxi hyi hbr hb hb2
    cases u with
    | false =>
      go_wp2_with (go_at_call 48;refine HC.out.mono ?_;rintro e w3 ⟨rfl,hb3⟩)
      go_ret
      exact⟨retB (eqL_ne k hkl hkl2 HU.out.symm).symm,HBA.out.trans (hb3.mono HBA.out.size)⟩
    | true =>
      go_wp2_with (go_at_call 48;refine HC.out.mono ?_;rintro e w3 ⟨rfl,hb3⟩)
      go_roundw
      case rel=>exact⟨k+1,by omega,by go_num,fun j h1 h2 h=>by
       by_cases hjk:j<k
       ·exact HA.out j h1 h2 hjk
       ·obtain rfl:j=k:=by omega
        exact HU.out.symm,HBA.out.trans (hb3.mono HBA.out.size)⟩
      case measure=>simp[intOf];omega
   ·obtain rfl:k=n:=by omega
    have r:=hid (eqL_of (f:=staEqB) (HL.out.symm.trans HL2.out) fun j h1 h2=>HA.out j h1 h2 (by have:=HL.out;omega))
    go_wp2
    go_ret
    exact⟨retB r.out.symm,HBR.out⟩
 ·have q2':¬ (n:Int)=(n2:Int):=by omega
  go_wp2
  go_ret
  exact⟨retB (eqL_len (by rw[←HL.out,←HL2.out];exact q2)).symm,Below.refl _ _⟩
theorem eqFnLet_call (a a2:Option Addr) (n c n2 c2:Nat) (l l2:List Let) (w:World) (hd:IsRow letK (· < w.heap.size) w a n c l) (hd2:IsRow letK (· < w.heap.size) w a2 n2 c2 l2) :
 Calls Tryz.prog 51 #[.slice a n c,.slice a2 n2 c2,.func (.func 42) #[] #[]] w fun e w'=>e=.returned (.bool (eqL letEqB l l2))∧Below w.heap.size w w':=by
 have hen:∀args w,(callFunc 42 args).run Tryz.prog w=.ok (.enter 42 args) w:=enters_of Tryz.func42 (by kernel_rfl) rfl
 have hbig:=hd.big
 have hbig2:=hd2.big
 have HL:=hid hd.len
 have HL2:=hid hd2.len
 have HD:=hid hd
 have HD2:=hid hd2
 clear hd hd2
 go_enter Tryz.func51,Tryz.ntmps51
 by_cases q2:n=n2
 ·subst q2
  go_wp2
  go_loopw [17] (fun i wr=>∃k:Nat,k≤n∧i=.int .i64 k∧(∀j (h1:j<l.length) (h2:j<l2.length),j<k→letEqB l[j] l2[j]=true)∧Below w.heap.size w wr) (fun i _=>n-(intOf i).toNat)
  case atStart=>exact⟨0,Nat.zero_le _,rfl,fun j _ _ h=>absurd h (Nat.not_lt_zero j),Below.refl _ _⟩
  case round =>
   obtain⟨k,hk,rfl,hall,hbr⟩:=hrel
   have HA:=hid hall
   clear hall
   obtain⟨wp,rfl⟩:∃w1:World,w1=wr:=⟨_,rfl⟩
   have HBR:=hid hbr
   have hn63:(n:Int)≤9223372036854775807:=by omega
   by_cases hlt:k<n
   ·have hkl:k<l.length:=by have:=HL.out;omega
    have hkl2:k<l2.length:=by have:=HL2.out;omega
    obtain⟨b,o,rfl,hb,hx⟩:=HD.out.slot (show 0<n by omega)
    obtain⟨b2,o2,rfl,hb2,hy⟩:=HD2.out.slot (show 0<n by omega)
    obtain⟨x,hxa,hxi⟩:=hx k hkl
    obtain⟨y,hya,hyi⟩:=hy k hkl2
    clear hx hy
    obtain⟨x0,x1,x2,x3,x4,x5,x6,x7,x8,x9,x10,x11,x12⟩:=AtG.let' (hxa.same (hbr.block b hb))
    obtain⟨y0,y1,y2,y3,y4,y5,y6,y7,y8,y9,y10,y11,y12⟩:=AtG.let' (w:=wp.alloc (.cells #[.int .i64 x.m.st.e,.slice x.m.st.a x.m.st.n x.m.st.c,.int .i64 x.m.m,.slice x.m.a x.m.n x.m.c,.int .i64 x.m.b.k,.int .i64 x.m.b.i,.int .i64 x.m.b.s,.string x.m.b.t,.slice x.m.b.la x.m.b.ll x.m.b.lc,.slice x.m.b.fa x.m.b.fl x.m.b.fc,.string x.nd,.string x.tx,.int .i64 x.vr] 70)) (hya.same ((Below.heap_alloc _ _ _ (by have:=hbr.size;omega)).trans (hbr.block b2 hb2)))
    have hlt':(k:Int)<(n:Int):=by omega
    have hk0:(0:Int)≤(k:Int):=by omega
    obtain⟨u,hu⟩:∃u,u=letEqB l[k] l2[k]:=⟨_,rfl⟩
    have hba:Below w.heap.size w ((wp.alloc (.cells #[.int .i64 x.m.st.e,.slice x.m.st.a x.m.st.n x.m.st.c,.int .i64 x.m.m,.slice x.m.a x.m.n x.m.c,.int .i64 x.m.b.k,.int .i64 x.m.b.i,.int .i64 x.m.b.s,.string x.m.b.t,.slice x.m.b.la x.m.b.ll x.m.b.lc,.slice x.m.b.fa x.m.b.fl x.m.b.fc,.string x.nd,.string x.tx,.int .i64 x.vr] 70)).alloc (.cells #[.int .i64 y.m.st.e,.slice y.m.st.a y.m.st.n y.m.st.c,.int .i64 y.m.m,.slice y.m.a y.m.n y.m.c,.int .i64 y.m.b.k,.int .i64 y.m.b.i,.int .i64 y.m.b.s,.string y.m.b.t,.slice y.m.b.la y.m.b.ll y.m.b.lc,.slice y.m.b.fa y.m.b.fl y.m.b.fc,.string y.nd,.string y.tx,.int .i64 y.vr] 70)):=(hbr.alloc hbr.size _).alloc (by have:=hbr.size;simp;omega) _
    have HC:Hid (Calls Tryz.prog 42 #[.agg #[.int .i64 x.m.st.e,.slice x.m.st.a x.m.st.n x.m.st.c,.int .i64 x.m.m,.slice x.m.a x.m.n x.m.c,.int .i64 x.m.b.k,.int .i64 x.m.b.i,.int .i64 x.m.b.s,.string x.m.b.t,.slice x.m.b.la x.m.b.ll x.m.b.lc,.slice x.m.b.fa x.m.b.fl x.m.b.fc,.string x.nd,.string x.tx,.int .i64 x.vr],.agg #[.int .i64 y.m.st.e,.slice y.m.st.a y.m.st.n y.m.st.c,.int .i64 y.m.m,.slice y.m.a y.m.n y.m.c,.int .i64 y.m.b.k,.int .i64 y.m.b.i,.int .i64 y.m.b.s,.string y.m.b.t,.slice y.m.b.la y.m.b.ll y.m.b.lc,.slice y.m.b.fa y.m.b.fl y.m.b.fc,.string y.nd,.string y.tx,.int .i64 y.vr]] ((wp.alloc (.cells #[.int .i64 x.m.st.e,.slice x.m.st.a x.m.st.n x.m.st.c,.int .i64 x.m.m,.slice x.m.a x.m.n x.m.c,.int .i64 x.m.b.k,.int .i64 x.m.b.i,.int .i64 x.m.b.s,.string x.m.b.t,.slice x.m.b.la x.m.b.ll x.m.b.lc,.slice x.m.b.fa x.m.b.fl x.m.b.fc,.string x.nd,.string x.tx,.int .i64 x.vr] 70)).alloc (.cells #[.int .i64 y.m.st.e,.slice y.m.st.a y.m.st.n y.m.st.c,.int .i64 y.m.m,.slice y.m.a y.m.n y.m.c,.int .i64 y.m.b.k,.int .i64 y.m.b.i,.int .i64 y.m.b.s,.string y.m.b.t,.slice y.m.b.la y.m.b.ll y.m.b.lc,.slice y.m.b.fa y.m.b.fl y.m.b.fc,.string y.nd,.string y.tx,.int .i64 y.vr] 70)) fun e w'=>e=.returned (.bool u)∧Below ((wp.alloc (.cells #[.int .i64 x.m.st.e,.slice x.m.st.a x.m.st.n x.m.st.c,.int .i64 x.m.m,.slice x.m.a x.m.n x.m.c,.int .i64 x.m.b.k,.int .i64 x.m.b.i,.int .i64 x.m.b.s,.string x.m.b.t,.slice x.m.b.la x.m.b.ll x.m.b.lc,.slice x.m.b.fa x.m.b.fl x.m.b.fc,.string x.nd,.string x.tx,.int .i64 x.vr] 70)).alloc (.cells #[.int .i64 y.m.st.e,.slice y.m.st.a y.m.st.n y.m.st.c,.int .i64 y.m.m,.slice y.m.a y.m.n y.m.c,.int .i64 y.m.b.k,.int .i64 y.m.b.i,.int .i64 y.m.b.s,.string y.m.b.t,.slice y.m.b.la y.m.b.ll y.m.b.lc,.slice y.m.b.fa y.m.b.fl y.m.b.fc,.string y.nd,.string y.tx,.int .i64 y.vr] 70)).heap.size ((wp.alloc (.cells #[.int .i64 x.m.st.e,.slice x.m.st.a x.m.st.n x.m.st.c,.int .i64 x.m.m,.slice x.m.a x.m.n x.m.c,.int .i64 x.m.b.k,.int .i64 x.m.b.i,.int .i64 x.m.b.s,.string x.m.b.t,.slice x.m.b.la x.m.b.ll x.m.b.lc,.slice x.m.b.fa x.m.b.fl x.m.b.fc,.string x.nd,.string x.tx,.int .i64 x.vr] 70)).alloc (.cells #[.int .i64 y.m.st.e,.slice y.m.st.a y.m.st.n y.m.st.c,.int .i64 y.m.m,.slice y.m.a y.m.n y.m.c,.int .i64 y.m.b.k,.int .i64 y.m.b.i,.int .i64 y.m.b.s,.string y.m.b.t,.slice y.m.b.la y.m.b.ll y.m.b.lc,.slice y.m.b.fa y.m.b.fl y.m.b.fc,.string y.nd,.string y.tx,.int .i64 y.vr] 70)) w'):=hid (by
     rw[hu]
     have hs:=hba.size
     exact letEq_call x y l[k] l2[k] ((wp.alloc (.cells #[.int .i64 x.m.st.e,.slice x.m.st.a x.m.st.n x.m.st.c,.int .i64 x.m.m,.slice x.m.a x.m.n x.m.c,.int .i64 x.m.b.k,.int .i64 x.m.b.i,.int .i64 x.m.b.s,.string x.m.b.t,.slice x.m.b.la x.m.b.ll x.m.b.lc,.slice x.m.b.fa x.m.b.fl x.m.b.fc,.string x.nd,.string x.tx,.int .i64 x.vr] 70)).alloc (.cells #[.int .i64 y.m.st.e,.slice y.m.st.a y.m.st.n y.m.st.c,.int .i64 y.m.m,.slice y.m.a y.m.n y.m.c,.int .i64 y.m.b.k,.int .i64 y.m.b.i,.int .i64 y.m.b.s,.string y.m.b.t,.slice y.m.b.la y.m.b.ll y.m.b.lc,.slice y.m.b.fa y.m.b.fl y.m.b.fc,.string y.nd,.string y.tx,.int .i64 y.vr] 70)) (letK.same (fun b q=>⟨by omega,hba.block b q⟩) hxi) (letK.same (fun b q=>⟨by omega,hba.block b q⟩) hyi))
    have HBA:=hid hba
    have HU:=hid hu
    clear hu hba hxa hya hxi hyi hbr hb hb2
    cases u with
    | false =>
      go_wp2_with (go_at_call 42;refine HC.out.mono ?_;rintro e w3 ⟨rfl,hb3⟩)
      go_ret
      exact⟨retB (eqL_ne k hkl hkl2 HU.out.symm).symm,HBA.out.trans (hb3.mono HBA.out.size)⟩
    | true =>
      go_wp2_with (go_at_call 42;refine HC.out.mono ?_;rintro e w3 ⟨rfl,hb3⟩)
      go_roundw
      case rel=>exact⟨k+1,by omega,by go_num,fun j h1 h2 h=>by
       by_cases hjk:j<k
       ·exact HA.out j h1 h2 hjk
       ·obtain rfl:j=k:=by omega
        exact HU.out.symm,HBA.out.trans (hb3.mono HBA.out.size)⟩
      case measure=>simp[intOf];omega
   ·obtain rfl:k=n:=by omega
    have r:=hid (eqL_of (f:=letEqB) (HL.out.symm.trans HL2.out) fun j h1 h2=>HA.out j h1 h2 (by have:=HL.out;omega))
    go_wp2
    go_ret
    exact⟨retB r.out.symm,HBR.out⟩
 ·have q2':¬ (n:Int)=(n2:Int):=by omega
  go_wp2
  go_ret
  exact⟨retB (eqL_len (by rw[←HL.out,←HL2.out];exact q2)).symm,Below.refl _ _⟩
section
attribute [-go_sem] loadCellsFrom storeCells
attribute [local go_sem] lcf0 lcf1 lcf2 lcf3 lcf4 lcf5 lcf6 lcf7 stc0 stc1
theorem eqFnEf_call (a a2:Option Addr) (n c n2 c2:Nat) (l l2:List Ef) (w:World) (hd:IsRow efK (· < w.heap.size) w a n c l) (hd2:IsRow efK (· < w.heap.size) w a2 n2 c2 l2) :
 Calls Tryz.prog 52 #[.slice a n c,.slice a2 n2 c2,.func (.func 44) #[] #[]] w fun e w'=>e=.returned (.bool (eqL efEqS l l2))∧Below w.heap.size w w':=by
 have hen:∀args w,(callFunc 44 args).run Tryz.prog w=.ok (.enter 44 args) w:=enters_of Tryz.func44 (by kernel_rfl) rfl
 have hbig:=hd.big
 have hbig2:=hd2.big
 have HL:=hid hd.len
 have HL2:=hid hd2.len
 have HD:=hid hd
 have HD2:=hid hd2
 clear hd hd2
 go_enter Tryz.func52,Tryz.ntmps52
 by_cases q2:n=n2
 ·subst q2
  go_wp2
  go_loopw [17] (fun i wr=>∃k:Nat,k≤n∧i=.int .i64 k∧(∀j (h1:j<l.length) (h2:j<l2.length),j<k→efEqS l[j] l2[j]=true)∧Below w.heap.size w wr) (fun i _=>n-(intOf i).toNat)
  case atStart=>exact⟨0,Nat.zero_le _,rfl,fun j _ _ h=>absurd h (Nat.not_lt_zero j),Below.refl _ _⟩
  case round =>
   obtain⟨k,hk,rfl,hall,hbr⟩:=hrel
   have HA:=hid hall
   clear hall
   obtain⟨wp,rfl⟩:∃w1:World,w1=wr:=⟨_,rfl⟩
   have HBR:=hid hbr
   have hn63:(n:Int)≤9223372036854775807:=by omega
   by_cases hlt:k<n
   ·have hkl:k<l.length:=by have:=HL.out;omega
    have hkl2:k<l2.length:=by have:=HL2.out;omega
    obtain⟨b,o,rfl,hb,hx⟩:=HD.out.slot (show 0<n by omega)
    obtain⟨b2,o2,rfl,hb2,hy⟩:=HD2.out.slot (show 0<n by omega)
    obtain⟨x,hxa,hxi⟩:=hx k hkl
    obtain⟨y,hya,hyi⟩:=hy k hkl2
    clear hx hy
    have hld:=ld_ef (o:=o+k * 18) (hxa.same (hbr.block b hb))
    have hst:=fun z hz=>st_ef wp z hz x
    have hld2:=ld_ef (w:=wp.alloc (.cells #[.int .i64 x.k,.string x.nm,.int .i64 x.nu,.string x.tx,.int .i64 x.st.e,.slice x.st.a x.st.n x.st.c,.int .i64 x.rs.e,.slice x.rs.a x.rs.n x.rs.c,.string x.sv,.int .i64 x.ca,.bool x.un,.int .i64 x.bd.k,.int .i64 x.bd.i,.int .i64 x.bd.s,.string x.bd.t,.slice x.bd.la x.bd.ll x.bd.lc,.slice x.bd.fa x.bd.fl x.bd.fc,.string x.nd] 75)) (o:=o2+k * 18) (hya.same ((Below.heap_alloc _ _ _ (by have:=hbr.size;omega)).trans (hbr.block b2 hb2)))
    have hst2:=fun z hz=>st_ef (wp.alloc (.cells #[.int .i64 x.k,.string x.nm,.int .i64 x.nu,.string x.tx,.int .i64 x.st.e,.slice x.st.a x.st.n x.st.c,.int .i64 x.rs.e,.slice x.rs.a x.rs.n x.rs.c,.string x.sv,.int .i64 x.ca,.bool x.un,.int .i64 x.bd.k,.int .i64 x.bd.i,.int .i64 x.bd.s,.string x.bd.t,.slice x.bd.la x.bd.ll x.bd.lc,.slice x.bd.fa x.bd.fl x.bd.fc,.string x.nd] 75)) z hz y
    have hln:=ldn_ef (wp.alloc (.cells #[.int .i64 x.k,.string x.nm,.int .i64 x.nu,.string x.tx,.int .i64 x.st.e,.slice x.st.a x.st.n x.st.c,.int .i64 x.rs.e,.slice x.rs.a x.rs.n x.rs.c,.string x.sv,.int .i64 x.ca,.bool x.un,.int .i64 x.bd.k,.int .i64 x.bd.i,.int .i64 x.bd.s,.string x.bd.t,.slice x.bd.la x.bd.ll x.bd.lc,.slice x.bd.fa x.bd.fl x.bd.fc,.string x.nd] 75)) y
    have hsz:(wp.alloc (.cells #[.int .i64 x.k,.string x.nm,.int .i64 x.nu,.string x.tx,.int .i64 x.st.e,.slice x.st.a x.st.n x.st.c,.int .i64 x.rs.e,.slice x.rs.a x.rs.n x.rs.c,.string x.sv,.int .i64 x.ca,.bool x.un,.int .i64 x.bd.k,.int .i64 x.bd.i,.int .i64 x.bd.s,.string x.bd.t,.slice x.bd.la x.bd.ll x.bd.lc,.slice x.bd.fa x.bd.fl x.bd.fc,.string x.nd] 75)).heap.size=wp.heap.size+1:=by simp
    rw[hsz] at hst2 hln
    have hl1:=ld_ef (w:=(wp.alloc (.cells #[.int .i64 x.k,.string x.nm,.int .i64 x.nu,.string x.tx,.int .i64 x.st.e,.slice x.st.a x.st.n x.st.c,.int .i64 x.rs.e,.slice x.rs.a x.rs.n x.rs.c,.string x.sv,.int .i64 x.ca,.bool x.un,.int .i64 x.bd.k,.int .i64 x.bd.i,.int .i64 x.bd.s,.string x.bd.t,.slice x.bd.la x.bd.ll x.bd.lc,.slice x.bd.fa x.bd.fl x.bd.fc,.string x.nd] 75)).alloc (.cells #[.int .i64 y.k,.string y.nm,.int .i64 y.nu,.string y.tx,.int .i64 y.st.e,.slice y.st.a y.st.n y.st.c,.int .i64 y.rs.e,.slice y.rs.a y.rs.n y.rs.c,.string y.sv,.int .i64 y.ca,.bool y.un,.int .i64 y.bd.k,.int .i64 y.bd.i,.int .i64 y.bd.s,.string y.bd.t,.slice y.bd.la y.bd.ll y.bd.lc,.slice y.bd.fa y.bd.fl y.bd.fc,.string y.nd] 75)) (b:=wp.heap.size) (o:=0) (c:=x) (at_ef' (heapAlloc _ (heap_alloc_new wp (.cells #[.int .i64 x.k,.string x.nm,.int .i64 x.nu,.string x.tx,.int .i64 x.st.e,.slice x.st.a x.st.n x.st.c,.int .i64 x.rs.e,.slice x.rs.a x.rs.n x.rs.c,.string x.sv,.int .i64 x.ca,.bool x.un,.int .i64 x.bd.k,.int .i64 x.bd.i,.int .i64 x.bd.s,.string x.bd.t,.slice x.bd.la x.bd.ll x.bd.lc,.slice x.bd.fa x.bd.fl x.bd.fc,.string x.nd] 75))))
    dsimp only[EfC.cs] at hld hst hld2 hst2 hln hl1
    clear hsz
    have hlt':(k:Int)<(n:Int):=by omega
    have hk0:(0:Int)≤(k:Int):=by omega
    obtain⟨u,hu⟩:∃u,u=efEqS l[k] l2[k]:=⟨_,rfl⟩
    have hba:Below w.heap.size w ((wp.alloc (.cells #[.int .i64 x.k,.string x.nm,.int .i64 x.nu,.string x.tx,.int .i64 x.st.e,.slice x.st.a x.st.n x.st.c,.int .i64 x.rs.e,.slice x.rs.a x.rs.n x.rs.c,.string x.sv,.int .i64 x.ca,.bool x.un,.int .i64 x.bd.k,.int .i64 x.bd.i,.int .i64 x.bd.s,.string x.bd.t,.slice x.bd.la x.bd.ll x.bd.lc,.slice x.bd.fa x.bd.fl x.bd.fc,.string x.nd] 75)).alloc (.cells #[.int .i64 y.k,.string y.nm,.int .i64 y.nu,.string y.tx,.int .i64 y.st.e,.slice y.st.a y.st.n y.st.c,.int .i64 y.rs.e,.slice y.rs.a y.rs.n y.rs.c,.string y.sv,.int .i64 y.ca,.bool y.un,.int .i64 y.bd.k,.int .i64 y.bd.i,.int .i64 y.bd.s,.string y.bd.t,.slice y.bd.la y.bd.ll y.bd.lc,.slice y.bd.fa y.bd.fl y.bd.fc,.string y.nd] 75)):=(hbr.alloc hbr.size _).alloc (by have:=hbr.size;simp;omega) _
    have HC:Hid (Calls Tryz.prog 44 #[.agg #[.int .i64 x.k,.string x.nm,.int .i64 x.nu,.string x.tx,.int .i64 x.st.e,.slice x.st.a x.st.n x.st.c,.int .i64 x.rs.e,.slice x.rs.a x.rs.n x.rs.c,.string x.sv,.int .i64 x.ca,.bool x.un,.int .i64 x.bd.k,.int .i64 x.bd.i,.int .i64 x.bd.s,.string x.bd.t,.slice x.bd.la x.bd.ll x.bd.lc,.slice x.bd.fa x.bd.fl x.bd.fc,.string x.nd],.agg #[.int .i64 y.k,.string y.nm,.int .i64 y.nu,.string y.tx,.int .i64 y.st.e,.slice y.st.a y.st.n y.st.c,.int .i64 y.rs.e,.slice y.rs.a y.rs.n y.rs.c,.string y.sv,.int .i64 y.ca,.bool y.un,.int .i64 y.bd.k,.int .i64 y.bd.i,.int .i64 y.bd.s,.string y.bd.t,.slice y.bd.la y.bd.ll y.bd.lc,.slice y.bd.fa y.bd.fl y.bd.fc,.string y.nd]] ((wp.alloc (.cells #[.int .i64 x.k,.string x.nm,.int .i64 x.nu,.string x.tx,.int .i64 x.st.e,.slice x.st.a x.st.n x.st.c,.int .i64 x.rs.e,.slice x.rs.a x.rs.n x.rs.c,.string x.sv,.int .i64 x.ca,.bool x.un,.int .i64 x.bd.k,.int .i64 x.bd.i,.int .i64 x.bd.s,.string x.bd.t,.slice x.bd.la x.bd.ll x.bd.lc,.slice x.bd.fa x.bd.fl x.bd.fc,.string x.nd] 75)).alloc (.cells #[.int .i64 y.k,.string y.nm,.int .i64 y.nu,.string y.tx,.int .i64 y.st.e,.slice y.st.a y.st.n y.st.c,.int .i64 y.rs.e,.slice y.rs.a y.rs.n y.rs.c,.string y.sv,.int .i64 y.ca,.bool y.un,.int .i64 y.bd.k,.int .i64 y.bd.i,.int .i64 y.bd.s,.string y.bd.t,.slice y.bd.la y.bd.ll y.bd.lc,.slice y.bd.fa y.bd.fl y.bd.fc,.string y.nd] 75)) fun e w'=>e=.returned (.bool u)∧Below ((wp.alloc (.cells #[.int .i64 x.k,.string x.nm,.int .i64 x.nu,.string x.tx,.int .i64 x.st.e,.slice x.st.a x.st.n x.st.c,.int .i64 x.rs.e,.slice x.rs.a x.rs.n x.rs.c,.string x.sv,.int .i64 x.ca,.bool x.un,.int .i64 x.bd.k,.int .i64 x.bd.i,.int .i64 x.bd.s,.string x.bd.t,.slice x.bd.la x.bd.ll x.bd.lc,.slice x.bd.fa x.bd.fl x.bd.fc,.string x.nd] 75)).alloc (.cells #[.int .i64 y.k,.string y.nm,.int .i64 y.nu,.string y.tx,.int .i64 y.st.e,.slice y.st.a y.st.n y.st.c,.int .i64 y.rs.e,.slice y.rs.a y.rs.n y.rs.c,.string y.sv,.int .i64 y.ca,.bool y.un,.int .i64 y.bd.k,.int .i64 y.bd.i,.int .i64 y.bd.s,.string y.bd.t,.slice y.bd.la y.bd.ll y.bd.lc,.slice y.bd.fa y.bd.fl y.bd.fc,.string y.nd] 75)).heap.size ((wp.alloc (.cells #[.int .i64 x.k,.string x.nm,.int .i64 x.nu,.string x.tx,.int .i64 x.st.e,.slice x.st.a x.st.n x.st.c,.int .i64 x.rs.e,.slice x.rs.a x.rs.n x.rs.c,.string x.sv,.int .i64 x.ca,.bool x.un,.int .i64 x.bd.k,.int .i64 x.bd.i,.int .i64 x.bd.s,.string x.bd.t,.slice x.bd.la x.bd.ll x.bd.lc,.slice x.bd.fa x.bd.fl x.bd.fc,.string x.nd] 75)).alloc (.cells #[.int .i64 y.k,.string y.nm,.int .i64 y.nu,.string y.tx,.int .i64 y.st.e,.slice y.st.a y.st.n y.st.c,.int .i64 y.rs.e,.slice y.rs.a y.rs.n y.rs.c,.string y.sv,.int .i64 y.ca,.bool y.un,.int .i64 y.bd.k,.int .i64 y.bd.i,.int .i64 y.bd.s,.string y.bd.t,.slice y.bd.la y.bd.ll y.bd.lc,.slice y.bd.fa y.bd.fl y.bd.fc,.string y.nd] 75)) w'):=hid (by
     rw[hu]
     have hs:=hba.size
     exact efEq_call x y l[k] l2[k] ((wp.alloc (.cells #[.int .i64 x.k,.string x.nm,.int .i64 x.nu,.string x.tx,.int .i64 x.st.e,.slice x.st.a x.st.n x.st.c,.int .i64 x.rs.e,.slice x.rs.a x.rs.n x.rs.c,.string x.sv,.int .i64 x.ca,.bool x.un,.int .i64 x.bd.k,.int .i64 x.bd.i,.int .i64 x.bd.s,.string x.bd.t,.slice x.bd.la x.bd.ll x.bd.lc,.slice x.bd.fa x.bd.fl x.bd.fc,.string x.nd] 75)).alloc (.cells #[.int .i64 y.k,.string y.nm,.int .i64 y.nu,.string y.tx,.int .i64 y.st.e,.slice y.st.a y.st.n y.st.c,.int .i64 y.rs.e,.slice y.rs.a y.rs.n y.rs.c,.string y.sv,.int .i64 y.ca,.bool y.un,.int .i64 y.bd.k,.int .i64 y.bd.i,.int .i64 y.bd.s,.string y.bd.t,.slice y.bd.la y.bd.ll y.bd.lc,.slice y.bd.fa y.bd.fl y.bd.fc,.string y.nd] 75)) (efK.same (fun b q=>⟨by omega,hba.block b q⟩) hxi) (efK.same (fun b q=>⟨by omega,hba.block b q⟩) hyi))
    have HBA:=hid hba
    have HU:=hid hu
    clear hu hba hxa hya hxi hyi hbr hb hb2
    cases u with
    | false =>
      go_wp2_with (go_at_call 44;refine HC.out.mono ?_;rintro e w3 ⟨rfl,hb3⟩)
      go_ret
      exact⟨retB (eqL_ne k hkl hkl2 HU.out.symm).symm,HBA.out.trans (hb3.mono HBA.out.size)⟩
    | true =>
      go_wp2_with (go_at_call 44;refine HC.out.mono ?_;rintro e w3 ⟨rfl,hb3⟩)
      go_roundw
      case rel=>exact⟨k+1,by omega,by go_num,fun j h1 h2 h=>by
       by_cases hjk:j<k
       ·exact HA.out j h1 h2 hjk
       ·obtain rfl:j=k:=by omega
        exact HU.out.symm,HBA.out.trans (hb3.mono HBA.out.size)⟩
      case measure=>simp[intOf];omega
   ·obtain rfl:k=n:=by omega
    have r:=hid (eqL_of (f:=efEqS) (HL.out.symm.trans HL2.out) fun j h1 h2=>HA.out j h1 h2 (by have:=HL.out;omega))
    go_wp2
    go_ret
    exact⟨retB r.out.symm,HBR.out⟩
 ·have q2':¬ (n:Int)=(n2:Int):=by omega
  go_wp2
  go_ret
  exact⟨retB (eqL_len (by rw[←HL.out,←HL2.out];exact q2)).symm,Below.refl _ _⟩
end
end Go.Proofs.YteladbdfiannjaaGreatDoor
