/- A part. -/
import Derived.Test.YteladbdfiannjaaGreatDoorSX40Mrg
import Derived.Test.YteladbdfiannjaaGreatDoorSX41Mrg
import Derived.Test.YteladbdfiannjaaGreatDoorSX44Mrg
namespace Go.Proofs.YteladbdfiannjaaGreatDoor
set_option linter.unusedVariables false
set_option maxRecDepth 100000
set_option maxHeartbeats 64000000
set_option linter.unusedSimpArgs false
open Go Go.RowKit Go.Shelf
theorem kW (v:Nat) (c:SnC) (d:Snp) (w:World) (u:Int) (t:ByteArray) (hu:u≠0) (h:∀w',Below w.heap.size w w'→Calls Tryz.prog 21 #[c.w] w' fun e w2=>e=.returned (.tuple #[.string t,.int .i64 u])∧Below w'.heap.size w' w2) :
 Calls Tryz.prog 12 #[.pointer (some ⟨v,0,none⟩),c.w] w fun e w'=>e=.returned (.int .i64 u)∧Below w.heap.size w w':=by
 obtain⟨W1,hW1⟩:∃W1,W1=(w.alloc (.cells #[.pointer (some ⟨v,0,none⟩)] 45)).alloc (.cells #[.int .i64 c.v,.int .i64 c.e,.int .i64 c.t,.slice c.na c.nl c.nc,.slice c.aa c.al c.ac,.slice c.sa c.sl c.sc,.slice c.qa c.ql c.qc,.slice c.la c.ll c.lc,.slice c.pa c.pl c.pc] 30):=⟨_,rfl⟩
 have hb1:Below w.heap.size w W1:=by rw[hW1];exact((bR w).alloc lr _).alloc (by simp) _
 have g0:W1.heap[w.heap.size]?=some (.cells #[.pointer (some ⟨v,0,none⟩)] 45):=by rw[hW1];exact aC _ (heap_alloc_new w _)
 have g1:W1.heap[w.heap.size+1]?=some (.cells #[.int .i64 c.v,.int .i64 c.e,.int .i64 c.t,.slice c.na c.nl c.nc,.slice c.aa c.al c.ac,.slice c.sa c.sl c.sc,.slice c.qa c.ql c.qc,.slice c.la c.ll c.lc,.slice c.pa c.pl c.pc] 30):=by rw[hW1];exact aM _ _ _ (by simp)
 have HE:=hid (h W1 hb1)
 have HB1:=hid hb1;have HW1:=hid hW1
 have hz1:(u != 0)=true:=by simp[hu]
 have p0:=aA g0 0
 have a0:=aA g1 0;have a1:=aA g1 1;have a2:=aA g1 2;have a3:=aA g1 3;have a4:=aA g1 4;have a5:=aA g1 5;have a6:=aA g1 6;have a7:=aA g1 7;have a8:=aA g1 8;(try dsimp only at a0 a1 a2 a3 a4 a5 a6 a7 a8)
 (try dsimp only at p0)
 clear h hb1 hW1 g0 g1 hu
 dsimp only[SnC.w] at HE ⊢
 go_enter Tryz.func12,Tryz.ntmps12
 go_upto_region 1 with (fail)
 rw[←HW1.out]
 go_wp2_with (go_at_call 21;refine HE.out.mono ?_;rintro e w2 ⟨rfl,hb2⟩;have HB2:=hid (HB1.out.trans (hb2.mono HB1.out.size));clear hb2)
 go_ret
 exact⟨rfl,HB2.out.alloc HB2.out.size _⟩
section
attribute [-go_sem] loadCellsFrom storeCells
attribute [local go_sem] aAf aAe aAd aAc aAb aAa aA9 aA8 aCs aCr zI zH aBy aBx aBw aBv aBu aBt aBs stc9
theorem oV (c:SnC) (d:Snp) (n:Int) (w:World) (hd:IsSn (· < w.heap.size) w c d) (hT:Tabs w) (hZ:ZTab w) (hN:NumVars w):Calls Tryz.prog 5 #[c.w,.int .i64 n] w fun e w'=>e=.returned (.bool true)∧Below w.heap.size w w':=by
 obtain⟨xb,hxb0⟩:∃xb,xb=w.heap.size:=⟨_,rfl⟩
 obtain⟨W0,hW0⟩:∃W0,W0=w.alloc (.cells #[.int .i64 c.v,.int .i64 c.e,.int .i64 c.t,.slice c.na c.nl c.nc,.slice c.aa c.al c.ac,.slice c.sa c.sl c.sc,.slice c.qa c.ql c.qc,.slice c.la c.ll c.lc,.slice c.pa c.pl c.pc] 30):=⟨_,rfl⟩
 have hb0:Below w.heap.size w W0:=by rw[hW0];exact(bR w).alloc lr _
 have hx0:W0.heap[xb]?=some (.cells #[.int .i64 c.v,.int .i64 c.e,.int .i64 c.t,.slice c.na c.nl c.nc,.slice c.aa c.al c.ac,.slice c.sa c.sl c.sc,.slice c.qa c.ql c.qc,.slice c.la c.ll c.lc,.slice c.pa c.pl c.pc] 30):=by rw[hW0,hxb0];exact heap_alloc_new w _
 have hz0:W0.heap.size=xb+1:=by rw[hW0,hxb0];simp
 have HSH:=hid (wT c d W0 (hd.same fun b hb=>⟨by omega,hb0.block b hb⟩))
 have HX0:=hid hx0;have HB0:=hid hb0;have HZ0:=hid hz0;have HW0:=hid hW0;have HXB:=hid hxb0;have HT:=hid hT;have HN:=hid hN;have HZT:=hid hZ
 have d0:=aA hx0 0;have d1:=aA hx0 1;have d2:=aA hx0 2;have d3:=aA hx0 3;have d4:=aA hx0 4;have d5:=aA hx0 5;have d6:=aA hx0 6;have d7:=aA hx0 7;have d8:=aA hx0 8;(try dsimp only at d0 d1 d2 d3 d4 d5 d6 d7 d8)
 clear hd hx0 hb0 hz0 hW0 hxb0 hT hN hZ
 have HSZ:=hid (And.intro (tK d) (And.intro (aBq d) (fun (S:Nat→Prop) (w':World) (c':SnC) (h:IsSn S w' c' (fO d))=>tN d h)))
 obtain⟨shd,hshd⟩:∃x,x=fO d:=⟨_,rfl⟩
 rw[←hshd] at HSH HSZ
 clear hshd
 dsimp only[SnC.w] at HSH ⊢
 go_enter Tryz.func5,Tryz.ntmps5
 go_upto_region 1 with (fail)
 rw[←HW0.out,←HXB.out]
 go_upto_region 2 with (go_at_call 6;refine HSH.out.mono ?_;rintro e W1 ⟨c2,rfl,hb1,hi1⟩;have HX1:=hid (aB hb1 HX0.out);have HB1:=hid (HB0.out.trans (hb1.mono HB0.out.size));have HI1:=hid hi1;have HZ1:=hid hb1.size;have z0:=aA HX1.out 0;have y0:=aE HX1.out 0;have z1:=aA HX1.out 1;have y1:=aE HX1.out 1;have z2:=aA HX1.out 2;have y2:=aE HX1.out 2;have z3:=aA HX1.out 3;have y3:=aE HX1.out 3;have z4:=aA HX1.out 4;have y4:=aE HX1.out 4;have z5:=aA HX1.out 5;have y5:=aE HX1.out 5;have z6:=aA HX1.out 6;have y6:=aE HX1.out 6;have z7:=aA HX1.out 7;have y7:=aE HX1.out 7;have z8:=aA HX1.out 8;have y8:=aE HX1.out 8;(try dsimp only at z0 z1 z2 z3 z4 z5 z6 z7 z8);dsimp only[SnC.w];clear hb1 hi1 d0 d1 d2 d3 d4 d5 d6 d7 d8)
 clear z0 y0 z1 y1 z2 y2 z3 y3 z4 y4 z5 y5 z6 y6 z7 y7 z8 y8
 have hxb:w.heap.size≤xb:=by rw[HXB.out];exact Nat.le_refl _
 have hF:=(aD (o:=8) (.slice c2.pa c2.pl c2.pc) (aD (o:=7) (.slice c2.la c2.ll c2.lc) (aD (o:=6) (.slice c2.qa c2.ql c2.qc) (aD (o:=5) (.slice c2.sa c2.sl c2.sc) (aD (o:=4) (.slice c2.aa c2.al c2.ac) (aD (o:=3) (.slice c2.na c2.nl c2.nc) (aD (o:=2) (.int .i64 c2.t) (aD (o:=1) (.int .i64 c2.e) (aD (o:=0) (.int .i64 c2.v) HX1.out)))))))))
 simp only[List.setIfInBounds_toArray,List.set_cons_zero,List.set_cons_succ] at hF
 have hO:∀q,q≠xb→(((((((((W1.setCell ⟨xb,0,none⟩ (.int .i64 c2.v)).setCell ⟨xb,1,none⟩ (.int .i64 c2.e)).setCell ⟨xb,2,none⟩ (.int .i64 c2.t)).setCell ⟨xb,3,none⟩ (.slice c2.na c2.nl c2.nc)).setCell ⟨xb,4,none⟩ (.slice c2.aa c2.al c2.ac)).setCell ⟨xb,5,none⟩ (.slice c2.sa c2.sl c2.sc)).setCell ⟨xb,6,none⟩ (.slice c2.qa c2.ql c2.qc)).setCell ⟨xb,7,none⟩ (.slice c2.la c2.ll c2.lc)).setCell ⟨xb,8,none⟩ (.slice c2.pa c2.pl c2.pc)).heap[q]?=W1.heap[q]?:=fun q hq=>((Below.heap_setCell _ _ _ _ (by exact hq)).trans ((Below.heap_setCell _ _ _ _ (by exact hq)).trans ((Below.heap_setCell _ _ _ _ (by exact hq)).trans ((Below.heap_setCell _ _ _ _ (by exact hq)).trans ((Below.heap_setCell _ _ _ _ (by exact hq)).trans ((Below.heap_setCell _ _ _ _ (by exact hq)).trans ((Below.heap_setCell _ _ _ _ (by exact hq)).trans ((Below.heap_setCell _ _ _ _ (by exact hq)).trans (Below.heap_setCell _ _ _ _ (by exact hq))))))))))
 have hZ:(((((((((W1.setCell ⟨xb,0,none⟩ (.int .i64 c2.v)).setCell ⟨xb,1,none⟩ (.int .i64 c2.e)).setCell ⟨xb,2,none⟩ (.int .i64 c2.t)).setCell ⟨xb,3,none⟩ (.slice c2.na c2.nl c2.nc)).setCell ⟨xb,4,none⟩ (.slice c2.aa c2.al c2.ac)).setCell ⟨xb,5,none⟩ (.slice c2.sa c2.sl c2.sc)).setCell ⟨xb,6,none⟩ (.slice c2.qa c2.ql c2.qc)).setCell ⟨xb,7,none⟩ (.slice c2.la c2.ll c2.lc)).setCell ⟨xb,8,none⟩ (.slice c2.pa c2.pl c2.pc)).heap.size=W1.heap.size:=by simp[World.setCell]
 have hB2:Below w.heap.size w (((((((((W1.setCell ⟨xb,0,none⟩ (.int .i64 c2.v)).setCell ⟨xb,1,none⟩ (.int .i64 c2.e)).setCell ⟨xb,2,none⟩ (.int .i64 c2.t)).setCell ⟨xb,3,none⟩ (.slice c2.na c2.nl c2.nc)).setCell ⟨xb,4,none⟩ (.slice c2.aa c2.al c2.ac)).setCell ⟨xb,5,none⟩ (.slice c2.sa c2.sl c2.sc)).setCell ⟨xb,6,none⟩ (.slice c2.qa c2.ql c2.qc)).setCell ⟨xb,7,none⟩ (.slice c2.la c2.ll c2.lc)).setCell ⟨xb,8,none⟩ (.slice c2.pa c2.pl c2.pc)):=(((((((((HB1.out.setCell (p:=⟨xb,0,none⟩) hxb _).setCell (p:=⟨xb,1,none⟩) hxb _).setCell (p:=⟨xb,2,none⟩) hxb _).setCell (p:=⟨xb,3,none⟩) hxb _).setCell (p:=⟨xb,4,none⟩) hxb _).setCell (p:=⟨xb,5,none⟩) hxb _).setCell (p:=⟨xb,6,none⟩) hxb _).setCell (p:=⟨xb,7,none⟩) hxb _).setCell (p:=⟨xb,8,none⟩) hxb _)
 obtain⟨W2,hW2⟩:∃W2,W2=(((((((((W1.setCell ⟨xb,0,none⟩ (.int .i64 c2.v)).setCell ⟨xb,1,none⟩ (.int .i64 c2.e)).setCell ⟨xb,2,none⟩ (.int .i64 c2.t)).setCell ⟨xb,3,none⟩ (.slice c2.na c2.nl c2.nc)).setCell ⟨xb,4,none⟩ (.slice c2.aa c2.al c2.ac)).setCell ⟨xb,5,none⟩ (.slice c2.sa c2.sl c2.sc)).setCell ⟨xb,6,none⟩ (.slice c2.qa c2.ql c2.qc)).setCell ⟨xb,7,none⟩ (.slice c2.la c2.ll c2.lc)).setCell ⟨xb,8,none⟩ (.slice c2.pa c2.pl c2.pc)):=⟨_,rfl⟩
 rw[←hW2] at hF hO hZ hB2 ⊢
 have hi2:∀w',Below W2.heap.size W2 w'→IsSn (· < w'.heap.size) w' c2 shd:=fun w' h=>HI1.out.same fun b hb=>⟨by have:=h.size;omega,(h.block b (by omega)).trans (hO b (by have:=HZ0.out;omega))⟩
 have HK:=hid (fun (w':World) (h:Below W2.heap.size W2 w')=>rV w' ((HT.out.below hB2).below h) ((HN.out.below hB2).below h))
 obtain⟨tx,htx⟩:∃t,t=(gT shd).1:=⟨_,rfl⟩
 obtain⟨u,hu⟩:∃t,t=(gT shd).2:=⟨_,rfl⟩
 have HLE:=hid (fun (w':World) (h:Below W2.heap.size W2 w')=>(show Calls Tryz.prog 17 #[c2.w] w' fun e w2=>e=.returned (.tuple #[.string tx,.int .i64 u])∧Below w'.heap.size w' w2 from by
  rw[htx,hu]
  exact lX c2 shd w' (hi2 w' h) ((HT.out.below hB2).below h) ((HZT.out.below hB2).below h) HSZ.out.1 HSZ.out.2.1 (fun h0=>Nat.le_trans (HSZ.out.2.2 _ _ _ (hi2 w' h) h0) (by decide))))
 have HPE:=hid (fun (w':World) (h:Below W2.heap.size W2 w')=>(show Calls Tryz.prog 21 #[c2.w] w' fun e w2=>e=.returned (.tuple #[.string tx,.int .i64 u])∧Below w'.heap.size w' w2 from by
  rw[htx,hu]
  exact oW c2 shd w' (hi2 w' h) ((HT.out.below hB2).below h) ((HZT.out.below hB2).below h) HSZ.out.1 HSZ.out.2.1 (fun h0=>HSZ.out.2.2 _ _ _ (hi2 w' h) h0)))
 have HX2:=hid hF
 have HB2:=hid hB2
 have d0:=aA hF 0;have d1:=aA hF 1;have d2:=aA hF 2;have d3:=aA hF 3;have d4:=aA hF 4;have d5:=aA hF 5;have d6:=aA hF 6;have d7:=aA hF 7;have d8:=aA hF 8;(try dsimp only at d0 d1 d2 d3 d4 d5 d6 d7 d8)
 dsimp only[SnC.w] at HLE
 clear hF hO hZ hB2 hW2 hi2 htx hu HSZ
 have F1:Hid True:=trivial
 have F2:Hid True:=trivial
 go_upto_region 7 with (first
  | (go_at_call 12;clear F1;refine(rL c2 W2).mono ?_;rintro e w3 ⟨rfl,hbw3⟩;have B3:=hid ((Below.refl W2.heap.size W2).trans (hbw3.mono (Below.refl W2.heap.size W2).size));clear hbw3)
  | (go_at_call 13;refine(rR n w3).mono ?_;rintro e w4 ⟨rfl,hbw4⟩;have B4:=hid ((B3.out).trans (hbw4.mono (B3.out).size));clear hbw4)
  | (go_at_call 14;refine(rT _).mono ?_;rintro e w5 ⟨rfl,hw5⟩;rw[hw5];clear hw5)
  | (go_at_call 15;clear F2;refine(pO n _).mono ?_;rintro e w6 ⟨rfl,hb6⟩;have B6:=hid ((B4.out.alloc B4.out.size _).trans (hb6.mono (B4.out.alloc B4.out.size _).size));clear hb6)
  | (go_at_call 16;refine(zS w6).mono ?_;rintro e w7 ⟨rfl,hw7⟩;have HW7:=hid hw7;clear hw7))
 have HQD:Hid (QDev w7 (w6.heap.size+1) w6.heap.size):=hid ⟨by rw[HW7.out];exact aM _ _ _ (by simp),by rw[HW7.out];exact(World.ownsMap_made w6 _ _ _).alloc _⟩
 have B7:Hid (Below W2.heap.size W2 w7):=hid (by rw[HW7.out];exact(B6.out.alloc B6.out.size _).alloc (by have:=B6.out.size;simp;omega) _)
 clear d0 d1 d2 d3 d4 d5 d6 d7 d8
 go_upto_region 9 with (go_at_call 7;refine(HK.out _ B7.out).mono ?_;rintro e w8 ⟨rfl,hb8⟩;have B8:=hid (B7.out.trans (hb8.mono B7.out.size));have HQ8:=hid (HQD.out.below hb8);have hx8:=aB B8.out HX2.out;have d0:=aA hx8 0;have d1:=aA hx8 1;have d2:=aA hx8 2;have d3:=aA hx8 3;have d4:=aA hx8 4;have d5:=aA hx8 5;have d6:=aA hx8 6;have d7:=aA hx8 7;have d8:=aA hx8 8;(try dsimp only at d0 d1 d2 d3 d4 d5 d6 d7 d8);clear hb8 hx8)
 go_upto_region 10 with (go_at_call 17;refine(HLE.out _ B8.out).mono ?_;rintro e w9 ⟨rfl,hb9⟩;have B9:=hid (B8.out.trans (hb9.mono B8.out.size));have HQ9:=hid (HQ8.out.below hb9);have hx9:=aB B9.out HX2.out;clear d0 d1 d2 d3 d4 d5 d6 d7 d8;have d0:=aA hx9 0;have d1:=aA hx9 1;have d2:=aA hx9 2;have d3:=aA hx9 3;have d4:=aA hx9 4;have d5:=aA hx9 5;have d6:=aA hx9 6;have d7:=aA hx9 7;have d8:=aA hx9 8;(try dsimp only at d0 d1 d2 d3 d4 d5 d6 d7 d8);clear hb9 hx9)
 by_cases hin:inQ n 0 1048576=true
 ·have hn2:0≤n∧n≤1048576:=by unfold inQ at hin;simpa using hin
  have hn3:¬ n<0:=by omega
  have hn4:¬ 1048576<n:=by omega
  have HCL:=hid (fun (w':World) (h:QDev w' (w6.heap.size+1) w6.heap.size)=>vA _ _ n hin w' h)
  clear hin hn2
  by_cases hu0:u=0
  ·have hu1:(u != 0)=false:=by simp[hu0]
   clear hu0
   go_wp2_with (go_at_call 15;refine(HCL.out _ HQ9.out).mono ?_;rintro e w11 ⟨rfl,hb11⟩)
   go_ret
   exact⟨rfl,HB2.out.trans ((B9.out.trans (hb11.mono B9.out.size)).mono HB2.out.size)⟩
  ·have hu1:(u != 0)=true:=by simp[hu0]
   have HSE:=hid (kW (w6.heap.size+1) c2 shd w9 u tx hu0 (fun w' h=>HPE.out w' (B9.out.trans (h.mono B9.out.size))))
   dsimp only[SnC.w] at HSE
   clear hu0
   go_wp2_with (first
    | (go_at_call 12;refine HSE.out.mono ?_;rintro e w10 ⟨rfl,hb10⟩;have B10:=hid (B9.out.trans (hb10.mono B9.out.size));have HQ10:=hid (HQ9.out.below hb10);clear hb10)
    | (go_at_call 15;refine(HCL.out _ HQ10.out).mono ?_;rintro e w11 ⟨rfl,hb11⟩))
   go_ret
   exact⟨rfl,HB2.out.trans ((B10.out.trans (hb11.mono B10.out.size)).mono HB2.out.size)⟩
 ·have hin2:inQ n 0 1048576=false:=by simpa using hin
  have hn2:n<0∨1048576<n:=by unfold inQ at hin2;by_cases h1:n<0;exact .inl h1;right;simp at hin2;omega
  have HCL:=hid (fun (w':World)=>pP (w6.heap.size+1) n hin2 w')
  clear hin hin2
  by_cases hu0:u=0
  ·have hu1:(u != 0)=false:=by simp[hu0]
   clear hu0
   rcases hn2 with hn3 | hn3
   ·go_wp2_with (go_at_call 15;refine(HCL.out _).mono ?_;rintro e w11 ⟨rfl,hb11⟩)
    go_ret
    exact⟨rfl,HB2.out.trans ((B9.out.trans (hb11.mono B9.out.size)).mono HB2.out.size)⟩
   ·have hn4:¬ n<0:=by omega
    go_wp2_with (go_at_call 15;refine(HCL.out _).mono ?_;rintro e w11 ⟨rfl,hb11⟩)
    go_ret
    exact⟨rfl,HB2.out.trans ((B9.out.trans (hb11.mono B9.out.size)).mono HB2.out.size)⟩
  ·have hu1:(u != 0)=true:=by simp[hu0]
   have HSE:=hid (kW (w6.heap.size+1) c2 shd w9 u tx hu0 (fun w' h=>HPE.out w' (B9.out.trans (h.mono B9.out.size))))
   dsimp only[SnC.w] at HSE
   clear hu0
   rcases hn2 with hn3 | hn3
   ·go_wp2_with (first
     | (go_at_call 12;refine HSE.out.mono ?_;rintro e w10 ⟨rfl,hb10⟩;have B10:=hid (B9.out.trans (hb10.mono B9.out.size));clear hb10)
     | (go_at_call 15;refine(HCL.out _).mono ?_;rintro e w11 ⟨rfl,hb11⟩))
    go_ret
    exact⟨rfl,HB2.out.trans ((B10.out.trans (hb11.mono B10.out.size)).mono HB2.out.size)⟩
   ·have hn4:¬ n<0:=by omega
    go_wp2_with (first
     | (go_at_call 12;refine HSE.out.mono ?_;rintro e w10 ⟨rfl,hb10⟩;have B10:=hid (B9.out.trans (hb10.mono B9.out.size));clear hb10)
     | (go_at_call 15;refine(HCL.out _).mono ?_;rintro e w11 ⟨rfl,hb11⟩))
    go_ret
    exact⟨rfl,HB2.out.trans ((B10.out.trans (hb11.mono B10.out.size)).mono HB2.out.size)⟩
end
end Go.Proofs.YteladbdfiannjaaGreatDoor
