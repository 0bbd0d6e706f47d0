/- A part. -/
import Derived.Test.YteladbdfiannjaaGreatDoorSX43Mrg
import Derived.Laws.StructEq
import Derived.Sort.AtCall
namespace Go.Proofs.YteladbdfiannjaaGreatDoor
set_option linter.unusedVariables false
set_option maxRecDepth 100000
set_option maxHeartbeats 64000000
set_option linter.unusedSimpArgs false
open Go Go.RowKit Go.Shelf
theorem pA (s:ByteArray) (n:Int) (g c g2 c2:Nat) (w:World) (hg:CntAt w g s n) (hg2:CntAt w g2 s n) :
 Calls Tryz.prog 119 #[.slice (some ⟨g,0,none⟩) 1 c,.slice (some ⟨g2,0,none⟩) 1 c2] w fun r w'=>r=.returned (.bool true)∧Below w.heap.size w w':=by
 have HA:Hid (CntAt w.drew g s n):=hid (hg.ext (bR w).drew)
 have HB:Hid (CntAt w.drew g2 s n):=hid (hg2.ext (bR w).drew)
 have HC:=hid (fun (w':World) (h:CntAt w' g s n∧CntAt w' g2 s n)=>(show w'.cell? ⟨g,0,none⟩=some (.string s)∧w'.cell? ⟨g,1,none⟩=some (.int .i64 n)∧w'.cell? ⟨g2,0,none⟩=some (.string s)∧w'.cell? ⟨g2,1,none⟩=some (.int .i64 n) from⟨h.1.c0,h.1.c1,h.2.c0,h.2.c1⟩))
 clear hg hg2
 go_enter Tryz.func119,Tryz.ntmps119
 go_wp2
 refine wp_loop_rounds 2 ?_
 rw[rounds_succ]
 go_upto_region 6 with (fail)
 refine wp_region_held_drew (S:=(fun w'=>CntAt w' g s n∧CntAt w' g2 s n)) (by kernel_rfl) (⟨HA.out,HB.out⟩) (fun hS=>?_)
 refine tkQ 0 (v:=?_) ?_ hS ?_;rotate_left;· intro w' hw';have hcells:=HC.out w' hw';go_simp;(try rfl)
 simp only[Act.put,pq]
 refine tkQ 1 (v:=?_) ?_ hS ?_;rotate_left;· intro w' hw';have hcells:=HC.out w' hw';go_simp;(try rfl)
 simp only[Act.put,pq]
 refine tkQ 2 (v:=?_) ?_ hS ?_;rotate_left;· intro w' hw';have hcells:=HC.out w' hw';go_simp;(try rfl)
 simp only[Act.put,pq]
 refine tkQ 3 (v:=?_) ?_ hS ?_;rotate_left;· intro w' hw';have hcells:=HC.out w' hw';go_simp;(try rfl)
 simp only[Act.put,pq]
 refine tkQ 4 (v:=?_) ?_ hS ?_;rotate_left;· intro w' hw';have hcells:=HC.out w' hw';go_simp;(try rfl)
 simp only[Act.put,pq]
 refine tkQ 5 (v:=?_) ?_ hS ?_;rotate_left;· intro w' hw';have hcells:=HC.out w' hw';go_simp;(try rfl)
 simp only[Act.put,pq]
 refine tkQ 6 (v:=?_) ?_ hS ?_;rotate_left;· intro w' hw';have hcells:=HC.out w' hw';go_simp;(try rfl)
 simp only[Act.put,pq]
 refine tkQ 7 (v:=?_) ?_ hS ?_;rotate_left;· intro w' hw';have hcells:=HC.out w' hw';go_simp;(try rfl)
 simp only[Act.put,pq]
 refine tkQ 8 (v:=?_) ?_ hS ?_;rotate_left;· intro w' hw';have hcells:=HC.out w' hw';go_simp;(try rfl)
 simp only[Act.put,pq]
 refine wpAnyH_done (by kernel_rfl) ?_ _
 (try dsimp only)
 clear hS
 go_wp2
 rw[rounds_succ]
 go_wp2
 go_ret
 exact⟨rfl,(bR w).drew⟩
theorem pB (w:World):Calls Tryz.prog 119 #[.slice none 0 0,.slice none 0 0] w fun r w'=>r=.returned (.bool true)∧w'=w:=by
 go_enter Tryz.func119,Tryz.ntmps119
 go_wp2
 refine wp_loop_rounds 1 ?_
 rw[rounds_succ]
 go_wp2
 go_ret
 exact⟨rfl,rfl⟩
theorem oZ (w:World):Calls Tryz.prog 54 #[.slice none 0 0,.slice none 0 0] w fun r w'=>r=.returned (.bool true)∧w'=w:=by
 go_enter Tryz.func54,Tryz.ntmps54
 go_wp2
 refine wp_loop_rounds 1 ?_
 rw[rounds_succ]
 go_wp2
 go_ret
 exact⟨rfl,rfl⟩
theorem oY (s:ByteArray) (v e t n:Int) (g c g2 c2:Nat) (w:World) (hg:CntAt w g s n) (hg2:CntAt w g2 s n) :
 Calls Tryz.prog 53 #[.agg #[.int .i64 v,.int .i64 e,.int .i64 t,.slice none 0 0,.slice (some ⟨g,0,none⟩) 1 c,.slice none 0 0,.slice none 0 0,.slice none 0 0],.agg #[.int .i64 v,.int .i64 e,.int .i64 t,.slice none 0 0,.slice (some ⟨g2,0,none⟩) 1 c2,.slice none 0 0,.slice none 0 0,.slice none 0 0]] w fun r w'=>r=.returned (.bool true)∧Below w.heap.size w w':=by
 obtain⟨W,hW⟩:∃W,W=(w.alloc (.cells #[.int .i64 v,.int .i64 e,.int .i64 t,.slice none 0 0,.slice (some ⟨g,0,none⟩) 1 c,.slice none 0 0,.slice none 0 0,.slice none 0 0] 27)).alloc (.cells #[.int .i64 v,.int .i64 e,.int .i64 t,.slice none 0 0,.slice (some ⟨g2,0,none⟩) 1 c2,.slice none 0 0,.slice none 0 0,.slice none 0 0] 27):=⟨_,rfl⟩
 have hbW:Below w.heap.size w W:=by rw[hW];exact((bR w).alloc lr _).alloc (by simp) _
 have g1:W.heap[w.heap.size]?=some (.cells #[.int .i64 v,.int .i64 e,.int .i64 t,.slice none 0 0,.slice (some ⟨g,0,none⟩) 1 c,.slice none 0 0,.slice none 0 0,.slice none 0 0] 27):=by rw[hW];exact aC _ (heap_alloc_new w _)
 have g3:W.heap[w.heap.size+1]?=some (.cells #[.int .i64 v,.int .i64 e,.int .i64 t,.slice none 0 0,.slice (some ⟨g2,0,none⟩) 1 c2,.slice none 0 0,.slice none 0 0,.slice none 0 0] 27):=by rw[hW];exact aM _ _ _ (by simp)
 have HS1:=hid (pA s n g c g2 c2 W (hg.ext hbW) (hg2.ext hbW))
 have HS0:=hid (fun w=>pB w)
 have a0:=aA g1 0
 have b0:=aA g3 0
 have a1:=aA g1 1
 have b1:=aA g3 1
 have a2:=aA g1 2
 have b2:=aA g3 2
 have a3:=aA g1 3
 have b3:=aA g3 3
 have a4:=aA g1 4
 have b4:=aA g3 4
 have a5:=aA g1 5
 have b5:=aA g3 5
 have a6:=aA g1 6
 have b6:=aA g3 6
 have a7:=aA g1 7
 have b7:=aA g3 7
 (try dsimp only at a0 b0 a1 b1 a2 b2 a3 b3 a4 b4 a5 b5 a6 b6 a7 b7)
 have G1:=hid g1
 have G3:=hid g3
 have HW:=hid hW
 have HBW:=hid hbW
 clear hg hg2 g1 g3 hW hbW
 go_enter Tryz.func53,Tryz.ntmps53
 go_upto_region 1 with (fail)
 rw[←HW.out]
 go_upto_region 3 with (first
  | (go_at_call_has 119 (Value.slice none 0 0);refine(HS0.out _).mono ?_;rintro r w4 ⟨rfl,hw4⟩;rw[hw4];clear hw4)
  | (go_at_call 119;refine HS1.out.mono ?_;rintro r w3 ⟨rfl,hb3⟩;have x3:=aA (aB hb3 G1.out) 3;have y3:=aA (aB hb3 G3.out) 3;have x5:=aA (aB hb3 G1.out) 5;have y5:=aA (aB hb3 G3.out) 5;have x6:=aA (aB hb3 G1.out) 6;have y6:=aA (aB hb3 G3.out) 6;have x7:=aA (aB hb3 G1.out) 7;have y7:=aA (aB hb3 G3.out) 7;(try dsimp only at x3 y3 x5 y5 x6 y6 x7 y7);have HB3:=hid hb3;clear hb3))
 clear a0 b0 a1 b1 a2 b2 a3 b3 a4 b4 a5 b5 a6 b6 a7 b7
 go_wp2
 refine wp_loop_rounds 1 ?_
 rw[rounds_succ]
 go_wp2
 refine wp_loop_rounds 1 ?_
 rw[rounds_succ]
 go_wp2
 refine wp_loop_rounds 1 ?_
 rw[rounds_succ]
 go_wp2
 go_ret
 exact⟨rfl,HBW.out.trans (HB3.out.mono HBW.out.size)⟩
theorem wU (s:ByteArray) (v e t n:Int) (g c g2 c2:Nat) (w:World) (hg:CntAt w g s n) (hg2:CntAt w g2 s n) :
 Calls Tryz.prog 11 #[.agg #[.int .i64 v,.int .i64 e,.int .i64 t,.slice none 0 0,.slice (some ⟨g,0,none⟩) 1 c,.slice none 0 0,.slice none 0 0,.slice none 0 0,.slice none 0 0],.agg #[.int .i64 v,.int .i64 e,.int .i64 t,.slice none 0 0,.slice (some ⟨g2,0,none⟩) 1 c2,.slice none 0 0,.slice none 0 0,.slice none 0 0,.slice none 0 0]] w fun r w'=>r=.returned (.bool true)∧Below w.heap.size w w':=by
 obtain⟨W,hW⟩:∃W,W=(w.alloc (.cells #[.int .i64 v,.int .i64 e,.int .i64 t,.slice none 0 0,.slice (some ⟨g,0,none⟩) 1 c,.slice none 0 0,.slice none 0 0,.slice none 0 0,.slice none 0 0] 30)).alloc (.cells #[.int .i64 v,.int .i64 e,.int .i64 t,.slice none 0 0,.slice (some ⟨g2,0,none⟩) 1 c2,.slice none 0 0,.slice none 0 0,.slice none 0 0,.slice none 0 0] 30):=⟨_,rfl⟩
 have hbW:Below w.heap.size w W:=by rw[hW];exact((bR w).alloc lr _).alloc (by simp) _
 have g1:W.heap[w.heap.size]?=some (.cells #[.int .i64 v,.int .i64 e,.int .i64 t,.slice none 0 0,.slice (some ⟨g,0,none⟩) 1 c,.slice none 0 0,.slice none 0 0,.slice none 0 0,.slice none 0 0] 30):=by rw[hW];exact aC _ (heap_alloc_new w _)
 have g3:W.heap[w.heap.size+1]?=some (.cells #[.int .i64 v,.int .i64 e,.int .i64 t,.slice none 0 0,.slice (some ⟨g2,0,none⟩) 1 c2,.slice none 0 0,.slice none 0 0,.slice none 0 0,.slice none 0 0] 30):=by rw[hW];exact aM _ _ _ (by simp)
 have HS1:=hid (oY s v e t n g c g2 c2 W (hg.ext hbW) (hg2.ext hbW))
 have HS0:=hid (fun w=>oZ w)
 have a0:=aA g1 0
 have b0:=aA g3 0
 have a1:=aA g1 1
 have b1:=aA g3 1
 have a2:=aA g1 2
 have b2:=aA g3 2
 have a3:=aA g1 3
 have b3:=aA g3 3
 have a4:=aA g1 4
 have b4:=aA g3 4
 have a5:=aA g1 5
 have b5:=aA g3 5
 have a6:=aA g1 6
 have b6:=aA g3 6
 have a7:=aA g1 7
 have b7:=aA g3 7
 have a8:=aA g1 8
 have b8:=aA g3 8
 (try dsimp only at a0 b0 a1 b1 a2 b2 a3 b3 a4 b4 a5 b5 a6 b6 a7 b7 a8 b8)
 have G1:=hid g1
 have G3:=hid g3
 have HW:=hid hW
 have HBW:=hid hbW
 clear hg hg2 g1 g3 hW hbW
 go_enter Tryz.func11,Tryz.ntmps11
 go_upto_region 1 with (fail)
 rw[←HW.out]
 go_wp2_with (first
  | (go_at_call 53;refine HS1.out.mono ?_;rintro r w3 ⟨rfl,hb3⟩;have x8:=aA (aB hb3 G1.out) 8;have y8:=aA (aB hb3 G3.out) 8;(try dsimp only at x8 y8);have HB3:=hid hb3;clear hb3)
  | (go_at_call 54;refine(HS0.out _).mono ?_;rintro r w4 ⟨rfl,hw4⟩;rw[hw4];clear hw4))
 go_ret
 exact⟨rfl,HBW.out.trans (HB3.out.mono HBW.out.size)⟩
theorem tR (n:Int) (w:World):Calls Tryz.prog 22 #[.int .i64 n] w fun r w'=>∃g,r=.returned (.agg #[.int .i64 1,.int .i64 n,.int .i64 50,.slice none 0 0,.slice (some ⟨g,0,none⟩) 1 1,.slice none 0 0,.slice none 0 0,.slice none 0 0,.slice none 0 0])∧CntAt w' g ⟨#[105,110]⟩ n∧Below w.heap.size w w':=by
 go_enter Tryz.func22,Tryz.ntmps22
 go_wp2
 have h1:((w.alloc (.cells #[.int .i64 1,.int .i64 n,.int .i64 50,.slice none 0 0,.slice (some ⟨w.heap.size+1,0,none⟩) 1 1,.slice none 0 0,.slice none 0 0,.slice none 0 0,.slice none 0 0] 30)).alloc (.cells #[.string ⟨#[105,110]⟩,.int .i64 n] 58)).heap[w.heap.size]?=some (.cells #[.int .i64 1,.int .i64 n,.int .i64 50,.slice none 0 0,.slice (some ⟨w.heap.size+1,0,none⟩) 1 1,.slice none 0 0,.slice none 0 0,.slice none 0 0,.slice none 0 0] 30):=aC _ (heap_alloc_new w _)
 have h2:CntAt ((w.alloc (.cells #[.int .i64 1,.int .i64 n,.int .i64 50,.slice none 0 0,.slice (some ⟨w.heap.size+1,0,none⟩) 1 1,.slice none 0 0,.slice none 0 0,.slice none 0 0,.slice none 0 0] 30)).alloc (.cells #[.string ⟨#[105,110]⟩,.int .i64 n] 58)) (w.heap.size+1) ⟨#[105,110]⟩ n:=⟨_,_,_,aM _ _ _ (by simp),rfl,rfl⟩
 exact bodyPost_ret (v:=.agg #[.int .i64 1,.int .i64 n,.int .i64 50,.slice none 0 0,.slice (some ⟨w.heap.size+1,0,none⟩) 1 1,.slice none 0 0,.slice none 0 0,.slice none 0 0,.slice none 0 0]) (by simp[results,Tryz.results22,go_sem,aA h1]) rfl ⟨w.heap.size+1,rfl,h2,((bR w).alloc lr _).alloc (by simp) _⟩
theorem snName3:kG 3=⟨#[115,110,97,112,115,104,111,116,46,48,48,48,48,48,48,51]⟩:=by
 unfold kG xW
 rw[show Lib.decDigits 3=[51] from by rw[Lib.decDigits,dif_pos (by decide)];rfl]
 rfl
theorem rV (w:World) (hT:Tabs w) (hN:NumVars w):Calls Tryz.prog 7 #[] w fun r w'=>r=.returned (.bool true)∧Below w.heap.size w w':=by
 have HSI:=hid (fun w=>tR 3 w)
 have HEN:=hid (fun (g:Nat) (w':World) (h:CntAt w' g ⟨#[105,110]⟩ 3) (hb:Below w.heap.size w w')=>qN g 1 w' h (hT.below hb))
 have HDE:=hid (fun (w':World) (hb:Below w.heap.size w w')=>aAw w' (hT.below hb) (hN.below hb))
 have HNA:=hid (fun (w':World) (hb:Below w.heap.size w w')=>tM 3 (by decide) w' (hT.below hb))
 obtain⟨tx,htx⟩:∃tx,tx=rG:=⟨_,rfl⟩
 obtain⟨nm,hnm⟩:∃nm,nm=kG 3:=⟨_,rfl⟩
 have q1:(tx.toList==[115,110,97,112,115,104,111,116,32,49,32,51,32,53,48,10,97,114,114,105,118,101,100,32,105,110,32,51,10,101,110,100,10])=true:=by rw[htx,ByteArray.toList_eq];rfl
 have q2:(nm.toList==[115,110,97,112,115,104,111,116,46,48,48,48,48,48,48,51])=true:=by rw[hnm,snName3,ByteArray.toList_eq];rfl
 rw[←htx] at HEN HDE
 rw[←hnm] at HNA
 clear htx hnm hT hN
 go_enter Tryz.func7,Tryz.ntmps7
 go_upto_region 2 with (first
  | (go_at_call 22;refine(HSI.out _).mono ?_;rintro r w1 ⟨g1,rfl,hcg1,hb1⟩;have HCG1:=hid hcg1;have HB1:=hid hb1;clear hcg1 hb1)
  | (go_at_call 21;refine(HEN.out g1 w1 HCG1.out HB1.out).mono ?_;rintro r w2 ⟨rfl,hb2⟩;have HB2:=hid (HB1.out.trans (hb2.mono HB1.out.size));clear hb2))
 go_upto_region 4 with (first
  | (go_at_call 23;refine(HDE.out w2 HB2.out).mono ?_;rintro r w3 ⟨g2,gc,rfl,hcg2,hb3⟩;have HCG2:=hid hcg2;have HB3:=hid (HB2.out.trans (hb3.mono HB2.out.size));clear hcg2 hb3)
  | (go_at_call 24;refine(HNA.out (w3.alloc (.cells #[.int .i64 1,.int .i64 3,.int .i64 50,.slice none 0 0,.slice (some ⟨g2,0,none⟩) 1 gc,.slice none 0 0,.slice none 0 0,.slice none 0 0,.slice none 0 0] 30)) (HB3.out.alloc HB3.out.size _)).mono ?_;rintro r w4 ⟨rfl,hb4⟩;have HB4:=hid hb4;clear hb4))
 obtain⟨XB,hXB⟩:∃XB,XB=w3.heap.size:=⟨_,rfl⟩
 rw[←hXB]
 have HX:Hid (w4.drew.heap[XB]?=some (.cells #[.int .i64 1,.int .i64 3,.int .i64 50,.slice none 0 0,.slice (some ⟨g2,0,none⟩) 1 gc,.slice none 0 0,.slice none 0 0,.slice none 0 0,.slice none 0 0] 30)):=hid (by rw[hXB];have:=aB HB4.out (heap_alloc_new w3 (.cells #[.int .i64 1,.int .i64 3,.int .i64 50,.slice none 0 0,.slice (some ⟨g2,0,none⟩) 1 gc,.slice none 0 0,.slice none 0 0,.slice none 0 0,.slice none 0 0] 30));exact this)
 have HCG:Hid (CntAt w4.drew g2 ⟨#[105,110]⟩ 3):=hid (((HCG2.out.alloc (.cells #[.int .i64 1,.int .i64 3,.int .i64 50,.slice none 0 0,.slice (some ⟨g2,0,none⟩) 1 gc,.slice none 0 0,.slice none 0 0,.slice none 0 0,.slice none 0 0] 30)).ext HB4.out).ext (Below.refl _ w4).drew)
 have HBW:Hid (Below w.heap.size w w4):=hid ((HB3.out.alloc HB3.out.size (.cells #[.int .i64 1,.int .i64 3,.int .i64 50,.slice none 0 0,.slice (some ⟨g2,0,none⟩) 1 gc,.slice none 0 0,.slice none 0 0,.slice none 0 0,.slice none 0 0] 30)).trans (HB4.out.mono (by have:=HB3.out.size;simp;omega)))
 have HC4:=hid (fun (w':World) (h:w'.heap[XB]?=some (.cells #[.int .i64 1,.int .i64 3,.int .i64 50,.slice none 0 0,.slice (some ⟨g2,0,none⟩) 1 gc,.slice none 0 0,.slice none 0 0,.slice none 0 0,.slice none 0 0] 30)∧CntAt w' g2 ⟨#[105,110]⟩ 3∧Below w.heap.size w w')=>(show w'.cell? ⟨XB,0,none⟩=some (.int .i64 1)∧w'.cell? ⟨XB,1,none⟩=some (.int .i64 3)∧w'.cell? ⟨XB,2,none⟩=some (.int .i64 50)∧w'.cell? ⟨XB,3,none⟩=some (.slice none 0 0)∧w'.cell? ⟨XB,4,none⟩=some (.slice (some ⟨g2,0,none⟩) 1 gc)∧w'.cell? ⟨XB,5,none⟩=some (.slice none 0 0)∧w'.cell? ⟨XB,6,none⟩=some (.slice none 0 0)∧w'.cell? ⟨XB,7,none⟩=some (.slice none 0 0)∧w'.cell? ⟨XB,8,none⟩=some (.slice none 0 0) from⟨aA h.1 0,aA h.1 1,aA h.1 2,aA h.1 3,aA h.1 4,aA h.1 5,aA h.1 6,aA h.1 7,aA h.1 8⟩))
 clear hXB
 refine wp_region_held_drew (S:=(fun w'=>w'.heap[XB]?=some (.cells #[.int .i64 1,.int .i64 3,.int .i64 50,.slice none 0 0,.slice (some ⟨g2,0,none⟩) 1 gc,.slice none 0 0,.slice none 0 0,.slice none 0 0,.slice none 0 0] 30)∧CntAt w' g2 ⟨#[105,110]⟩ 3∧Below w.heap.size w w')) (by kernel_rfl) (⟨HX.out,HCG.out,HBW.out.drew⟩) (fun hS=>?_)
 refine tkQ 0 (v:=?_) ?_ hS ?_;rotate_left;· intro w' hw';have hcells:=HC4.out w' hw';go_simp;(try rfl)
 simp only[Act.put,pq]
 refine tkQ 1 (v:=?_) ?_ hS ?_;rotate_left;· intro w' hw';have hcells:=HC4.out w' hw';go_simp;(try rfl)
 simp only[Act.put,pq]
 refine tkQ 2 (v:=?_) ?_ hS ?_;rotate_left;· intro w' hw';have hcells:=HC4.out w' hw';go_simp;(try rfl)
 simp only[Act.put,pq]
 refine tkQ 3 (v:=?_) ?_ hS ?_;rotate_left;· intro w' hw';have hcells:=HC4.out w' hw';go_simp;(try rfl)
 simp only[Act.put,pq]
 refine tkQ 4 (v:=?_) ?_ hS ?_;rotate_left;· intro w' hw';have hcells:=HC4.out w' hw';go_simp;(try rfl)
 simp only[Act.put,pq]
 refine tkQ 5 (v:=?_) ?_ hS ?_;rotate_left;· intro w' hw';have hcells:=HC4.out w' hw';go_simp;(try rfl)
 simp only[Act.put,pq]
 refine tkQ 6 (v:=?_) ?_ hS ?_;rotate_left;· intro w' hw';have hcells:=HC4.out w' hw';go_simp;(try rfl)
 simp only[Act.put,pq]
 refine tkQ 7 (v:=?_) ?_ hS ?_;rotate_left;· intro w' hw';have hcells:=HC4.out w' hw';go_simp;(try rfl)
 simp only[Act.put,pq]
 refine tkQ 8 (v:=?_) ?_ hS ?_;rotate_left;· intro w' hw';have hcells:=HC4.out w' hw';go_simp;(try rfl)
 simp only[Act.put,pq]
 refine tkQ 9 (v:=?_) ?_ hS ?_;rotate_left;· intro w' hw';have hcells:=HC4.out w' hw';go_simp;(try rfl)
 simp only[Act.put,pq]
 refine tkQ 10 (v:=?_) ?_ hS ?_;rotate_left;· intro w' hw';have hcells:=HC4.out w' hw';go_simp;(try rfl)
 simp only[Act.put,pq]
 refine tkQ 11 (v:=?_) ?_ hS ?_;rotate_left;· intro w' hw';have hcells:=HC4.out w' hw';go_simp;(try rfl)
 simp only[Act.put,pq]
 refine ry [12] ?_
 refine arQ fun K hK=>?_
 go_simp;go_at_call 22;refine(HSI.out _).mono ?_
 rintro r w11 ⟨g5,rfl,hcg5,hb11⟩
 have HCG5:=hid hcg5;have HCG2:=hid (hS.2.1.ext hb11)
 refine hK.out _ _ (⟨aB hb11 hS.1,hS.2.1.ext hb11,hS.2.2.trans (hb11.mono hS.2.2.size)⟩) (fun hS=>?_)
 clear hK K
 (try simp only[Act.put,pq])
 refine ry [13] ?_
 refine arQ fun K hK=>?_
 have HSM:=hid (wU ⟨#[105,110]⟩ 1 3 50 3 g2 gc g5 1 w11 HCG2.out HCG5.out)
 go_simp;go_at_call 11;refine HSM.out.mono ?_
 rintro r w12 ⟨rfl,hb12⟩
 refine hK.out _ _ (⟨aB hb12 hS.1,hS.2.1.ext hb12,hS.2.2.trans (hb12.mono hS.2.2.size)⟩) (fun hS=>?_)
 clear hK K
 (try simp only[Act.put,pq])
 refine tkQ 14 (v:=?_) ?_ hS ?_;rotate_left;· intro w' hw';have hcells:=HC4.out w' hw';go_simp;(try rfl)
 simp only[Act.put,pq]
 refine tkQ 15 (v:=?_) ?_ hS ?_;rotate_left;· intro w' hw';have hcells:=HC4.out w' hw';go_simp;(try rfl)
 simp only[Act.put,pq]
 refine tkQ 16 (v:=?_) ?_ hS ?_;rotate_left;· intro w' hw';have hcells:=HC4.out w' hw';go_simp;(try rfl)
 simp only[Act.put,pq]
 refine tkQ 17 (v:=?_) ?_ hS ?_;rotate_left;· intro w' hw';have hcells:=HC4.out w' hw';go_simp;(try rfl)
 simp only[Act.put,pq]
 refine tkQ 18 (v:=?_) ?_ hS ?_;rotate_left;· intro w' hw';have hcells:=HC4.out w' hw';go_simp;(try rfl)
 simp only[Act.put,pq]
 refine tkQ 19 (v:=?_) ?_ hS ?_;rotate_left;· intro w' hw';have hcells:=HC4.out w' hw';go_simp;(try rfl)
 simp only[Act.put,pq]
 refine tkQ 20 (v:=?_) ?_ hS ?_;rotate_left;· intro w' hw';have hcells:=HC4.out w' hw';go_simp;(try rfl)
 simp only[Act.put,pq]
 refine tkQ 21 (v:=?_) ?_ hS ?_;rotate_left;· intro w' hw';have hcells:=HC4.out w' hw';go_simp;(try rfl)
 simp only[Act.put,pq]
 refine tkQ 22 (v:=?_) ?_ hS ?_;rotate_left;· intro w' hw';have hcells:=HC4.out w' hw';go_simp;(try rfl)
 simp only[Act.put,pq]
 refine tkQ 23 (v:=?_) ?_ hS ?_;rotate_left;· intro w' hw';have hcells:=HC4.out w' hw';go_simp;(try rfl)
 simp only[Act.put,pq]
 refine wpAnyH_done (by kernel_rfl) ?_ _
 (try dsimp only)
 have HS:=hid hS
 clear hS
 go_wp2
 go_ret
 exact⟨rfl,HS.out.2.2⟩
end Go.Proofs.YteladbdfiannjaaGreatDoor
