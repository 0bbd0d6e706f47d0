/- A part. -/
import Derived.Test.YteladbdfiannjaaGreatDoorSX25Mrg
namespace Go.Proofs.YteladbdfiannjaaGreatDoor
set_option linter.unusedVariables false
set_option maxRecDepth 100000
set_option maxHeartbeats 64000000
set_option linter.unusedSimpArgs false
section
open Go Go.RowKit Go.Shelf
theorem xY (s:ByteArray) (hs:aI s=true) (n:Int) (hn:0≤n∧n≤999999999999999) (g c:Nat) (w:World) (hg:CntAt w g s n) :
 Calls Tryz.prog 30 #[.slice (some ⟨g,0,none⟩) 1 c] w fun e w'=>e=.returned (.int .i64 0)∧Below w.heap.size w w':=by
 have H:=hid (fun (w':World) (h:CntAt w' g s n)=>sD s hs n hn g c w.heap.size w' h)
 have HG:=hid hg
 clear hg
 go_enter Tryz.func30,Tryz.ntmps30
 go_wp2_with (go_at_call 108;refine(H.out _ (HG.out.alloc _)).mono ?_;rintro e w3 ⟨rfl,hb3⟩)
 go_ret
 exact⟨rfl,((Below.refl _ _).alloc lr _).trans (hb3.mono (by simp))⟩
theorem aB8 (s:ByteArray) (hs:aI s=true) (v e t n:Int) (hv:0≤v∧v≤999) (he:0≤e∧e≤1048576) (ht:0≤t∧t≤17592186044416) (hn:0≤n∧n≤999999999999999) (g c:Nat) (w:World) (hg:CntAt w g s n) :
 Calls Tryz.prog 8 #[(.agg #[.int .i64 v,.int .i64 e,.int .i64 t,.slice none 0 0,.slice (some ⟨g,0,none⟩) 1 c,.slice none 0 0,.slice none 0 0,.slice none 0 0,.slice none 0 0])] w fun e w'=>e=.returned (.int .i64 0)∧Below w.heap.size w w':=by
 have HIN:=hid (fun (n a b:Int) (w:World)=>aL n a b w)
 have i1:=nQ hv
 have i2:=nQ he
 have i3:=nQ ht
 have HF1:=hid (fun fv w=>uL fv w)
 have HF2:=hid (fun fv w=>uM fv w)
 have HF3:=hid (fun fv w=>uN fv w)
 have HF4:=hid (fun fv w=>uO fv w)
 have HC0:=hid (fun w=>xZ w)
 obtain⟨WB,hWB⟩:∃WB,WB=((w.alloc (.cells #[.int .i64 v,.int .i64 e,.int .i64 t,.slice none 0 0,.slice (some ⟨g,0,none⟩) 1 c,.slice none 0 0,.slice none 0 0,.slice none 0 0,.slice none 0 0] 30)).alloc (.cells #[.int .i64 v,.int .i64 e,.int .i64 t,.slice none 0 0,.slice (some ⟨g,0,none⟩) 1 c,.slice none 0 0,.slice none 0 0,.slice none 0 0] 27)):=⟨_,rfl⟩
 have hbW:Below w.heap.size w WB:=by rw[hWB];exact((bR w).alloc lr _).alloc (by simp) _
 have g1:WB.heap[w.heap.size]?=some (.cells #[.int .i64 v,.int .i64 e,.int .i64 t,.slice none 0 0,.slice (some ⟨g,0,none⟩) 1 c,.slice none 0 0,.slice none 0 0,.slice none 0 0,.slice none 0 0] 30):=by rw[hWB];exact aC _ (heap_alloc_new w _)
 have g2:WB.heap[w.heap.size+1]?=some (.cells #[.int .i64 v,.int .i64 e,.int .i64 t,.slice none 0 0,.slice (some ⟨g,0,none⟩) 1 c,.slice none 0 0,.slice none 0 0,.slice none 0 0] 27):=by rw[hWB];exact aM _ _ _ (by simp)
 have HC1:=hid (fun (w':World) (h:Below WB.heap.size WB w')=>xY s hs n hn g c w' ((hg.ext hbW).ext h))
 have HC:=hid (fun (w':World) (h:Below WB.heap.size WB w')=>(show w'.cell? ⟨w.heap.size,8,none⟩=some (.slice none 0 0)∧w'.cell? ⟨w.heap.size+1,3,none⟩=some (.slice none 0 0)∧w'.cell? ⟨w.heap.size+1,4,none⟩=some (.slice (some ⟨g,0,none⟩) 1 c)∧w'.cell? ⟨w.heap.size+1,5,none⟩=some (.slice none 0 0)∧w'.cell? ⟨w.heap.size+1,6,none⟩=some (.slice none 0 0)∧w'.cell? ⟨w.heap.size+1,7,none⟩=some (.slice none 0 0) from⟨aA (aB h g1) 8,aA (aB h g2) 3,aA (aB h g2) 4,aA (aB h g2) 5,aA (aB h g2) 6,aA (aB h g2) 7⟩))
 have HWB:=hid hbW
 have HEQ:=hid hWB
 have G2:=hid g2
 clear hs hv he ht hn hg hbW g1 g2 hWB
 go_enter Tryz.func8,Tryz.ntmps8
 go_upto_region 2 with (fail)
 rw[←HEQ.out]
 have m0:=aA G2.out 0
 have m1:=aA G2.out 1
 have m2:=aA G2.out 2
 have m3:=aA G2.out 3
 (try dsimp only at m0 m1 m2 m3)
 go_upto_region 7 with (go_at_call 25;refine(HIN.out _ _ _ _).mono ?_;rintro q w3 ⟨rfl,hw3⟩;rw[hw3];clear hw3)
 clear m0 m1 m2 m3 i1 i2 i3
 refine wp_region_held_drew (S:=(fun w'=>Below WB.heap.size WB w')) (by kernel_rfl) ((Below.refl _ _).drew) (fun hS=>?_)
 refine tkQ 0 (v:=?_) ?_ hS ?_;rotate_left;· intro w' hw';have hcells:=HC.out w' hw';go_simp;(try rfl)
 simp only[Act.put,pq]
 refine tkQ 1 (v:=?_) ?_ hS ?_;rotate_left;· intro w' hw';have hcells:=HC.out w' hw';go_simp;(try rfl)
 simp only[Act.put,pq]
 refine tkQ 2 (v:=?_) ?_ hS ?_;rotate_left;· intro w' hw';have hcells:=HC.out w' hw';go_simp;(try rfl)
 simp only[Act.put,pq]
 refine tkQ 4 (v:=?_) ?_ hS ?_;rotate_left;· intro w' hw';have hcells:=HC.out w' hw';go_simp;(try rfl)
 simp only[Act.put,pq]
 refine tkQ 5 (v:=?_) ?_ hS ?_;rotate_left;· intro w' hw';have hcells:=HC.out w' hw';go_simp;(try rfl)
 simp only[Act.put,pq]
 refine tkQ 7 (v:=?_) ?_ hS ?_;rotate_left;· intro w' hw';have hcells:=HC.out w' hw';go_simp;(try rfl)
 simp only[Act.put,pq]
 refine tkQ 8 (v:=?_) ?_ hS ?_;rotate_left;· intro w' hw';have hcells:=HC.out w' hw';go_simp;(try rfl)
 simp only[Act.put,pq]
 refine tkQ 10 (v:=?_) ?_ hS ?_;rotate_left;· intro w' hw';have hcells:=HC.out w' hw';go_simp;(try rfl)
 simp only[Act.put,pq]
 refine tkQ 11 (v:=?_) ?_ hS ?_;rotate_left;· intro w' hw';have hcells:=HC.out w' hw';go_simp;(try rfl)
 simp only[Act.put,pq]
 refine tkQ 13 (v:=?_) ?_ hS ?_;rotate_left;· intro w' hw';have hcells:=HC.out w' hw';go_simp;(try rfl)
 simp only[Act.put,pq]
 refine tkQ 14 (v:=?_) ?_ hS ?_;rotate_left;· intro w' hw';have hcells:=HC.out w' hw';go_simp;(try rfl)
 simp only[Act.put,pq]
 refine tkQ 16 (v:=?_) ?_ hS ?_;rotate_left;· intro w' hw';have hcells:=HC.out w' hw';go_simp;(try rfl)
 simp only[Act.put,pq]
 refine tkQ 17 (v:=?_) ?_ hS ?_;rotate_left;· intro w' hw';have hcells:=HC.out w' hw';go_simp;(try rfl)
 simp only[Act.put,pq]
 refine ry [3] ?_
 refine arQ fun K hK=>?_
 go_simp;go_at_call 29;refine(HF1.out _ _).mono ?_
 rintro e w3 ⟨rfl,hw3⟩;obtain rfl:=hw3.symm
 refine hK.out _ _ (hS) (fun hS=>?_)
 clear hK K
 (try simp only[Act.put,pq])
 refine ry [6] ?_
 refine arQ fun K hK=>?_
 go_simp;go_at_call 30;refine(HC1.out _ hS).mono ?_
 rintro e w1 ⟨rfl,hb1⟩
 refine hK.out _ _ (hS.trans (hb1.mono hS.size)) (fun hS=>?_)
 clear hK K
 (try simp only[Act.put,pq])
 refine ry [9] ?_
 refine arQ fun K hK=>?_
 go_simp;go_at_call 30;refine(HC0.out _).mono ?_
 rintro e w2 ⟨rfl,hb2⟩
 refine hK.out _ _ (hS.trans (hb2.mono hS.size)) (fun hS=>?_)
 clear hK K
 (try simp only[Act.put,pq])
 refine ry [12] ?_
 refine arQ fun K hK=>?_
 go_simp;go_at_call 31;refine(HF2.out _ _).mono ?_
 rintro e w4 ⟨rfl,hw12⟩;obtain rfl:=hw12.symm
 refine hK.out _ _ (hS) (fun hS=>?_)
 clear hK K
 (try simp only[Act.put,pq])
 refine ry [15] ?_
 refine arQ fun K hK=>?_
 go_simp;go_at_call 33;refine(HF3.out _ _).mono ?_
 rintro e w5 ⟨rfl,hw15⟩;obtain rfl:=hw15.symm
 refine hK.out _ _ (hS) (fun hS=>?_)
 clear hK K
 (try simp only[Act.put,pq])
 refine ry [18] ?_
 refine arQ fun K hK=>?_
 go_simp;go_at_call 35;refine(HF4.out _ _).mono ?_
 rintro e w6 ⟨rfl,hw18⟩;obtain rfl:=hw18.symm
 refine hK.out _ _ (hS) (fun hS=>?_)
 clear hK K
 (try simp only[Act.put,pq])
 refine ry [19] ?_
 refine arQ fun K hK=>?_
 go_simp
 refine hK.out _ _ (hS.trans (((Below.refl _ _).alloc lr _).mono hS.size)) (fun hS=>?_)
 clear hK K
 (try simp only[Act.put,pq])
 refine ry [20] ?_
 refine arQ fun K hK=>?_
 go_simp;go_at_call 28;refine(aCa w2.heap.size 6 6 (by decide) _ (fun k hk=>by rw[aA (heap_alloc_new w2 _)];rcases k with _|_|_|_|_|_|k<;>first | rfl | omega)).mono ?_
 rintro e w7 ⟨rfl,hw7⟩;obtain rfl:=hw7.symm
 refine hK.out _ _ (hS) (fun hS=>?_)
 clear hK K
 (try simp only[Act.put,pq])
 refine tkQ 21 (v:=?_) ?_ hS ?_;rotate_left;· intro w' hw';have hcells:=HC.out w' hw';go_simp;(try rfl)
 simp only[Act.put,pq]
 refine wpAnyH_done (by kernel_rfl) ?_ _
 (try dsimp only)
 have hS2:=hid hS
 clear hS
 go_wp2
 go_ret
 exact⟨rfl,HWB.out.trans ((hS2.out).mono HWB.out.size)⟩
end
section
open Go Go.RowKit Go.Shelf
theorem aU (w:World) (xs:List ByteArray) (T:TypeId):∀(k:Nat) x,xs[k]?=some x→(w.alloc (.cells (xs.map Value.string).toArray T)).cell? ⟨w.heap.size,0+k,none⟩=some (.string x):=by
 intro k x h
 rw[Nat.zero_add,aA (heap_alloc_new w _)]
 simp[h]
theorem rS (j:JW) (s:ByteArray):(lnW j s).b.length=j.b.length+s.size+1:=by
 show(j.b++s.data.toList++[10]).length=_
 rw[List.length_append,List.length_append,Array.length_toList]
 rfl
theorem aAu (s s1 s2:ByteArray) (hs:aI s=true) (v e t n:Int) (hv:0≤v∧v≤999) (he:0≤e∧e≤1048576) (ht:0≤t∧t≤17592186044416) (hn:0≤n∧n≤999999999999999)
 (h1:bG [⟨#[115,110,97,112,115,104,111,116]⟩,aF v,aF e,aF t] ⟨#[32]⟩=s1) (h2:bG [⟨#[97,114,114,105,118,101,100]⟩,s,aF n] ⟨#[32]⟩=s2) (hz1:s1.size≤1000) (hz2:s2.size≤1000) (g c:Nat) (w:World) (hg:CntAt w g s n) (hT:Tabs w) :
 Calls Tryz.prog 21 #[(.agg #[.int .i64 v,.int .i64 e,.int .i64 t,.slice none 0 0,.slice (some ⟨g,0,none⟩) 1 c,.slice none 0 0,.slice none 0 0,.slice none 0 0,.slice none 0 0])] w fun r w'=>r=.returned (.tuple #[.string ⟨(lnW (lnW (lnW ⟨[],0⟩ s1) s2) ⟨#[101,110,100]⟩).b.toArray⟩,.int .i64 0])∧Below w.heap.size w w':=by
 have HR:=hid (show I64 v∧I64 e∧I64 t∧I64 n by unfold I64;omega)
 have HIT:=hid (fun (x:Int) (hx:I64 x) (w':World) (h:Below w.heap.size w w')=>bD x hx w' (hT.below h))
 have HS1:=hid h1
 have HS2:=hid h2
 have HZ1:=hid hz1
 have HZ2:=hid hz2
 have HCK:=hid (fun (w':World) (h:Below w.heap.size w w')=>aB8 s hs v e t n hv he ht hn g c w' (hg.ext h))
 have HG:=hid hg
 have HX9:=hid (heap_alloc_new w (.cells #[.int .i64 v,.int .i64 e,.int .i64 t,.slice none 0 0,.slice (some ⟨g,0,none⟩) 1 c,.slice none 0 0,.slice none 0 0,.slice none 0 0,.slice none 0 0] 30))
 have hbx:Below w.heap.size w (w.alloc (.cells #[.int .i64 v,.int .i64 e,.int .i64 t,.slice none 0 0,.slice (some ⟨g,0,none⟩) 1 c,.slice none 0 0,.slice none 0 0,.slice none 0 0,.slice none 0 0] 30)):=(bR w).alloc lr _
 have HBX:=hid hbx
 have c0:=aA HX9.out 0
 clear c0
 clear h1 h2 hz1 hz2 hs hv he ht hn hg hT hbx
 go_enter Tryz.func21,Tryz.ntmps21
 go_upto_region 6 with (go_at_call 8;refine(HCK.out _ HBX.out).mono ?_;rintro e w1 ⟨rfl,hb1⟩;have q1:=aB hb1 HX9.out;have q:=aC (.cells #[.pointer none,.slice none 0 0,.int .i64 0] 141) q1;have d0:=aA q 0;have d1:=aA q 1;have d2:=aA q 2;have d3:=aA q 3;have d4:=aA q 4;have d5:=aA q 5;have d6:=aA q 6;have d7:=aA q 7;(try dsimp only at d0 d1 d2 d3 d4 d5 d6 d7);have Q:=hid q1;have HB1:=hid hb1;clear q q1 hb1)
 clear d0 d1 d2 d3 d4 d5 d6 d7
 obtain⟨b,hb⟩:∃b,b=w1.heap.size:=⟨_,rfl⟩
 obtain⟨W,hW⟩:∃W,W=(w1.alloc (.cells #[.pointer none,.slice none 0 0,.int .i64 0] 141)).alloc (.cells #[.int .i64 v,.int .i64 e,.int .i64 t,.slice none 0 0,.slice (some ⟨g,0,none⟩) 1 c,.slice none 0 0,.slice none 0 0,.slice none 0 0] 27):=⟨_,rfl⟩
 rw[←hW,←hb]
 have hbW:Below w1.heap.size w1 W:=by rw[hW];exact((Below.refl _ w1).alloc lr _).alloc (by simp) _
 have g1:W.heap[b]?=some (.cells #[.pointer none,.slice none 0 0,.int .i64 0] 141):=by rw[hW,hb];exact aC _ (heap_alloc_new w1 _)
 have g2:W.heap[b+1]?=some (.cells #[.int .i64 v,.int .i64 e,.int .i64 t,.slice none 0 0,.slice (some ⟨g,0,none⟩) 1 c,.slice none 0 0,.slice none 0 0,.slice none 0 0] 27):=by rw[hW,hb];exact aM _ _ _ (by simp)
 have HM0:Hid (W.drew.heap[b+1]?=some (.cells #[.int .i64 v,.int .i64 e,.int .i64 t,.slice none 0 0,.slice (some ⟨g,0,none⟩) 1 c,.slice none 0 0,.slice none 0 0,.slice none 0 0] 27)):=hid g2
 have hbw1:Below w.heap.size w w1:=HBX.out.trans (HB1.out.mono (by simp))
 have HB0:=hid (hbw1.trans (hbW.mono hbw1.size))
 have HX0:=hid (aB hbW Q.out)
 have HBB:Hid (w.heap.size≤b):=hid (by rw[hb];exact hbw1.size)
 have HXB:Hid (w.heap.size<b):=hid (by rw[hb];exact bT Q.out)
 have HI0:Hid (IsJw 141 b b ⟨[],0⟩ W.drew):=hid ⟨Nat.le_refl _,_,_,g1,.inl rfl,World.ownsRowF_nil _ _ _ _,by simp[Value.ownBlock]⟩
 have HCM:=hid (fun (w':World) (h:w'.heap[b+1]?=some (.cells #[.int .i64 v,.int .i64 e,.int .i64 t,.slice none 0 0,.slice (some ⟨g,0,none⟩) 1 c,.slice none 0 0,.slice none 0 0,.slice none 0 0] 27)∧w'.heap[w.heap.size]?=some (.cells #[.int .i64 v,.int .i64 e,.int .i64 t,.slice none 0 0,.slice (some ⟨g,0,none⟩) 1 c,.slice none 0 0,.slice none 0 0,.slice none 0 0,.slice none 0 0] 30)∧Below w.heap.size w w')=>(show w'.cell? ⟨b+1,0,none⟩=some (.int .i64 v)∧w'.cell? ⟨b+1,1,none⟩=some (.int .i64 e)∧w'.cell? ⟨b+1,2,none⟩=some (.int .i64 t) from⟨aA h.1 0,aA h.1 1,aA h.1 2⟩))
 clear hW hb hbW g1 g2 hbw1
 refine wp_region_held_drew (S:=(fun w'=>w'.heap[b+1]?=some (.cells #[.int .i64 v,.int .i64 e,.int .i64 t,.slice none 0 0,.slice (some ⟨g,0,none⟩) 1 c,.slice none 0 0,.slice none 0 0,.slice none 0 0] 27)∧w'.heap[w.heap.size]?=some (.cells #[.int .i64 v,.int .i64 e,.int .i64 t,.slice none 0 0,.slice (some ⟨g,0,none⟩) 1 c,.slice none 0 0,.slice none 0 0,.slice none 0 0,.slice none 0 0] 30)∧Below w.heap.size w w')) (by kernel_rfl) (⟨HM0.out,HX0.out,HB0.out.drew⟩) (fun hS=>?_)
 refine tkQ 0 (v:=?_) ?_ hS ?_;rotate_left;· intro w' hw';have hcells:=HCM.out w' hw';go_simp;(try rfl)
 simp only[Act.put,pq]
 refine tkQ 1 (v:=?_) ?_ hS ?_;rotate_left;· intro w' hw';have hcells:=HCM.out w' hw';go_simp;(try rfl)
 simp only[Act.put,pq]
 refine tkQ 2 (v:=?_) ?_ hS ?_;rotate_left;· intro w' hw';have hcells:=HCM.out w' hw';go_simp;(try rfl)
 simp only[Act.put,pq]
 refine tkQ 4 (v:=?_) ?_ hS ?_;rotate_left;· intro w' hw';have hcells:=HCM.out w' hw';go_simp;(try rfl)
 simp only[Act.put,pq]
 refine tkQ 5 (v:=?_) ?_ hS ?_;rotate_left;· intro w' hw';have hcells:=HCM.out w' hw';go_simp;(try rfl)
 simp only[Act.put,pq]
 refine tkQ 7 (v:=?_) ?_ hS ?_;rotate_left;· intro w' hw';have hcells:=HCM.out w' hw';go_simp;(try rfl)
 simp only[Act.put,pq]
 refine tkQ 8 (v:=?_) ?_ hS ?_;rotate_left;· intro w' hw';have hcells:=HCM.out w' hw';go_simp;(try rfl)
 simp only[Act.put,pq]
 refine ry [3] ?_
 refine arQ fun K hK=>?_
 go_simp;go_at_call 80;refine(HIT.out v HR.out.1 _ hS.2.2).mono ?_
 rintro e w11 ⟨rfl,hb11⟩
 have HI11:=hid (HI0.out.ext hb11)
 refine hK.out _ _ (⟨aB hb11 hS.1,aB hb11 hS.2.1,hS.2.2.trans (hb11.mono hS.2.2.size)⟩) (fun hS=>?_)
 clear hK K
 (try simp only[Act.put,pq])
 refine ry [6] ?_
 refine arQ fun K hK=>?_
 go_simp;go_at_call 80;refine(HIT.out e HR.out.2.1 _ hS.2.2).mono ?_
 rintro e w12 ⟨rfl,hb12⟩
 have HI12:=hid (HI11.out.ext hb12)
 refine hK.out _ _ (⟨aB hb12 hS.1,aB hb12 hS.2.1,hS.2.2.trans (hb12.mono hS.2.2.size)⟩) (fun hS=>?_)
 clear hK K
 (try simp only[Act.put,pq])
 refine ry [9] ?_
 refine arQ fun K hK=>?_
 go_simp;go_at_call 80;refine(HIT.out t HR.out.2.2.1 _ hS.2.2).mono ?_
 rintro e w13 ⟨rfl,hb13⟩
 have HI13:=hid (HI12.out.ext hb13)
 refine hK.out _ _ (⟨aB hb13 hS.1,aB hb13 hS.2.1,hS.2.2.trans (hb13.mono hS.2.2.size)⟩) (fun hS=>?_)
 clear hK K
 (try simp only[Act.put,pq])
 refine ry [10] ?_
 refine arQ fun K hK=>?_
 go_simp
 have HI14:=hid (HI13.out.ext ((Below.refl _ w13).alloc lr (.cells #[.string ⟨#[115,110,97,112,115,104,111,116]⟩,.string (aF v),.string (aF e),.string (aF t)] 9)))
 refine hK.out _ _ (⟨aC _ hS.1,aC _ hS.2.1,hS.2.2.alloc hS.2.2.size _⟩) (fun hS=>?_)
 clear hK K
 (try simp only[Act.put,pq])
 refine ry [11] ?_
 refine arQ fun K hK=>?_
 have HL:=hid (jA b b ⟨[],0⟩ w13.heap.size 4 [⟨#[115,110,97,112,115,104,111,116]⟩,(aF v),(aF e),(aF t)] s1 HS1.out (w13.alloc (.cells #[.string ⟨#[115,110,97,112,115,104,111,116]⟩,.string (aF v),.string (aF e),.string (aF t)] 9)) (aU w13 [⟨#[115,110,97,112,115,104,111,116]⟩,(aF v),(aF e),(aF t)] _) (by simp) (by simp) (by simp) HZ1.out (by simp) (HI14.out) (by have:=hS.2.2.size;have:=HBB.out;have:=HI14.out.lt;omega))
 go_simp;go_at_call 79;refine HL.out.mono ?_
 rintro e w14 ⟨rfl,hi_w14,hb_w14,ho_w14⟩
 refine hK.out _ _ (⟨ho_w14 _ _ hS.1 (by simp) (by simp),ho_w14 _ _ hS.2.1 (by simp;have:=HXB.out;omega) (by simp),hS.2.2.trans (hb_w14.mono HBB.out)⟩) (fun hS=>?_)
 clear hK K
 (try simp only[Act.put,pq])
 refine wpAnyH_done (by kernel_rfl) ?_ _
 (try dsimp only)
 have HI15:Hid (IsJw 141 b b (lnW ⟨[],0⟩ s1) w14):=hid hi_w14
 have HS15:=hid hS
 clear hS hi_w14
 have m3:=aA HS15.out.1 3
 have m4:=aA HS15.out.1 4
 have k0:=(HG.out.ext HS15.out.2.2).c0
 have k1:=(HG.out.ext HS15.out.2.2).c1
 (try dsimp only at m3 m4 k0 k1)
 go_wp2
 refine wp_loop_rounds 1 ?_
 rw[rounds_succ]
 go_wp2
 refine wp_loop_rounds 2 ?_
 rw[rounds_succ]
 clear m3
 go_upto_region 15 with (fail)
 have HCC:=hid (fun (w':World) (h:w'.heap[w14.heap.size]?=some (cntO s n)∧w'.heap[b+1]?=some (.cells #[.int .i64 v,.int .i64 e,.int .i64 t,.slice none 0 0,.slice (some ⟨g,0,none⟩) 1 c,.slice none 0 0,.slice none 0 0,.slice none 0 0] 27)∧w'.heap[w.heap.size]?=some (.cells #[.int .i64 v,.int .i64 e,.int .i64 t,.slice none 0 0,.slice (some ⟨g,0,none⟩) 1 c,.slice none 0 0,.slice none 0 0,.slice none 0 0,.slice none 0 0] 30)∧Below w.heap.size w w')=>(show w'.cell? ⟨w14.heap.size,0,none⟩=some (.string s)∧w'.cell? ⟨w14.heap.size,1,none⟩=some (.int .i64 n) from⟨aA h.1 0,aA h.1 1⟩))
 clear m4 k0 k1
 refine wp_region_held_drew (S:=(fun w'=>w'.heap[w14.heap.size]?=some (cntO s n)∧w'.heap[b+1]?=some (.cells #[.int .i64 v,.int .i64 e,.int .i64 t,.slice none 0 0,.slice (some ⟨g,0,none⟩) 1 c,.slice none 0 0,.slice none 0 0,.slice none 0 0] 27)∧w'.heap[w.heap.size]?=some (.cells #[.int .i64 v,.int .i64 e,.int .i64 t,.slice none 0 0,.slice (some ⟨g,0,none⟩) 1 c,.slice none 0 0,.slice none 0 0,.slice none 0 0,.slice none 0 0] 30)∧Below w.heap.size w w')) (by kernel_rfl) (⟨heap_alloc_new w14 _,aC _ HS15.out.1,aC _ HS15.out.2.1,(HS15.out.2.2.alloc HS15.out.2.2.size _).drew⟩) (fun hS=>?_)
 refine tkQ 0 (v:=?_) ?_ hS ?_;rotate_left;· intro w' hw';have hcells:=HCC.out w' hw';go_simp;(try rfl)
 simp only[Act.put,pq]
 refine tkQ 1 (v:=?_) ?_ hS ?_;rotate_left;· intro w' hw';have hcells:=HCC.out w' hw';go_simp;(try rfl)
 simp only[Act.put,pq]
 refine tkQ 2 (v:=?_) ?_ hS ?_;rotate_left;· intro w' hw';have hcells:=HCC.out w' hw';go_simp;(try rfl)
 simp only[Act.put,pq]
 refine tkQ 3 (v:=?_) ?_ hS ?_;rotate_left;· intro w' hw';have hcells:=HCC.out w' hw';go_simp;(try rfl)
 simp only[Act.put,pq]
 refine tkQ 4 (v:=?_) ?_ hS ?_;rotate_left;· intro w' hw';have hcells:=HCC.out w' hw';go_simp;(try rfl)
 simp only[Act.put,pq]
 refine ry [5] ?_
 refine arQ fun K hK=>?_
 go_simp;go_at_call 80;refine(HIT.out n HR.out.2.2.2 _ hS.2.2.2).mono ?_
 rintro e w21 ⟨rfl,hb21⟩
 have HI21:=hid ((HI15.out.ext ((Below.refl _ w14).alloc lr (cntO s n)).drew).ext hb21)
 refine hK.out _ _ (⟨aB hb21 hS.1,aB hb21 hS.2.1,aB hb21 hS.2.2.1,hS.2.2.2.trans (hb21.mono hS.2.2.2.size)⟩) (fun hS=>?_)
 clear hK K
 (try simp only[Act.put,pq])
 refine ry [6] ?_
 refine arQ fun K hK=>?_
 go_simp
 have HI22:=hid (HI21.out.ext ((Below.refl _ w21).alloc lr (.cells #[.string ⟨#[97,114,114,105,118,101,100]⟩,.string s,.string (aF n)] 9)))
 refine hK.out _ _ (⟨aC _ hS.1,aC _ hS.2.1,aC _ hS.2.2.1,hS.2.2.2.alloc hS.2.2.2.size _⟩) (fun hS=>?_)
 clear hK K
 (try simp only[Act.put,pq])
 refine ry [7] ?_
 refine arQ fun K hK=>?_
 have HL:=hid (jA b b (lnW ⟨[],0⟩ s1) w21.heap.size 3 [⟨#[97,114,114,105,118,101,100]⟩,s,(aF n)] s2 HS2.out (w21.alloc (.cells #[.string ⟨#[97,114,114,105,118,101,100]⟩,.string s,.string (aF n)] 9)) (aU w21 [⟨#[97,114,114,105,118,101,100]⟩,s,(aF n)] _) (by simp) (by simp) (by simp) HZ2.out (by rw[rS];have:=HZ1.out;have h0:([]:List UInt8).length=0:=rfl;dsimp only;omega) (HI22.out) (by have:=hS.2.2.2.size;have:=HBB.out;have:=HI22.out.lt;omega))
 go_simp;go_at_call 79;refine HL.out.mono ?_
 rintro e w23 ⟨rfl,hi_w23,hb_w23,ho_w23⟩
 refine hK.out _ _ (⟨ho_w23 _ _ hS.1 (by simp;have:=HI15.out.lt;omega) (by simp),ho_w23 _ _ hS.2.1 (by simp) (by simp),ho_w23 _ _ hS.2.2.1 (by simp;have:=HXB.out;omega) (by simp),hS.2.2.2.trans (hb_w23.mono HBB.out)⟩) (fun hS=>?_)
 clear hK K
 (try simp only[Act.put,pq])
 refine wpAnyH_done (by kernel_rfl) ?_ _
 (try dsimp only)
 have HI24:Hid (IsJw 141 b b (lnW (lnW ⟨[],0⟩ s1) s2) w23):=hid hi_w23
 have HS24:=hid hS
 clear hS hi_w23
 have m5:=aA HS24.out.2.1 5
 have m6:=aA HS24.out.2.1 6
 have m7:=aA HS24.out.2.1 7
 have x8:=aA HS24.out.2.2.1 8
 (try dsimp only at m5 m6 m7 x8)
 go_wp2
 rw[rounds_succ]
 go_wp2
 refine wp_loop_rounds 1 ?_
 rw[rounds_succ]
 go_wp2
 refine wp_loop_rounds 1 ?_
 rw[rounds_succ]
 go_wp2
 refine wp_loop_rounds 1 ?_
 rw[rounds_succ]
 go_wp2
 refine wp_loop_rounds 1 ?_
 rw[rounds_succ]
 clear m5 m6 m7 x8
 have HBN:=hid HS24.out.2.2.2
 have HL3:=hid (jA b b (lnW (lnW ⟨[],0⟩ s1) s2) w23.heap.size 1 [⟨#[101,110,100]⟩] ⟨#[101,110,100]⟩ (by kernel_rfl) (w23.alloc (.cells #[.string ⟨#[101,110,100]⟩] 9)) (aU w23 [⟨#[101,110,100]⟩] _) (by simp) (by simp) (by simp) (by simp[ByteArray.size]) (by rw[rS,rS];have h1:=HZ1.out;have h2:=HZ2.out;have h0:([]:List UInt8).length=0:=rfl;dsimp only;omega) (HI24.out.ext ((Below.refl _ w23).alloc lr _)) (by have:=HI24.out.lt;simp;omega))
 go_upto_region 38 with (go_at_call 79;refine HL3.out.mono ?_;rintro r w31 ⟨rfl,hi31,hb31,ho31⟩;have e31:=hi31.eCell;have HI31:=hid hi31;have HB31:=hid hb31;clear hi31 hb31 ho31)
 obtain⟨ec,ef⟩:=e31
 have hje:(lnW (lnW (lnW ⟨[],0⟩ s1) s2) ⟨#[101,110,100]⟩).e=0:=rfl
 rw[hje] at ec
 have HSJ:=hid (pZ 141 b b _ w31 HI31.out (by unfold lnW;simp) (by have:=HI31.out.lt;omega))
 go_wp2_with (go_at_call 84;refine HSJ.out.mono ?_;rintro r w32 ⟨rfl,hb32,ho32⟩)
 go_ret2
 exact⟨rfl,((HBN.out.alloc HBN.out.size _).trans (HB31.out.mono HBB.out)).trans (hb32.mono HBB.out)⟩
end
end Go.Proofs.YteladbdfiannjaaGreatDoor
