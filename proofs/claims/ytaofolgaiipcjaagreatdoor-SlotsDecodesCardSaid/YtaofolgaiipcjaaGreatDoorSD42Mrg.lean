/- A part. -/
import Derived.Test.YtaofolgaiipcjaaGreatDoorSD38Mrg
import Derived.Test.YtaofolgaiipcjaaGreatDoorSD41Mrg
namespace Go.Proofs.YtaofolgaiipcjaaGreatDoor
set_option linter.unusedVariables false
set_option maxRecDepth 100000
set_option maxHeartbeats 16000000
set_option linter.unusedSimpArgs false
open Go Go.RowKit Go.Shelf
theorem jMb (i:Int) (w:World):Calls Tryz.prog 57 #[.int .i64 i] w fun e w'=>e=.returned (.agg #[.int .i64 2,.int .i64 i,.int .i64 0,.string ⟨#[]⟩,.slice none 0 0,.slice none 0 0])∧Below w.heap.size w w':=by
 go_enter Tryz.func57,Tryz.ntmps57
 go_wp2;have hB:=heap_alloc_new w (.cells #[.int .i64 2,.int .i64 i,.int .i64 0,.string ⟨#[]⟩,.slice none 0 0,.slice none 0 0] 25);exact bodyPost_ret (v:=.agg #[.int .i64 2,.int .i64 i,.int .i64 0,.string ⟨#[]⟩,.slice none 0 0,.slice none 0 0]) (by simp[results,Tryz.results57,go_sem,jA hB]) rfl ⟨rfl,(bR w).alloc lr _⟩
theorem knownS_get:jAc knownS.l keyA=true∧jFo knownS.l keyA=0:=⟨by kernel_rfl,by kernel_rfl⟩
theorem jH3 (w:World) (hT:Tabs w):Calls Tryz.prog 21 #[] w fun e w'=>e=.returned (.bool true)∧Below w.heap.size w w':=by
 have HT:=hid hT;clear hT;go_enter Tryz.func21,Tryz.ntmps21
 go_upto_region 2 with (first
  | (go_at_call 57;refine(jMb 7 _).mono ?_;rintro e w2 ⟨rfl,hb2⟩)
  | (go_at_call 56;refine(zA _ _).mono ?_;rintro e w1 ⟨rfl,hb1⟩))
 obtain⟨w3,hw3⟩:∃w3,w3=((w2.alloc v7Obj).alloc (slObj w2.heap.size)).alloc (sBox (w2.heap.size+1)):=⟨_,rfl⟩
 rw[←hw3];have hb02:Below w.heap.size w w2:=hb1.trans (hb2.mono hb1.size);have hz2:=hb02.size;have hb3:Below w.heap.size w w3:=by rw[hw3];exact((hb02.alloc hz2 _).alloc (by simp;omega) _).alloc (by simp;omega) _
 have G0:w3.heap[w2.heap.size]?=some v7Obj:=by rw[hw3];exact jD _ (jD _ (heap_alloc_new _ _))
 have G1:w3.heap[w2.heap.size+1]?=some (slObj w2.heap.size):=by rw[hw3];exact jD _ (jK _ _ _ (by simp))
 have G2:w3.heap[w2.heap.size+2]?=some (sBox (w2.heap.size+1)):=by rw[hw3];exact jK _ _ _ (by simp)
 have HENC:=hid (jMt w3 (HT.out.below hb3) _ _ G1 G0);have HB3:=hid hb3;have HG:=hid (And.intro G0 (And.intro G1 G2));have b0:=jA G2 0;have b1:=jA G2 1;have b2:=jA G2 2
 (try dsimp only at b0 b1 b2)
 clear hw3 hb3 hz2 hb02 hb1 hb2 G0 G1 G2;go_upto_region 3 with (go_at_call 23;refine HENC.out.mono ?_;rintro e w4 ⟨rfl,hb4⟩)
 clear b0 b1 b2;have hb04:=HB3.out.trans (hb4.mono HB3.out.size);obtain⟨G0,G1,G2⟩:=HG.out;have HBX:Hid (∀w',Below w4.heap.size w4 w'→w'.heap[w2.heap.size+2]?=some (sBox (w2.heap.size+1))):=hid fun w' h=>jB h (jB hb4 G2);have HSTA:Hid (∀w',Below w4.heap.size w4 w'→IsSta (· < w'.heap.size) w' ⟨2,0,some ⟨w2.heap.size+1,0,none⟩,1,1⟩ knownS):=hid fun w' h=>jFc (S:=(· < w'.heap.size)) (ltOf (jB h (jB hb4 G1))) (ltOf (jB h (jB hb4 G0))) (jB h (jB hb4 G1)) (jB h (jB hb4 G0))
 have HGET:Hid (∀w',Below w4.heap.size w4 w'→Calls Tryz.prog 58 #[.agg #[.int .i64 2,.int .i64 0,.slice (some ⟨w2.heap.size+1,0,none⟩) 1 1],.agg #[.int .i64 4,.int .i64 0,.int .i64 0,.string ⟨#[97]⟩,.slice none 0 0,.slice none 0 0]] w' fun e w''=>∃c6:SlC,e=.returned (.tuple #[c6.v,.bool true])∧c6.t=50∧Below w'.heap.size w' w''):=hid fun w' h =>
  (get_call ⟨2,0,some ⟨w2.heap.size+1,0,none⟩,1,1⟩ knownS ⟨4,0,0,⟨#[97]⟩,none,0,0,none,0,0⟩ keyA w' (HSTA.out w' h) (jH4 _ _)).mono fun e w'' ⟨c,d,he,hb,hi,h1,_⟩=>by
    have h2:=h1 knownS_get.1;rw[knownS_get.2] at h2;have h3:d=⟨keyA,1,50,[],[val7]⟩:=by injection h2 with h2;exact h2.symm
    refine⟨c,by rw[he,knownS_get.1],?_,hb⟩;rw[hi.t,h3]
 have HCK:Hid (∀w',Below w4.heap.size w4 w'→Calls Tryz.prog 27 #[.agg #[.int .i64 2,.int .i64 0,.slice (some ⟨w2.heap.size+1,0,none⟩) 1 1]] w' fun e w''=>e=.returned (.int .i64 0)∧Below w'.heap.size w' w''):=hid fun w' h=>by
  have h1:=kX _ _ w' (HSTA.out w' h) (HT.out.below (hb04.trans (h.mono hb04.size)));rw[jA5] at h1;exact h1
 have HC:Hid (∀w',Below w4.heap.size w4 w'→w'.cell? ⟨w2.heap.size+2,0,none⟩=some (.int .i64 2)∧w'.cell? ⟨w2.heap.size+2,1,none⟩=some (.int .i64 0)∧w'.cell? ⟨w2.heap.size+2,2,none⟩=some (.slice (some ⟨w2.heap.size+1,0,none⟩) 1 1)):=hid fun w' h=>by
  have h1:=HBX.out w' h;exact⟨jA h1 0,jA h1 1,jA h1 2⟩
 have HB4:=hid hb04;clear hb04 hb4 G0 G1 G2 HENC HB3 HG HSTA;refine wp_region_held_drew (S:=(fun w'=>Below w4.heap.size w4 w')) (by kernel_rfl) ((Below.refl _ _).drew) (fun hS=>?_);refine tkQ 0 (v:=?_) ?_ hS ?_;rotate_left;· intro w' hw';have hcells:=HC.out w' hw';go_simp;(try rfl)
 simp only[Act.put,pq];refine ry [1,6] ?_;refine AllReadyH.cons (o:=_) rfl (fun K hK=>?_) ?_
 ·go_simp;go_at_call 56;refine(zA _ _).mono ?_;rintro e w5 ⟨rfl,hb5⟩;have HS5:=hid (hS.trans (hb5.mono hS.size));refine hK.out _ _ (hS.trans (hb5.mono hS.size)) (fun hS=>?_);clear hK K
  (try simp only[Act.put,pq])
  refine ry [2,6] ?_;refine AllReadyH.cons (o:=_) rfl (fun K hK=>?_) ?_
  ·go_simp;go_at_call 58;refine(HGET.out _ hS).mono ?_;rintro e w6 ⟨c6,rfl,ht6,hb6⟩;have HS6:=hid (hS.trans (hb6.mono hS.size));obtain⟨⟨kk,ki,ks,kt,kla,kll,klc,kfa,kfl,kfc⟩,cn,ct,ia,il,ic,va,vl,vc⟩:=c6;dsimp only at ht6;subst ht6;dsimp only[SlC.v];refine hK.out _ _ (hS.trans (hb6.mono hS.size)) (fun hS=>?_);clear hK K
   (try simp only[Act.put,pq])
   refine tkQ 3 (v:=?_) ?_ hS ?_;rotate_left;· intro w' hw';have hcells:=HC.out w' hw';go_simp;(try rfl)
   simp only[Act.put,pq];refine tkQ 4 (v:=?_) ?_ hS ?_;rotate_left;· intro w' hw';have hcells:=HC.out w' hw';go_simp;(try rfl)
   simp only[Act.put,pq];refine tkQ 5 (v:=?_) ?_ hS ?_;rotate_left;· intro w' hw';have hcells:=HC.out w' hw';go_simp;(try rfl)
   simp only[Act.put,pq];refine ry [6] ?_;refine arQ fun K hK=>?_;go_simp;refine hK.out _ _ (hS.trans (((Below.refl _ _).alloc lr _).mono hS.size)) (fun hS=>?_);clear hK K
   (try simp only[Act.put,pq])
   refine ry [7] ?_;refine arQ fun K hK=>?_;generalize hw7:World.alloc _ _=w7 at hS ⊢;have hz:w7.heap[w6.heap.size]?=some (.cells #[.int .i64 0,.int .i64 0,.int .i64 0,.string ⟨#[]⟩,.slice none 0 0,.slice none 0 0,.int .i64 0,.int .i64 0,.slice none 0 0,.slice none 0 0] 107):=by rw[←hw7];exact heap_alloc_new _ _
   clear hw7;have y0:=jA hz 0;have y1:=jA hz 1;have y2:=jA hz 2;have y3:=jA hz 3;have y4:=jA hz 4;have y5:=jA hz 5;have y6:=jA hz 6;have y7:=jA hz 7;have y8:=jA hz 8;have y9:=jA hz 9;have u0:=jC hz 0;have u1:=jC hz 1;have u2:=jC hz 2;have u3:=jC hz 3;have u4:=jC hz 4;have u5:=jC hz 5;have u6:=jC hz 6;have u7:=jC hz 7;have u8:=jC hz 8;have u9:=jC hz 9
   (try dsimp only at y0 y1 y2 y3 y4 y5 y6 y7 y8 y9)
   go_simp;clear y0 u0 y1 u1 y2 u2 y3 u3 y4 u4 y5 u5 y6 u6 y7 u7 y8 u8 y9 u9;obtain⟨w8,hw8⟩:∃w8,w8=putTen w7 (w6.heap.size) (.int .i64 kk) (.int .i64 ki) (.int .i64 ks) (.string kt) (.slice kla kll klc) (.slice kfa kfl kfc) (.int .i64 cn) (.int .i64 50) (.slice ia il ic) (.slice va vl vc):=⟨_,rfl⟩
   have h1:=mT (B:=w6.heap.size) (w:=w7) (v0:=.int .i64 kk) (v1:=.int .i64 ki) (v2:=.int .i64 ks) (v3:=.string kt) (v4:=.slice kla kll klc) (v5:=.slice kfa kfl kfc) (v6:=.int .i64 cn) (v7:=.int .i64 50) (v8:=.slice ia il ic) (v9:=.slice va vl vc) hz;rw[←hw8] at h1;have h8:Below w4.heap.size w4 w8:=by rw[hw8];exact hS.trans (mL (.int .i64 kk) (.int .i64 ki) (.int .i64 ks) (.string kt) (.slice kla kll klc) (.slice kfa kfl kfc) (.int .i64 cn) (.int .i64 50) (.slice ia il ic) (.slice va vl vc) w7 (w6.heap.size) w4.heap.size (HS6.out.size))
   dsimp only[putTen] at hw8;rw[←hw8];clear hw8;have q7:=jA h1 7
   (try dsimp only at q7)
   clear h1;refine hK.out _ _ (h8) (fun hS=>?_);clear hK K
   (try simp only[Act.put,pq])
   refine tkQ 8 (v:=?_) ?_ hS ?_;rotate_left;· intro w' hw';have hcells:=HC.out w' hw';go_simp;(try rfl)
   simp only[Act.put,pq];refine wpAnyH_done (by kernel_rfl) ?_ _
   (try dsimp only)
   have hg:=HBX.out _ hS;have b0:=jA hg 0;have b1:=jA hg 1;have b2:=jA hg 2
   (try dsimp only at b0 b1 b2)
   have HCK8:=hid (HCK.out _ hS);have H8:=hid hS;clear hS h8 hg HCK HBX HGET;go_wp2_with (go_at_call 27;refine HCK8.out.mono ?_;rintro e w9 ⟨rfl,hb9⟩)
   go_ret;exact⟨rfl,HB4.out.trans ((H8.out.trans (hb9.mono H8.out.size)).mono HB4.out.size)⟩
  refine arQ fun K hK=>?_;go_simp;refine hK.out _ _ (hS.trans (((Below.refl _ _).alloc lr _).mono hS.size)) (fun hS=>?_);clear hK K
  (try simp only[Act.put,pq])
  refine ry [2] ?_;refine arQ fun K hK=>?_;generalize hw51:World.alloc _ _=w51 at hS ⊢;have hz:w51.heap[w5.heap.size]?=some (.cells #[.int .i64 0,.int .i64 0,.int .i64 0,.string ⟨#[]⟩,.slice none 0 0,.slice none 0 0,.int .i64 0,.int .i64 0,.slice none 0 0,.slice none 0 0] 107):=by rw[←hw51];exact heap_alloc_new _ _
  clear hw51;go_simp;go_at_call 58;refine(HGET.out _ hS).mono ?_;rintro e w6 ⟨c6,rfl,ht6,hb6⟩
  replace hz:=jB hb6 hz
  have HS6:=hid (hS.trans (hb6.mono hS.size));obtain⟨⟨kk,ki,ks,kt,kla,kll,klc,kfa,kfl,kfc⟩,cn,ct,ia,il,ic,va,vl,vc⟩:=c6;dsimp only at ht6;subst ht6;dsimp only[SlC.v];refine hK.out _ _ (hS.trans (hb6.mono hS.size)) (fun hS=>?_);clear hK K
  (try simp only[Act.put,pq])
  refine tkQ 3 (v:=?_) ?_ hS ?_;rotate_left;· intro w' hw';have hcells:=HC.out w' hw';go_simp;(try rfl)
  simp only[Act.put,pq];refine tkQ 4 (v:=?_) ?_ hS ?_;rotate_left;· intro w' hw';have hcells:=HC.out w' hw';go_simp;(try rfl)
  simp only[Act.put,pq];refine tkQ 5 (v:=?_) ?_ hS ?_;rotate_left;· intro w' hw';have hcells:=HC.out w' hw';go_simp;(try rfl)
  simp only[Act.put,pq];refine ry [7] ?_;refine arQ fun K hK=>?_;have y0:=jA hz 0;have y1:=jA hz 1;have y2:=jA hz 2;have y3:=jA hz 3;have y4:=jA hz 4;have y5:=jA hz 5;have y6:=jA hz 6;have y7:=jA hz 7;have y8:=jA hz 8;have y9:=jA hz 9;have u0:=jC hz 0;have u1:=jC hz 1;have u2:=jC hz 2;have u3:=jC hz 3;have u4:=jC hz 4;have u5:=jC hz 5;have u6:=jC hz 6;have u7:=jC hz 7;have u8:=jC hz 8;have u9:=jC hz 9
  (try dsimp only at y0 y1 y2 y3 y4 y5 y6 y7 y8 y9)
  go_simp;clear y0 u0 y1 u1 y2 u2 y3 u3 y4 u4 y5 u5 y6 u6 y7 u7 y8 u8 y9 u9;obtain⟨w8,hw8⟩:∃w8,w8=putTen w6 (w5.heap.size) (.int .i64 kk) (.int .i64 ki) (.int .i64 ks) (.string kt) (.slice kla kll klc) (.slice kfa kfl kfc) (.int .i64 cn) (.int .i64 50) (.slice ia il ic) (.slice va vl vc):=⟨_,rfl⟩
  have h1:=mT (B:=w5.heap.size) (w:=w6) (v0:=.int .i64 kk) (v1:=.int .i64 ki) (v2:=.int .i64 ks) (v3:=.string kt) (v4:=.slice kla kll klc) (v5:=.slice kfa kfl kfc) (v6:=.int .i64 cn) (v7:=.int .i64 50) (v8:=.slice ia il ic) (v9:=.slice va vl vc) hz;rw[←hw8] at h1;have h8:Below w4.heap.size w4 w8:=by rw[hw8];exact hS.trans (mL (.int .i64 kk) (.int .i64 ki) (.int .i64 ks) (.string kt) (.slice kla kll klc) (.slice kfa kfl kfc) (.int .i64 cn) (.int .i64 50) (.slice ia il ic) (.slice va vl vc) w6 (w5.heap.size) w4.heap.size (HS5.out.size))
  dsimp only[putTen] at hw8;rw[←hw8];clear hw8;have q7:=jA h1 7
  (try dsimp only at q7)
  clear h1;refine hK.out _ _ (h8) (fun hS=>?_);clear hK K
  (try simp only[Act.put,pq])
  refine tkQ 8 (v:=?_) ?_ hS ?_;rotate_left;· intro w' hw';have hcells:=HC.out w' hw';go_simp;(try rfl)
  simp only[Act.put,pq];refine wpAnyH_done (by kernel_rfl) ?_ _
  (try dsimp only)
  have hg:=HBX.out _ hS;have b0:=jA hg 0;have b1:=jA hg 1;have b2:=jA hg 2
  (try dsimp only at b0 b1 b2)
  have HCK8:=hid (HCK.out _ hS);have H8:=hid hS;clear hS h8 hg HCK HBX HGET;go_wp2_with (go_at_call 27;refine HCK8.out.mono ?_;rintro e w9 ⟨rfl,hb9⟩)
  go_ret;exact⟨rfl,HB4.out.trans ((H8.out.trans (hb9.mono H8.out.size)).mono HB4.out.size)⟩
 refine arQ fun K hK=>?_;go_simp;refine hK.out _ _ (hS.trans (((Below.refl _ _).alloc lr _).mono hS.size)) (fun hS=>?_);clear hK K
 (try simp only[Act.put,pq])
 refine ry [1] ?_;refine arQ fun K hK=>?_;generalize hw41:World.drew _=w41 at hS ⊢;have hz:w41.heap[w4.heap.size]?=some (.cells #[.int .i64 0,.int .i64 0,.int .i64 0,.string ⟨#[]⟩,.slice none 0 0,.slice none 0 0,.int .i64 0,.int .i64 0,.slice none 0 0,.slice none 0 0] 107):=by rw[←hw41];exact heap_alloc_new _ _
 clear hw41;go_simp;go_at_call 56;refine(zA _ _).mono ?_;rintro e w5 ⟨rfl,hb5⟩
 replace hz:=jB hb5 hz
 have HS5:=hid (hS.trans (hb5.mono hS.size));refine hK.out _ _ (hS.trans (hb5.mono hS.size)) (fun hS=>?_);clear hK K
 (try simp only[Act.put,pq])
 refine ry [2] ?_;refine arQ fun K hK=>?_;go_simp;go_at_call 58;refine(HGET.out _ hS).mono ?_;rintro e w6 ⟨c6,rfl,ht6,hb6⟩
 replace hz:=jB hb6 hz
 have HS6:=hid (hS.trans (hb6.mono hS.size));obtain⟨⟨kk,ki,ks,kt,kla,kll,klc,kfa,kfl,kfc⟩,cn,ct,ia,il,ic,va,vl,vc⟩:=c6;dsimp only at ht6;subst ht6;dsimp only[SlC.v];refine hK.out _ _ (hS.trans (hb6.mono hS.size)) (fun hS=>?_);clear hK K
 (try simp only[Act.put,pq])
 refine tkQ 3 (v:=?_) ?_ hS ?_;rotate_left;· intro w' hw';have hcells:=HC.out w' hw';go_simp;(try rfl)
 simp only[Act.put,pq];refine tkQ 4 (v:=?_) ?_ hS ?_;rotate_left;· intro w' hw';have hcells:=HC.out w' hw';go_simp;(try rfl)
 simp only[Act.put,pq];refine tkQ 5 (v:=?_) ?_ hS ?_;rotate_left;· intro w' hw';have hcells:=HC.out w' hw';go_simp;(try rfl)
 simp only[Act.put,pq];refine ry [7] ?_;refine arQ fun K hK=>?_;have y0:=jA hz 0;have y1:=jA hz 1;have y2:=jA hz 2;have y3:=jA hz 3;have y4:=jA hz 4;have y5:=jA hz 5;have y6:=jA hz 6;have y7:=jA hz 7;have y8:=jA hz 8;have y9:=jA hz 9;have u0:=jC hz 0;have u1:=jC hz 1;have u2:=jC hz 2;have u3:=jC hz 3;have u4:=jC hz 4;have u5:=jC hz 5;have u6:=jC hz 6;have u7:=jC hz 7;have u8:=jC hz 8;have u9:=jC hz 9
 (try dsimp only at y0 y1 y2 y3 y4 y5 y6 y7 y8 y9)
 go_simp;clear y0 u0 y1 u1 y2 u2 y3 u3 y4 u4 y5 u5 y6 u6 y7 u7 y8 u8 y9 u9;obtain⟨w8,hw8⟩:∃w8,w8=putTen w6 (w4.heap.size) (.int .i64 kk) (.int .i64 ki) (.int .i64 ks) (.string kt) (.slice kla kll klc) (.slice kfa kfl kfc) (.int .i64 cn) (.int .i64 50) (.slice ia il ic) (.slice va vl vc):=⟨_,rfl⟩
 have h1:=mT (B:=w4.heap.size) (w:=w6) (v0:=.int .i64 kk) (v1:=.int .i64 ki) (v2:=.int .i64 ks) (v3:=.string kt) (v4:=.slice kla kll klc) (v5:=.slice kfa kfl kfc) (v6:=.int .i64 cn) (v7:=.int .i64 50) (v8:=.slice ia il ic) (v9:=.slice va vl vc) hz;rw[←hw8] at h1;have h8:Below w4.heap.size w4 w8:=by rw[hw8];exact hS.trans (mL (.int .i64 kk) (.int .i64 ki) (.int .i64 ks) (.string kt) (.slice kla kll klc) (.slice kfa kfl kfc) (.int .i64 cn) (.int .i64 50) (.slice ia il ic) (.slice va vl vc) w6 (w4.heap.size) w4.heap.size (Nat.le_refl w4.heap.size))
 dsimp only[putTen] at hw8;rw[←hw8];clear hw8;have q7:=jA h1 7
 (try dsimp only at q7)
 clear h1;refine hK.out _ _ (h8) (fun hS=>?_);clear hK K
 (try simp only[Act.put,pq])
 refine tkQ 8 (v:=?_) ?_ hS ?_;rotate_left;· intro w' hw';have hcells:=HC.out w' hw';go_simp;(try rfl)
 simp only[Act.put,pq];refine wpAnyH_done (by kernel_rfl) ?_ _
 (try dsimp only)
 have hg:=HBX.out _ hS;have b0:=jA hg 0;have b1:=jA hg 1;have b2:=jA hg 2
 (try dsimp only at b0 b1 b2)
 have HCK8:=hid (HCK.out _ hS);have H8:=hid hS;clear hS h8 hg HCK HBX HGET;go_wp2_with (go_at_call 27;refine HCK8.out.mono ?_;rintro e w9 ⟨rfl,hb9⟩)
 go_ret;exact⟨rfl,HB4.out.trans ((H8.out.trans (hb9.mono H8.out.size)).mono HB4.out.size)⟩
end Go.Proofs.YtaofolgaiipcjaaGreatDoor
