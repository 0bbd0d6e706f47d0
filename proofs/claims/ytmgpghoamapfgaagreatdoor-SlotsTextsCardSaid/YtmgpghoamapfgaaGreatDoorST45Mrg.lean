/- A part. -/
import Derived.Test.YtmgpghoamapfgaaGreatDoorST34Mrg
import Derived.Test.YtmgpghoamapfgaaGreatDoorST44Mrg
namespace Go.Proofs.YtmgpghoamapfgaaGreatDoor
set_option linter.unusedVariables false
set_option maxRecDepth 100000
set_option maxHeartbeats 16000000
set_option linter.unusedSimpArgs false
open Go Go.RowKit Go.Shelf
theorem aK8 (i:Int) (w:World):CP 27 #[I6 i] w (Rt (.agg #[I6 2,I6 i,I6 0,.string ⟨#[]⟩,.slice none 0 0,.slice none 0 0]) w):=by
 go_enter Tryz.func27,Tryz.ntmps27
 go_wp2;have hB:=heap_alloc_new w (.cells #[I6 2,I6 i,I6 0,.string ⟨#[]⟩,.slice none 0 0,.slice none 0 0] 36);exact bodyPost_ret (v:=.agg #[I6 2,I6 i,I6 0,.string ⟨#[]⟩,.slice none 0 0,.slice none 0 0]) (by simp[results,Tryz.results27,go_sem,aA hB]) rfl ⟨rfl,(bR w).alloc lr _⟩
theorem knownS_get:mM knownS.l keyA=true/\sO knownS.l keyA=0:=⟨by kernel_rfl,by kernel_rfl⟩
theorem aDu (w:World) (hT:Tabs w):CP 5 #[] w (Rt (.bool true) w):=by
 have HT:=hid hT;clear hT;go_enter Tryz.func5,Tryz.ntmps5
 go_upto_region 2 with (first
  | (go_at_call 27;refine(aK8 7 _).mono ?_;rintro e w2 ⟨rfl,hb2⟩)
  | (go_at_call 26;refine(oX _ _).mono ?_;rintro e w1 ⟨rfl,hb1⟩))
 obtain⟨w3,hw3⟩:=ez (((w2.alloc v7Obj).alloc (slObj w2.heap.size)).alloc (sBox (w2.heap.size+1)))
 rw[<-hw3];have hb02:BB w w2:=hb1.trans (hb2.mono hb1.size);have hz2:=hb02.size;have hb3:BB w w3:=by rw[hw3];exact((hb02.alloc hz2 _).alloc gj _).alloc gj _
 have G0:w3.heap[w2.heap.size]?=some v7Obj:=by rw[hw3];exact aD _ (aD _ (heap_alloc_new _ _))
 have G1:w3.heap[w2.heap.size+1]?=some (slObj w2.heap.size):=by rw[hw3];exact aD _ (aS _ _ _ gd)
 have G2:w3.heap[w2.heap.size+2]?=some (sBox (w2.heap.size+1)):=by rw[hw3];exact aS _ _ _ gd
 have Hg:=hid (aKm w3 (HT.out.below hb3) _ _ G1 G0);have Hi:=hid hb3;have HG:=hid (And.intro G0 (And.intro G1 G2));have b0:=aA G2 0;have b1:=aA G2 1;have b2:=aA G2 2
 (try dsimp only at b0 b1 b2)
 clear hw3 hb3 hz2 hb02 hb1 hb2 G0 G1 G2;go_upto_region 3 with (go_at_call 7;refine Hg.out.mono ?_;rintro e w4 ⟨rfl,hb4⟩)
 clear b0 b1 b2;have hb04:=Hi.out.trans (hb4.mono Hi.out.size);obtain⟨G0,G1,G2⟩:=HG.out;have Hd:Hid (∀w',BB w4 w'->w'.heap[w2.heap.size+2]?=some (sBox (w2.heap.size+1))):=hid fun w' h=>aB h (aB hb4 G2);have Hc:Hid (∀w',BB w4 w'->IsSta (· < w'.heap.size) w' ⟨2,0,some ⟨w2.heap.size+1,0,none⟩,1,1⟩ knownS):=hid fun w' h=>zJ (S:=(· < w'.heap.size)) (ltOf (aB h (aB hb4 G1))) (ltOf (aB h (aB hb4 G0))) (aB h (aB hb4 G1)) (aB h (aB hb4 G0))
 have Ha:Hid (∀w',BB w4 w'->CP 28 #[.agg #[I6 2,I6 0,.slice (some ⟨w2.heap.size+1,0,none⟩) 1 1],.agg #[I6 4,I6 0,I6 0,.string ⟨#[97]⟩,.slice none 0 0,.slice none 0 0]] w' fun e w''=>∃c6:SlC,e=.returned (.tuple #[c6.v,.bool true])/\c6.t=50/\BB w' w''):=hid fun w' h =>
  (aMy ⟨2,0,some ⟨w2.heap.size+1,0,none⟩,1,1⟩ knownS ⟨4,0,0,⟨#[97]⟩,none,0,0,none,0,0⟩ keyA w' (Hc.out w' h) (aBt _ _)).mono fun e w'' ⟨c,d,he,hb,hi,h1,_⟩=>by
    have h2:=h1 knownS_get.1;rw[knownS_get.2] at h2;have h3:d=⟨keyA,1,50,[],[val7]⟩:=by injection h2 with h2;exact h2.symm
    refine⟨c,by rw[he,knownS_get.1],?_,hb⟩;rw[hi.t,h3]
 have He:Hid (∀w',BB w4 w'->CP 29 #[.agg #[I6 2,I6 0,.slice (some ⟨w2.heap.size+1,0,none⟩) 1 1]] w' (Rt (I6 0) w')):=hid fun w' h=>by
  have h1:=fH _ _ w' (Hc.out w' h) (HT.out.below (hb04.trans (h.mono hb04.size)));rw[qG] at h1;exact h1
 have HC:Hid (∀w',BB w4 w'->w'.cell? ⟨w2.heap.size+2,0,none⟩=some (I6 2)/\w'.cell? ⟨w2.heap.size+2,1,none⟩=some (I6 0)/\w'.cell? ⟨w2.heap.size+2,2,none⟩=some (.slice (some ⟨w2.heap.size+1,0,none⟩) 1 1)):=hid fun w' h=>by
  have h1:=Hd.out w' h;exact⟨aA h1 0,aA h1 1,aA h1 2⟩
 have Hf:=hid hb04;clear hb04 hb4 G0 G1 G2 Hg Hi HG Hc;refine wp_region_held_drew (S:=(fun w'=>BB w4 w')) ge ((Below.refl _ _).drew) (fun hS=>?_);refine tc 0 HC ?_;refine ry [1,6] ?_;refine AllReadyH.cons (o:=_) rfl (fun K hK=>?_) ?_
 ·go_simp;go_at_call 26;refine(oX _ _).mono ?_;rintro e w5 ⟨rfl,hb5⟩;have Hj:=hid (hS.trans (hb5.mono hS.size));refine hK.out _ _ (hS.trans (hb5.mono hS.size)) (fun hS=>?_);clear hK K
  (try simp only[Act.put,pq])
  refine ry [2,6] ?_;refine AllReadyH.cons (o:=_) rfl (fun K hK=>?_) ?_
  ·go_simp;go_at_call 28;refine(Ha.out _ hS).mono ?_;rintro e w6 ⟨c6,rfl,ht6,hb6⟩;have Hh:=hid (hS.trans (hb6.mono hS.size));obtain⟨⟨kk,ki,ks,kt,kla,kll,klc,kfa,kfl,kfc⟩,cn,ct,ia,il,ic,va,vl,vc⟩:=c6;dsimp only at ht6;subst ht6;dsimp only[SlC.v];refine hK.out _ _ (hS.trans (hb6.mono hS.size)) (fun hS=>?_);clear hK K
   (try simp only[Act.put,pq])
   refine tc 3 HC ?_;refine tc 4 HC ?_;refine tc 5 HC ?_;refine yr 6 fun K hK=>?_;go_simp;refine hK.out _ _ (hS.trans (((Below.refl _ _).alloc lr _).mono hS.size)) (fun hS=>?_);clear hK K
   (try simp only[Act.put,pq])
   refine yr 7 fun K hK=>?_;generalize hw7:World.alloc _ _=w7 at hS ⊢;have hz:w7.heap[w6.heap.size]?=some (.cells #[I6 0,I6 0,I6 0,.string ⟨#[]⟩,.slice none 0 0,.slice none 0 0,I6 0,I6 0,.slice none 0 0,.slice none 0 0] 66):=by rw[<-hw7];exact heap_alloc_new _ _
   clear hw7;have y0:=aA hz 0;have y1:=aA hz 1;have y2:=aA hz 2;have y3:=aA hz 3;have y4:=aA hz 4;have y5:=aA hz 5;have y6:=aA hz 6;have y7:=aA hz 7;have y8:=aA hz 8;have y9:=aA hz 9;have u0:=aC hz 0;have u1:=aC hz 1;have u2:=aC hz 2;have u3:=aC hz 3;have u4:=aC hz 4;have u5:=aC hz 5;have u6:=aC hz 6;have u7:=aC hz 7;have u8:=aC hz 8;have u9:=aC hz 9
   (try dsimp only at y0 y1 y2 y3 y4 y5 y6 y7 y8 y9)
   go_simp;clear y0 u0 y1 u1 y2 u2 y3 u3 y4 u4 y5 u5 y6 u6 y7 u7 y8 u8 y9 u9;obtain⟨w8,hw8⟩:=ez (putTen w7 (w6.heap.size) (I6 kk) (I6 ki) (I6 ks) (.string kt) (.slice kla kll klc) (.slice kfa kfl kfc) (I6 cn) (I6 50) (.slice ia il ic) (.slice va vl vc))
   have h1:=fX (B:=w6.heap.size) (w:=w7) (v0:=I6 kk) (v1:=I6 ki) (v2:=I6 ks) (v3:=.string kt) (v4:=.slice kla kll klc) (v5:=.slice kfa kfl kfc) (v6:=I6 cn) (v7:=I6 50) (v8:=.slice ia il ic) (v9:=.slice va vl vc) hz;rw[<-hw8] at h1;have h8:BB w4 w8:=by rw[hw8];exact hS.trans (eV (I6 kk) (I6 ki) (I6 ks) (.string kt) (.slice kla kll klc) (.slice kfa kfl kfc) (I6 cn) (I6 50) (.slice ia il ic) (.slice va vl vc) w7 (w6.heap.size) w4.heap.size (Hh.out.size))
   dsimp only[putTen] at hw8;rw[<-hw8];clear hw8;have q7:=aA h1 7
   (try dsimp only at q7)
   clear h1;refine hK.out _ _ (h8) (fun hS=>?_);clear hK K
   (try simp only[Act.put,pq])
   refine tc 8 HC ?_;refine wpAnyH_done ge ?_ _
   (try dsimp only)
   have hg:=Hd.out _ hS;have b0:=aA hg 0;have b1:=aA hg 1;have b2:=aA hg 2
   (try dsimp only at b0 b1 b2)
   have Hb:=hid (He.out _ hS);have H8:=hid hS;clear hS h8 hg He Hd Ha;go_wp2_with (go_at_call 29;refine Hb.out.mono ?_;rintro e w9 ⟨rfl,hb9⟩)
   go_ret;exact⟨rfl,Hf.out.trans ((H8.out.trans (hb9.mono H8.out.size)).mono Hf.out.size)⟩
  refine arQ fun K hK=>?_;go_simp;refine hK.out _ _ (hS.trans (((Below.refl _ _).alloc lr _).mono hS.size)) (fun hS=>?_);clear hK K
  (try simp only[Act.put,pq])
  refine yr 2 fun K hK=>?_;generalize hw51:World.alloc _ _=w51 at hS ⊢;have hz:w51.heap[w5.heap.size]?=some (.cells #[I6 0,I6 0,I6 0,.string ⟨#[]⟩,.slice none 0 0,.slice none 0 0,I6 0,I6 0,.slice none 0 0,.slice none 0 0] 66):=by rw[<-hw51];exact heap_alloc_new _ _
  clear hw51;go_simp;go_at_call 28;refine(Ha.out _ hS).mono ?_;rintro e w6 ⟨c6,rfl,ht6,hb6⟩
  replace hz:=aB hb6 hz
  have Hh:=hid (hS.trans (hb6.mono hS.size));obtain⟨⟨kk,ki,ks,kt,kla,kll,klc,kfa,kfl,kfc⟩,cn,ct,ia,il,ic,va,vl,vc⟩:=c6;dsimp only at ht6;subst ht6;dsimp only[SlC.v];refine hK.out _ _ (hS.trans (hb6.mono hS.size)) (fun hS=>?_);clear hK K
  (try simp only[Act.put,pq])
  refine tc 3 HC ?_;refine tc 4 HC ?_;refine tc 5 HC ?_;refine yr 7 fun K hK=>?_;have y0:=aA hz 0;have y1:=aA hz 1;have y2:=aA hz 2;have y3:=aA hz 3;have y4:=aA hz 4;have y5:=aA hz 5;have y6:=aA hz 6;have y7:=aA hz 7;have y8:=aA hz 8;have y9:=aA hz 9;have u0:=aC hz 0;have u1:=aC hz 1;have u2:=aC hz 2;have u3:=aC hz 3;have u4:=aC hz 4;have u5:=aC hz 5;have u6:=aC hz 6;have u7:=aC hz 7;have u8:=aC hz 8;have u9:=aC hz 9
  (try dsimp only at y0 y1 y2 y3 y4 y5 y6 y7 y8 y9)
  go_simp;clear y0 u0 y1 u1 y2 u2 y3 u3 y4 u4 y5 u5 y6 u6 y7 u7 y8 u8 y9 u9;obtain⟨w8,hw8⟩:=ez (putTen w6 (w5.heap.size) (I6 kk) (I6 ki) (I6 ks) (.string kt) (.slice kla kll klc) (.slice kfa kfl kfc) (I6 cn) (I6 50) (.slice ia il ic) (.slice va vl vc))
  have h1:=fX (B:=w5.heap.size) (w:=w6) (v0:=I6 kk) (v1:=I6 ki) (v2:=I6 ks) (v3:=.string kt) (v4:=.slice kla kll klc) (v5:=.slice kfa kfl kfc) (v6:=I6 cn) (v7:=I6 50) (v8:=.slice ia il ic) (v9:=.slice va vl vc) hz;rw[<-hw8] at h1;have h8:BB w4 w8:=by rw[hw8];exact hS.trans (eV (I6 kk) (I6 ki) (I6 ks) (.string kt) (.slice kla kll klc) (.slice kfa kfl kfc) (I6 cn) (I6 50) (.slice ia il ic) (.slice va vl vc) w6 (w5.heap.size) w4.heap.size (Hj.out.size))
  dsimp only[putTen] at hw8;rw[<-hw8];clear hw8;have q7:=aA h1 7
  (try dsimp only at q7)
  clear h1;refine hK.out _ _ (h8) (fun hS=>?_);clear hK K
  (try simp only[Act.put,pq])
  refine tc 8 HC ?_;refine wpAnyH_done ge ?_ _
  (try dsimp only)
  have hg:=Hd.out _ hS;have b0:=aA hg 0;have b1:=aA hg 1;have b2:=aA hg 2
  (try dsimp only at b0 b1 b2)
  have Hb:=hid (He.out _ hS);have H8:=hid hS;clear hS h8 hg He Hd Ha;go_wp2_with (go_at_call 29;refine Hb.out.mono ?_;rintro e w9 ⟨rfl,hb9⟩)
  go_ret;exact⟨rfl,Hf.out.trans ((H8.out.trans (hb9.mono H8.out.size)).mono Hf.out.size)⟩
 refine arQ fun K hK=>?_;go_simp;refine hK.out _ _ (hS.trans (((Below.refl _ _).alloc lr _).mono hS.size)) (fun hS=>?_);clear hK K
 (try simp only[Act.put,pq])
 refine yr 1 fun K hK=>?_;generalize hw41:World.drew _=w41 at hS ⊢;have hz:w41.heap[w4.heap.size]?=some (.cells #[I6 0,I6 0,I6 0,.string ⟨#[]⟩,.slice none 0 0,.slice none 0 0,I6 0,I6 0,.slice none 0 0,.slice none 0 0] 66):=by rw[<-hw41];exact heap_alloc_new _ _
 clear hw41;go_simp;go_at_call 26;refine(oX _ _).mono ?_;rintro e w5 ⟨rfl,hb5⟩
 replace hz:=aB hb5 hz
 have Hj:=hid (hS.trans (hb5.mono hS.size));refine hK.out _ _ (hS.trans (hb5.mono hS.size)) (fun hS=>?_);clear hK K
 (try simp only[Act.put,pq])
 refine yr 2 fun K hK=>?_;go_simp;go_at_call 28;refine(Ha.out _ hS).mono ?_;rintro e w6 ⟨c6,rfl,ht6,hb6⟩
 replace hz:=aB hb6 hz
 have Hh:=hid (hS.trans (hb6.mono hS.size));obtain⟨⟨kk,ki,ks,kt,kla,kll,klc,kfa,kfl,kfc⟩,cn,ct,ia,il,ic,va,vl,vc⟩:=c6;dsimp only at ht6;subst ht6;dsimp only[SlC.v];refine hK.out _ _ (hS.trans (hb6.mono hS.size)) (fun hS=>?_);clear hK K
 (try simp only[Act.put,pq])
 refine tc 3 HC ?_;refine tc 4 HC ?_;refine tc 5 HC ?_;refine yr 7 fun K hK=>?_;have y0:=aA hz 0;have y1:=aA hz 1;have y2:=aA hz 2;have y3:=aA hz 3;have y4:=aA hz 4;have y5:=aA hz 5;have y6:=aA hz 6;have y7:=aA hz 7;have y8:=aA hz 8;have y9:=aA hz 9;have u0:=aC hz 0;have u1:=aC hz 1;have u2:=aC hz 2;have u3:=aC hz 3;have u4:=aC hz 4;have u5:=aC hz 5;have u6:=aC hz 6;have u7:=aC hz 7;have u8:=aC hz 8;have u9:=aC hz 9
 (try dsimp only at y0 y1 y2 y3 y4 y5 y6 y7 y8 y9)
 go_simp;clear y0 u0 y1 u1 y2 u2 y3 u3 y4 u4 y5 u5 y6 u6 y7 u7 y8 u8 y9 u9;obtain⟨w8,hw8⟩:=ez (putTen w6 (w4.heap.size) (I6 kk) (I6 ki) (I6 ks) (.string kt) (.slice kla kll klc) (.slice kfa kfl kfc) (I6 cn) (I6 50) (.slice ia il ic) (.slice va vl vc))
 have h1:=fX (B:=w4.heap.size) (w:=w6) (v0:=I6 kk) (v1:=I6 ki) (v2:=I6 ks) (v3:=.string kt) (v4:=.slice kla kll klc) (v5:=.slice kfa kfl kfc) (v6:=I6 cn) (v7:=I6 50) (v8:=.slice ia il ic) (v9:=.slice va vl vc) hz;rw[<-hw8] at h1;have h8:BB w4 w8:=by rw[hw8];exact hS.trans (eV (I6 kk) (I6 ki) (I6 ks) (.string kt) (.slice kla kll klc) (.slice kfa kfl kfc) (I6 cn) (I6 50) (.slice ia il ic) (.slice va vl vc) w6 (w4.heap.size) w4.heap.size (Nat.le_refl w4.heap.size))
 dsimp only[putTen] at hw8;rw[<-hw8];clear hw8;have q7:=aA h1 7
 (try dsimp only at q7)
 clear h1;refine hK.out _ _ (h8) (fun hS=>?_);clear hK K
 (try simp only[Act.put,pq])
 refine tc 8 HC ?_;refine wpAnyH_done ge ?_ _
 (try dsimp only)
 have hg:=Hd.out _ hS;have b0:=aA hg 0;have b1:=aA hg 1;have b2:=aA hg 2
 (try dsimp only at b0 b1 b2)
 have Hb:=hid (He.out _ hS);have H8:=hid hS;clear hS h8 hg He Hd Ha;go_wp2_with (go_at_call 29;refine Hb.out.mono ?_;rintro e w9 ⟨rfl,hb9⟩)
 go_ret;exact⟨rfl,Hf.out.trans ((H8.out.trans (hb9.mono H8.out.size)).mono Hf.out.size)⟩
end Go.Proofs.YtmgpghoamapfgaaGreatDoor
