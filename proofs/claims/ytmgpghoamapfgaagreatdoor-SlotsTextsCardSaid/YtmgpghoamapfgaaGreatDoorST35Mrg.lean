/- A part. -/
import Derived.Test.YtmgpghoamapfgaaGreatDoorST34Mrg
namespace Go.Proofs.YtmgpghoamapfgaaGreatDoor
set_option linter.unusedVariables false
set_option maxRecDepth 100000
set_option maxHeartbeats 16000000
set_option linter.unusedSimpArgs false
open Go Go.RowKit Go.Shelf
theorem BldAt.sub {w:World} {b:Nat} {bs:List UInt8} {l l':List (Nat × Obj)} {w':World} (h:BldAt w b bs l w') (hs:∀p∈l',p∈l):BldAt w b bs l' w':=⟨h.bld,h.bw,h.n,h.m,fun p hp=>h.at' p (hs p hp)⟩
def gE (d:Sta) (k:Nat):List UInt8:=kW d.n d.t++(d.l.take k).flatMap eL
def qQ (d:Sta) (k:Nat):Int:=(d.l.take k).foldl cU 0
theorem tO (d:Sta):gE d 0=kW d.n d.t:=by simp[gE]
theorem zW (d:Sta):qQ d 0=0:=rfl
theorem tP (d:Sta) (k:Nat) (h:k<d.l.length):gE d (k+1)=gE d k++eL d.l[k]:=by
 unfold gE;rw[List.take_succ_eq_append_getElem h,List.flatMap_append,List.flatMap_singleton,List.append_assoc]
theorem rR (d:Sta) (k:Nat) (h:k<d.l.length):qQ d (k+1)=cU (qQ d k) d.l[k]:=by
 unfold qQ;rw[List.take_succ_eq_append_getElem h,List.foldl_append];rfl
theorem yD (d:Sta) (k:Nat) (h:d.l.length<=k):gE d k=oL d:=by unfold gE oL;rw[List.take_of_length_le h]
theorem aN5 (d:Sta) (k:Nat) (h:d.l.length<=k):qQ d k=fT d:=by unfold qQ fT;rw[List.take_of_length_le h]
theorem aCz (x:Slot) (h1:I64 x.n) (h2:I64 x.t) (hi:x.items.length<=2000) (hv:x.vals.length<=2000):(eL x).length<=352000000:=by
 have a:=lQ x h1 h2;have b:=fB dM 110006 x.items (fun m _=>gW m);have c:=fB gD 65543 x.vals (fun m _=>nR m);have b2:x.items.length * 110006<=2000 * 110006:=Nat.mul_le_mul_right _ hi;have c2:x.vals.length * 65543<=2000 * 65543:=Nat.mul_le_mul_right _ hv;unfold eL;rw[List.length_append,List.length_append];omega
theorem yC {d:Sta} (hz:Sz 2000 d.l) (hi:(I64 d.n/\I64 d.t)/\∀x∈d.l,I64 x.n/\I64 x.t) (k:Nat) (hk:k<=2000):(gE d k).length<=100+2000 * 352000000:=by
 have a:=fB eL 352000000 (d.l.take k) (fun x hx=>by
  have hm:=List.mem_of_mem_take hx;exact aCz x (hi.2 x hm).1 (hi.2 x hm).2 (hz.2 x hm).1 (hz.2 x hm).2)
 have b:(d.l.take k).length<=2000:=by rw[List.length_take];omega
 have c:(d.l.take k).length * 352000000<=2000 * 352000000:=Nat.mul_le_mul_right _ b;have e:(kW d.n d.t).length<=100:=by
  unfold kW;rw[pF];have:=bX _ hi.1.1;have:=bX _ hi.1.2;have:wState.size=5:=rfl;omega
 unfold gE;rw[List.length_append];omega
theorem aN7 (c:StC) (d:Sta) (w:World) (hd:IsSta (· < w.heap.size) w c d) (hT:Tabs w) (h0:aM d≠0) :
 CP 7 #[c.v] w (Rt (.tuple #[.string ⟨#[]⟩,I6 (aM d)]) w):=by
 obtain⟨sn,st,a,sl,sc⟩:=c;have hb0:BB w (w.alloc (.cells #[I6 sn,I6 st,.slice a sl sc] 24)):=(bR w).alloc lr _;have hck:=fH ⟨sn,st,a,sl,sc⟩ d (w.alloc (.cells #[I6 sn,I6 st,.slice a sl sc] 24)) (hd.same fun b q=>⟨Nat.lt_of_lt_of_le q hb0.size,hb0.block b q⟩) (hT.below hb0);obtain⟨x,hx⟩:=ez (aM d)
 rw[<-hx] at hck h0 ⊢;have hx0:(x==0)=false:=by simp;exact h0
 have hx1:(x != 0)=true:=by simp;exact h0
 have HCK:=hid hck;have HB0:=hid hb0;have HG:=hid (heap_alloc_new w (.cells #[I6 sn,I6 st,.slice a sl sc] 24));clear hck hb0 hd hT h0 hx;dsimp only[StC.v] at HCK ⊢;go_enter Tryz.func7,Tryz.ntmps7
 go_wp2_with (go_at_call 29;refine HCK.out.mono ?_;rintro e w1 ⟨rfl,hb1⟩;have HB1:=hid (HB0.out.trans (hb1.mono HB0.out.size));clear hb1)
 go_ret2
 exact⟨rfl,HB1.out⟩
theorem encS_ok (c:StC) (d:Sta) (w:World) (hd:IsSta (· < w.heap.size) w c d) (hT:Tabs w) (hZ:ZTab w) (hz:Sz 2000 d.l) (h0:aM d=0) :
 CP 7 #[c.v] w (Rt (.tuple #[.string (if fT d≠0 then ⟨#[]⟩ else ⟨(oL d).toArray⟩),I6 (fT d)]) w):=by
 obtain⟨sn,st,a,sl,sc⟩:=c;have hb0:BB w (w.alloc (.cells #[I6 sn,I6 st,.slice a sl sc] 24)):=(bR w).alloc lr _;have hck:=fH ⟨sn,st,a,sl,sc⟩ d (w.alloc (.cells #[I6 sn,I6 st,.slice a sl sc] 24)) (hd.same fun b q=>⟨Nat.lt_of_lt_of_le q hb0.size,hb0.block b q⟩) (hT.below hb0);rw[h0] at hck;have HCK:=hid hck;have HB0:=hid hb0;have HT:Hid (∀w',BB w w'->Tabs w'/\ZTab w'):=hid fun w' h=>⟨hT.below h,hZ.below h⟩
 have HG:=hid (heap_alloc_new w (.cells #[I6 sn,I6 st,.slice a sl sc] 24));have hbig:=hd.l.big;have HD:=hid hd.l;have HL:=hid hd.l.len;have HNT:=hid (And.intro hd.n (And.intro (show I64 sn by have:=hd.n;dsimp only at this;rw[this];exact hd.rn) (And.intro hd.t (show I64 st by have:=hd.t;dsimp only at this;rw[this];exact hd.rt))));have HSZ:=hid hz;have HI64:=hid (show(I64 d.n/\I64 d.t)/\∀x∈d.l,I64 x.n/\I64 x.t from⟨⟨hd.rn,hd.rt⟩,fun x hx=>by
  rcases hd.l.at' with e | ⟨b,o,_,_,q⟩
  ·rw[e] at hx;exact absurd hx gd
  ·obtain⟨j,hj,rfl⟩:=List.getElem_of_mem hx;obtain⟨y,_,hy⟩:=q j hj;exact⟨hy.rn,hy.rt⟩⟩)
 dsimp only at hbig HD HL HNT;have HWL:=hid (show w.heap.size<(w.alloc (.cells #[I6 sn,I6 st,.slice a sl sc] 24)).heap.size by simp);clear hck hb0 hd hT hZ hz h0;obtain⟨V,hV⟩:=ez (if fT d≠0 then ⟨#[]⟩ else ⟨(oL d).toArray⟩:ByteArray)
 obtain⟨er,hx⟩:=ez (fT d)
 rw[<-hV,<-hx];rw[<-hx] at hV;have HVX:=hid (And.intro hV hx);clear hV hx;dsimp only[StC.v] at HCK ⊢;go_enter Tryz.func7,Tryz.ntmps7
 go_upto_region 8 with (go_at_call 29;refine HCK.out.mono ?_;rintro e w1 ⟨rfl,hb1⟩;have hg1:=aB hb1 HG.out;have g2:=aA hg1 2;(try dsimp only at g2))
 obtain⟨w2,hw2⟩:=ez ((w1.alloc (.cells #[I6 0] 27)).alloc (.cells #[.pointer none,.slice none 0 0] 74))
 rw[<-hw2];have hz1:=hb1.size;simp only[World.size_alloc] at hz1;have hb01:BB w w1:=HB0.out.trans (hb1.mono gd);have hbl:IsBld (w1.heap.size+1) (w1.heap.size+1) [] w2:=by have h:=jK (w1.alloc (.cells #[I6 0] 27));rw[World.size_alloc] at h;rw[hw2];exact h
 have hs0:BldAt w (w1.heap.size+1) [] [(w1.heap.size,(.cells #[I6 0] 27)),(w.heap.size,(.cells #[I6 sn,I6 st,.slice a sl sc] 24))] w2:=by
  refine⟨hbl,by rw[hw2];exact(hb01.alloc ga _).alloc gj _,by rw[hw2];simp,by omega,fun p hp=>?_⟩;simp only[List.mem_cons,List.not_mem_nil,or_false] at hp;rcases hp with rfl | rfl
  ·exact⟨by rw[hw2];exact aD _ (heap_alloc_new _ _),by dsimp only;omega,fun c fz e=>by cases e⟩
  ·exact⟨by rw[hw2];exact aD _ (aD _ hg1),by dsimp only;omega,fun c fz e=>by cases e⟩
 have HS0:=hid hs0;have HB1:=hid hb01;have HC:Hid (∀w',(∃bs f,BldAt w (w1.heap.size+1) bs [(w1.heap.size,(.cells #[I6 f] 27)),(w.heap.size,(.cells #[I6 sn,I6 st,.slice a sl sc] 24))] w')->Ce w' w.heap.size 0 (I6 sn)/\Ce w' w.heap.size 1 (I6 st)):=hid fun w' ⟨_,_,h⟩=>by
  have h1:=h.at 1 gd;exact⟨aA h1 0,aA h1 1⟩
 have HWM:=hid (show w.heap.size<w1.heap.size by omega);clear hw2 hbl hs0 hb01 hg1 g2 hb1 hz1;refine wp_region_held_drew (S:=(fun w'=>∃bs f,BldAt w (w1.heap.size+1) bs [(w1.heap.size,(.cells #[I6 f] 27)),(w.heap.size,(.cells #[I6 sn,I6 st,.slice a sl sc] 24))] w')) ge (⟨_,_,HS0.out.ext (Below.refl _ _).drew⟩) (fun hS=>?_);refine tc 0 HC ?_;refine tc 1 HC ?_;refine tc 2 HC ?_;refine tc 4 HC ?_;refine tc 5 HC ?_;refine yr 3 fun K hK=>?_;generalize hwa:World.drew _=wa at hS ⊢;have ha:BldAt w (w1.heap.size+1) [] [(w1.heap.size,(.cells #[I6 0] 27)),(w.heap.size,(.cells #[I6 sn,I6 st,.slice a sl sc] 24))] wa:=by rw[<-hwa];exact HS0.out.ext (Below.refl _ w2).drew
 clear hwa;go_simp;go_at_call 35;refine(bZ sn HNT.out.2.1 wa (HT.out _ ha.bw).1).mono ?_;rintro e wc ⟨rfl,hbc⟩;have hc:=ha.ext hbc;refine hK.out _ _ (⟨_,_,hc⟩) (fun hS=>?_);clear hK K
 (try simp only[Act.put,pq])
 refine yr 6 fun K hK=>?_;go_simp;go_at_call 35;refine(bZ st HNT.out.2.2.2 wc (HT.out _ hc.bw).1).mono ?_;rintro e we ⟨rfl,hbe⟩;have he:=hc.ext hbe;refine hK.out _ _ (⟨_,_,he⟩) (fun hS=>?_);clear hK K
 (try simp only[Act.put,pq])
 refine yr 7 fun K hK=>?_;go_simp;refine hK.out _ _ (⟨_,_,he.ext ((Below.refl _ _).alloc lr _)⟩) (fun hS=>?_);clear hK K
 (try simp only[Act.put,pq])
 refine yr 8 fun K hK=>?_;generalize hwwg:World.alloc _ _=wg at hS ⊢;have hwg:BldAt w (w1.heap.size+1) [] [(w1.heap.size,(.cells #[I6 0] 27)),(w.heap.size,(.cells #[I6 sn,I6 st,.slice a sl sc] 24))] wg:=by rw[<-hwwg];exact he.ext ((Below.refl _ _).alloc lr _)
 have gwg:wg.heap[we.heap.size]?=some (.cells #[.string ⟨#[115,116,97,116,101]⟩,.string (aF sn),.string (aF st)] 9):=by rw[<-hwwg];exact heap_alloc_new _ _
 clear hwwg;have hlwg:=gV _ _ [] [⟨#[115,116,97,116,101]⟩,(aF sn),(aF st)] we.heap.size 0 3 wg hwg.bld (aNl gwg) (ltOf gwg) (show 3<=3 from Nat.le_refl _) (show 3<=100 by decide) (by rw[pF];have:=bX _ HNT.out.2.1;have:=bX _ HNT.out.2.2.2;have:(⟨#[115,116,97,116,101]⟩:ByteArray).size=5:=rfl;simp only[List.length_nil];omega) (by have:=hwg.n;omega);go_simp;go_at_call 31;refine hlwg.mono ?_;rintro e w4 he;have hw4:=hwg.line he;obtain⟨rfl,_⟩:=he;refine hK.out _ _ (⟨_,_,hw4⟩) (fun hS=>?_);clear hK K
 (try simp only[Act.put,pq])
 refine wpAnyH_done ge ?_ _
 (try dsimp only)
 have H4:=hid hw4;have h5:w4.heap[w.heap.size]?=some (.cells #[I6 sn,I6 st,.slice a sl sc] 24):=hw4.at 1 gd;have k2:=aA h5 2
 (try dsimp only at k2)
 clear hS hw4 hlwg gwg hwg he hbe hc hbc ha h5 HC HS0;go_wp2
 go_loopw [34] (fun i wr=>∃k:Nat,k<=sl/\i=I6 k/\BldAt w (w1.heap.size+1) (gE d k) [(w1.heap.size,(.cells #[I6 (qQ d k)] 27)),(w.heap.size,(.cells #[I6 sn,I6 st,.slice a sl sc] 24))] wr) (fun i _=>sl-(intOf i).toNat)
 case atStart=>exact⟨0,Nat.zero_le _,rfl,by
  have h:=H4.out;rw[List.nil_append] at h;rw[tO,zW,<-HNT.out.1,<-HNT.out.2.2.1];exact h⟩
 case round =>
  obtain⟨k,hk,rfl,hbr⟩:=hrel;obtain⟨wp,rfl⟩:=ez (wr:World)
  by_cases hlt:k<sl
  ·have hkl:k<d.l.length:=by have:=HL.out;omega
   obtain⟨b,o,rfl,hb,hx⟩:=HD.out.slot (show 0<sl by omega);obtain⟨⟨xk,xn,xt,xia,xil,xic,xva,xvl,xvc⟩,hxa,hxi⟩:=hx k hkl;obtain⟨x0,x1,x2,x3,x4,x5,x6,x7,x8,x9⟩:=(hxa.same (hbr.bw.block b hb)).slot;have hlt':(k:Int)<(sl:Int):=by omega
   have hk0:(0:Int)<=(k:Int):=by omega
   obtain⟨y,hy⟩:=ez (d.l[k])
   rw[<-hy] at hxi;have QN:=hid (show xn=y.n from hxi.n);have QT:=hid (show xt=y.t from hxi.t);obtain⟨f0,hf0⟩:=ez (qQ d k)
   obtain⟨t0,ht0⟩:=ez (gE d k)
   rw[<-hf0,<-ht0] at hbr;have hyz:=HSZ.out.2 y (by rw[hy];exact List.getElem_mem hkl);have ht0l:t0.length<=100+2000 * 352000000:=by rw[ht0];exact yC HSZ.out (HI64.out) k (by have:=HSZ.out.1;have:=HL.out;omega)
   have HY:=hid hy;have HF0:=hid hf0;have HT0:=hid ht0;have HYZ:=hid hyz;have HT0L:=hid ht0l;have HBR:=hid hbr;have HXI:=hid hxi;clear hy hf0 ht0 hyz ht0l hbr hxi hxa hx hb;go_upto_region 12 with (fail)
   clear x0 x1 x2 x3 x4 x5 x6 x7 x8 x9;obtain⟨w5,hw5⟩:=ez (wp.alloc (.cells #[I6 xk.k,I6 xk.i,I6 xk.s,.string xk.t,.slice xk.la xk.ll xk.lc,.slice xk.fa xk.fl xk.fc,I6 xn,I6 xt,.slice xia xil xic,.slice xva xvl xvc] 66))
   rw[<-hw5];have HS5:Hid (BldAt w (w1.heap.size+1) t0 [(w1.heap.size,(.cells #[I6 f0] 27)),(wp.heap.size,(.cells #[I6 xk.k,I6 xk.i,I6 xk.s,.string xk.t,.slice xk.la xk.ll xk.lc,.slice xk.fa xk.fl xk.fc,I6 xn,I6 xt,.slice xia xil xic,.slice xva xvl xvc] 66)),(w.heap.size,(.cells #[I6 sn,I6 st,.slice (some ⟨b,o,none⟩) sl sc] 24))] w5):=hid (by
    rw[hw5];refine(((HBR.out.ext ((Below.refl _ wp).alloc lr _)).cons (heap_alloc_new _ _) ?_ (fun c fz e=>by cases e))).sub ?_
    ·have:=HBR.out.n;omega
    ·intro p hp;simp only[List.mem_cons,List.not_mem_nil,or_false] at hp ⊢;rcases hp with rfl | rfl | rfl
     ·exact .inr (.inl rfl)
     ·exact .inl rfl
     ·exact .inr (.inr rfl))
   have HC2:Hid (∀w',(∃bs f,BldAt w (w1.heap.size+1) bs [(w1.heap.size,(.cells #[I6 f] 27)),(wp.heap.size,(.cells #[I6 xk.k,I6 xk.i,I6 xk.s,.string xk.t,.slice xk.la xk.ll xk.lc,.slice xk.fa xk.fl xk.fc,I6 xn,I6 xt,.slice xia xil xic,.slice xva xvl xvc] 66)),(w.heap.size,(.cells #[I6 sn,I6 st,.slice (some ⟨b,o,none⟩) sl sc] 24))] w')->Ce w' wp.heap.size 0 (I6 xk.k)/\Ce w' wp.heap.size 1 (I6 xk.i)/\Ce w' wp.heap.size 2 (I6 xk.s)/\Ce w' wp.heap.size 3 (.string xk.t)/\Ce w' wp.heap.size 4 (.slice xk.la xk.ll xk.lc)/\Ce w' wp.heap.size 5 (.slice xk.fa xk.fl xk.fc)/\Ce w' wp.heap.size 6 (I6 xn)/\Ce w' wp.heap.size 7 (I6 xt)/\Ce w' wp.heap.size 8 (.slice xia xil xic)/\Ce w' wp.heap.size 9 (.slice xva xvl xvc)):=hid fun w' ⟨_,_,h⟩=>by
    have h1:=h.at 1 gd;exact⟨aA h1 0,aA h1 1,aA h1 2,aA h1 3,aA h1 4,aA h1 5,aA h1 6,aA h1 7,aA h1 8,aA h1 9⟩
   have HPB:=hid (show w1.heap.size+1<wp.heap.size from HBR.out.n);have HXW:Hid (∀w',BB w w'->IsSl (· < w'.heap.size) w' ⟨xk,xn,xt,xia,xil,xic,xva,xvl,xvc⟩ y):=hid fun w' h=>HXI.out.same fun b q=>⟨Nat.lt_of_lt_of_le q h.size,h.block b q⟩
   clear hw5;refine wp_region_held_drew (S:=(fun w'=>∃bs f,BldAt w (w1.heap.size+1) bs [(w1.heap.size,(.cells #[I6 f] 27)),(wp.heap.size,(.cells #[I6 xk.k,I6 xk.i,I6 xk.s,.string xk.t,.slice xk.la xk.ll xk.lc,.slice xk.fa xk.fl xk.fc,I6 xn,I6 xt,.slice xia xil xic,.slice xva xvl xvc] 66)),(w.heap.size,(.cells #[I6 sn,I6 st,.slice (some ⟨b,o,none⟩) sl sc] 24))] w')) ge (⟨_,_,HS5.out.ext (Below.refl _ _).drew⟩) (fun hS=>?_);refine tc 0 HC2 ?_;refine tc 1 HC2 ?_;refine tc 2 HC2 ?_;refine tc 4 HC2 ?_;refine tc 5 HC2 ?_;refine tc 7 HC2 ?_;refine tc 8 HC2 ?_;refine tc 9 HC2 ?_;refine yr 3 fun K hK=>?_;generalize hwa:World.drew _=wa at hS ⊢;have ha:BldAt w (w1.heap.size+1) t0 [(w1.heap.size,(.cells #[I6 f0] 27)),(wp.heap.size,(.cells #[I6 xk.k,I6 xk.i,I6 xk.s,.string xk.t,.slice xk.la xk.ll xk.lc,.slice xk.fa xk.fl xk.fc,I6 xn,I6 xt,.slice xia xil xic,.slice xva xvl xvc] 66)),(w.heap.size,(.cells #[I6 sn,I6 st,.slice (some ⟨b,o,none⟩) sl sc] 24))] wa:=by rw[<-hwa];exact HS5.out.ext (Below.refl _ w5).drew
   clear hwa;go_simp;go_at_call 35;refine(bZ xn (by rw[QN.out];exact HXI.out.rn) wa (HT.out _ ha.bw).1).mono ?_;rintro e wc ⟨rfl,hbc⟩;have hc:=ha.ext hbc;refine hK.out _ _ (⟨_,_,hc⟩) (fun hS=>?_);clear hK K
   (try simp only[Act.put,pq])
   refine yr 6 fun K hK=>?_;go_simp;go_at_call 35;refine(bZ xt (by rw[QT.out];exact HXI.out.rt) wc (HT.out _ hc.bw).1).mono ?_;rintro e we ⟨rfl,hbe⟩;have hee:=hc.ext hbe;refine hK.out _ _ (⟨_,_,hee⟩) (fun hS=>?_);clear hK K
   (try simp only[Act.put,pq])
   refine yr 10 fun K hK=>?_;go_simp;go_at_call 36;refine(jP xk y.k we (HXW.out _ hee.bw).k (HT.out _ hee.bw).1 (HT.out _ hee.bw).2).mono ?_;rintro e wf ⟨rfl,hbf⟩;have hf:=hee.ext hbf;have gf:wf.heap[w1.heap.size]?=some (.cells #[I6 f0] 27):=hf.at 0 gd;refine hK.out _ _ (⟨_,_,hf⟩) (fun hS=>?_);clear hK K
   (try simp only[Act.put,pq])
   refine tc 11 HC2 ?_;refine tc 12 HC2 ?_;refine yr 13 fun K hK=>?_;go_simp;go_at_call 34;refine(pG w1.heap.size (bG y.k).1 f0 (bG y.k).2 wf gf).mono ?_;rintro e wh ⟨rfl,hwh⟩;have hh:BldAt w (w1.heap.size+1) t0 [(w1.heap.size,(.cells #[I6 (iS f0 (bG y.k).2)] 27)),(wp.heap.size,(.cells #[I6 xk.k,I6 xk.i,I6 xk.s,.string xk.t,.slice xk.la xk.ll xk.lc,.slice xk.fa xk.fl xk.fc,I6 xn,I6 xt,.slice xia xil xic,.slice xva xvl xvc] 66)),(w.heap.size,(.cells #[I6 sn,I6 st,.slice (some ⟨b,o,none⟩) sl sc] 24))] wh:=by
    rw[hwh];refine hf.setF _ (by have:=hf.m;have:=HB1.out.size;omega) (fun p hp=>?_);have q1:=HB1.out.size;have q2:=HPB.out;have q3:=HWM.out;simp only[List.mem_cons,List.not_mem_nil,or_false] at hp;rcases hp with rfl | rfl
    ·dsimp only;omega
    ·dsimp only;omega
   clear hwh;refine hK.out _ _ (⟨_,_,hh⟩) (fun hS=>?_);clear hK K
   (try simp only[Act.put,pq])
   refine yr 14 fun K hK=>?_;go_simp;refine hK.out _ _ (⟨_,_,hh.ext ((Below.refl _ _).alloc lr _)⟩) (fun hS=>?_);clear hK K
   (try simp only[Act.put,pq])
   refine yr 15 fun K hK=>?_;generalize hwwi:World.alloc _ _=wi at hS ⊢;have hwi:BldAt w (w1.heap.size+1) t0 [(w1.heap.size,(.cells #[I6 (iS f0 (bG y.k).2)] 27)),(wp.heap.size,(.cells #[I6 xk.k,I6 xk.i,I6 xk.s,.string xk.t,.slice xk.la xk.ll xk.lc,.slice xk.fa xk.fl xk.fc,I6 xn,I6 xt,.slice xia xil xic,.slice xva xvl xvc] 66)),(w.heap.size,(.cells #[I6 sn,I6 st,.slice (some ⟨b,o,none⟩) sl sc] 24))] wi:=by rw[<-hwwi];exact hh.ext ((Below.refl _ _).alloc lr _)
   have gwi:wi.heap[wh.heap.size]?=some (.cells #[.string ⟨#[115,108,111,116]⟩,.string (aF xn),.string (aF xt),.string (bG y.k).1] 9):=by rw[<-hwwi];exact heap_alloc_new _ _
   clear hwwi;have hlwi:=gV _ _ t0 [⟨#[115,108,111,116]⟩,(aF xn),(aF xt),(bG y.k).1] wh.heap.size 0 4 wi hwi.bld (aNk gwi) (ltOf gwi) (show 4<=4 from Nat.le_refl _) (show 4<=100 by decide) (by rw[vC];have:=bX xn (by rw[QN.out];exact HXI.out.rn);have:=bX xt (by rw[QT.out];exact HXI.out.rt);have:=dC y.k;have:=HT0L.out;have:(⟨#[115,108,111,116]⟩:ByteArray).size=4:=rfl;omega) (by have:=hwi.n;omega);go_simp;go_at_call 31;refine hlwi.mono ?_;rintro e w10 he;have hw10:=hwi.line he;obtain⟨rfl,_⟩:=he;refine hK.out _ _ (⟨_,_,hw10⟩) (fun hS=>?_);clear hK K
   (try simp only[Act.put,pq])
   refine wpAnyH_done ge ?_ _
   (try dsimp only)
   have h10':BldAt w (w1.heap.size+1) (t0++kU y) [(w1.heap.size,(.cells #[I6 (iS f0 (bG y.k).2)] 27)),(wp.heap.size,(.cells #[I6 xk.k,I6 xk.i,I6 xk.s,.string xk.t,.slice xk.la xk.ll xk.lc,.slice xk.fa xk.fl xk.fc,I6 xn,I6 xt,.slice xia xil xic,.slice xva xvl xvc] 66)),(w.heap.size,(.cells #[I6 sn,I6 st,.slice (some ⟨b,o,none⟩) sl sc] 24))] w10:=by
    have e:kU y=cP [⟨#[115,108,111,116]⟩,aF xn,aF xt,(bG y.k).1]:=by rw[QN.out,QT.out];rfl
    rw[e];exact hw10
   obtain⟨t10,ht10⟩:=ez (t0++kU y)
   obtain⟨f10,hf10⟩:=ez (iS f0 (bG y.k).2)
   rw[<-ht10,<-hf10] at h10';have HTL10:=hid (show t10.length<=100+2000 * 352000000+65600 by
    have q:=HXI.out;have q1:=lQ y q.rn q.rt;have q2:=HT0L.out;rw[ht10,List.length_append];omega)
   have HT10:=hid (And.intro ht10 hf10);have H10:=hid h10';have h11:w10.heap[wp.heap.size]?=some (.cells #[I6 xk.k,I6 xk.i,I6 xk.s,.string xk.t,.slice xk.la xk.ll xk.lc,.slice xk.fa xk.fl xk.fc,I6 xn,I6 xt,.slice xia xil xic,.slice xva xvl xvc] 66):=h10'.at 1 gd;have kk:=aA h11 8
   (try dsimp only at kk)
   clear hS hw10 h10' ht10 hf10 hlwi gwi hwi hh gf hf hbf hee hbe hc hbc ha h11 HC2 HS5;have hbig10:xil * 152<=140737488351232:=HXI.out.items.big;go_wp2
   go_loopw [57] (fun i wr=>∃j:Nat,j<=xil/\i=I6 j/\BldAt w (w1.heap.size+1) (t10++(y.items.take j).flatMap dM) [(w1.heap.size,(.cells #[I6 (bS f10 (y.items.take j))] 27)),(wp.heap.size,(.cells #[I6 xk.k,I6 xk.i,I6 xk.s,.string xk.t,.slice xk.la xk.ll xk.lc,.slice xk.fa xk.fl xk.fc,I6 xn,I6 xt,.slice xia xil xic,.slice xva xvl xvc] 66)),(w.heap.size,(.cells #[I6 sn,I6 st,.slice (some ⟨b,o,none⟩) sl sc] 24))] wr) (fun i _=>xil-(intOf i).toNat)
   case atStart=>exact⟨0,Nat.zero_le _,rfl,by
    have h:=H10.out;rw[List.take_zero,List.flatMap_nil,List.append_nil];exact h⟩
   case round =>
    obtain⟨j,hj,rfl,hbr⟩:=hrel;obtain⟨wq,rfl⟩:=ez (wr:World)
    have HBQ:=hid hbr;clear hbr;by_cases hlt2:j<xil
    ·have hjl:j<y.items.length:=by have:=HXI.out.items.len;(try dsimp only at this);omega
     obtain⟨zb,zo,rfl,hzb,hz⟩:=(HXW.out wq HBQ.out.bw).items.slot (show 0<xil by omega);obtain⟨z,hza2,hzi⟩:=hz j hjl;have hzc:=hza2.m;obtain⟨z0,z1,z2,z3,z4,z5,z6,z7,z8,z9⟩:=hzc;have hlt':(j:Int)<(xil:Int):=by omega
     have hk0:(0:Int)<=(j:Int):=by omega
     obtain⟨u,hu⟩:=ez (y.items[j])
     rw[<-hu] at hzi;have HU:=hid hu;clear hu hz hza2 hzb;go_upto_region 16 with (fail)
     clear z0 z1 z2 z3 z4 z5 z6 z7 z8 z9;obtain⟨w12,hw12⟩:=ez (wq.alloc (oM z 86))
     rw[<-hw12];have h12:BldAt w (w1.heap.size+1) (t10++(y.items.take j).flatMap dM) [(w1.heap.size,(.cells #[I6 (bS f10 (y.items.take j))] 27)),(wp.heap.size,(.cells #[I6 xk.k,I6 xk.i,I6 xk.s,.string xk.t,.slice xk.la xk.ll xk.lc,.slice xk.fa xk.fl xk.fc,I6 xn,I6 xt,.slice (some ⟨zb,zo,none⟩) xil xic,.slice xva xvl xvc] 66)),(w.heap.size,(.cells #[I6 sn,I6 st,.slice (some ⟨b,o,none⟩) sl sc] 24))] w12:=by rw[hw12];exact HBQ.out.ext ((Below.refl _ wq).alloc lr _)
     have g12:w12.heap[wq.heap.size]?=some (oM z 86):=by rw[hw12];exact heap_alloc_new _ _
     have y0:=aA g12 0;have y1:=aA g12 1;have y2:=aA g12 2;have y3:=aA g12 3;have y4:=aA g12 4;have y5:=aA g12 5;have y6:=aA g12 6;have y7:=aA g12 7;have y8:=aA g12 8;have y9:=aA g12 9
     (try dsimp only at y0 y1 y2 y3 y4 y5 y6 y7 y8 y9)
     have hbq:BB wq w12:=by rw[hw12];exact(Below.refl _ wq).alloc lr _
     have hzi2:=hzi.same (S':=(· < w12.heap.size)) (w':=w12) fun b q=>⟨Nat.lt_of_lt_of_le q hbq.size,hbq.block b q⟩
     have HL12:=hid (pE z u w12 hzi2 (HT.out _ h12.bw).1 (HT.out _ h12.bw).2);dsimp only[MC.v] at HL12;obtain⟨tu,htu⟩:=ez ((dJ u).1)
     obtain⟨eu,heu⟩:=ez ((dJ u).2)
     rw[<-htu,<-heu] at HL12;obtain⟨fj,hfj⟩:=ez (bS f10 (y.items.take j))
     obtain⟨tj,htj⟩:=ez (t10++(y.items.take j).flatMap dM)
     rw[<-hfj,<-htj] at h12;have htl:tj.length<=100+2000 * 352000000+65600+2000 * 110006:=by
      have q1:=HTL10.out;have q2:=fB dM 110006 (y.items.take j) (fun m _=>gW m);have q3:(y.items.take j).length<=2000:=by rw[List.length_take];have:=HYZ.out;omega
      have q4:(y.items.take j).length * 110006<=2000 * 110006:=Nat.mul_le_mul_right _ q3;rw[htj,List.length_append];omega
     have htz:tu.size<=110000:=by rw[htu];exact oB u
     have H12:=hid h12;have HTJ:=hid (And.intro hfj htj);have HTU:=hid (And.intro htu heu);have HTZ:=hid (And.intro htl htz);clear hw12 g12 h12 hbq hzi hzi2 hfj htj htu heu htl htz;go_wp2_with (first
      | (go_at_call 31;refine HLR.out.mono ?_;rintro e w15 he;have H15:=hid (HA14.out.line he);obtain⟨rfl,_⟩:=he)
      | (go_at_call 34;refine HK13.out.mono ?_;rintro e w14 ⟨rfl,hw14⟩;have h14:BldAt w (w1.heap.size+1) tj [(w1.heap.size,(.cells #[I6 (iS fj eu)] 27)),(wp.heap.size,(.cells #[I6 xk.k,I6 xk.i,I6 xk.s,.string xk.t,.slice xk.la xk.ll xk.lc,.slice xk.fa xk.fl xk.fc,I6 xn,I6 xt,.slice (some ⟨zb,zo,none⟩) xil xic,.slice xva xvl xvc] 66)),(w.heap.size,(.cells #[I6 sn,I6 st,.slice (some ⟨b,o,none⟩) sl sc] 24))] w14:=(by rw[hw14];exact HSF.out);have hlr:=gV _ _ tj [⟨#[105,116,101,109]⟩,tu] w14.heap.size 0 2 (w14.alloc (.cells #[.string ⟨#[105,116,101,109]⟩,.string tu] 9)) (h14.ext ((Below.refl _ w14).alloc lr _)).bld (aHr (heap_alloc_new _ _)) (ltOf (heap_alloc_new _ _)) (show 2<=2 from Nat.le_refl _) (show 2<=100 by decide) (by rw[lY];have q1:=HTZ.out;have q2:(⟨#[105,116,101,109]⟩:ByteArray).size<=5:=gc;omega) (by have:=h14.n;simp;omega);have HLR:=hid hlr;have HA14:=hid (h14.ext ((Below.refl _ w14).alloc lr (.cells #[.string ⟨#[105,116,101,109]⟩,.string tu] 9)));clear hlr h14 hw14)
      | (go_at_call 37;refine HL12.out.mono ?_;rintro e w13 ⟨rfl,hb13⟩;have h13:=H12.out.ext hb13;have g13:w13.heap[w1.heap.size]?=some (.cells #[I6 fj] 27):=h13.at 0 gd;have HK13:=hid (pG w1.heap.size tu fj eu w13 g13);have HSF:=hid (h13.setF (I6 (iS fj eu)) (by have:=HB1.out.size;omega) (fun p hp=>(by have q1:=HB1.out.size;have q2:=HPB.out;have q3:=HWM.out;simp only[List.mem_cons,List.not_mem_nil,or_false] at hp;rcases hp with rfl | rfl<;>(dsimp only;omega))));clear h13 g13))
     go_roundw
     case rel=>exact⟨j+1,by omega,by go_num,by
      have h:=H15.out;rw[List.take_succ_eq_append_getElem hjl,<-HU.out,List.flatMap_append,List.flatMap_singleton,<-List.append_assoc,<-HTJ.out.2];unfold bS;rw[List.foldl_append];show BldAt w (w1.heap.size+1) (tj++dM u) [(w1.heap.size,(.cells #[I6 (iS (bS f10 (y.items.take j)) (dJ u).2)] 27)),(wp.heap.size,(.cells #[I6 xk.k,I6 xk.i,I6 xk.s,.string xk.t,.slice xk.la xk.ll xk.lc,.slice xk.fa xk.fl xk.fc,I6 xn,I6 xt,.slice (some ⟨zb,zo,none⟩) xil xic,.slice xva xvl xvc] 66)),(w.heap.size,(.cells #[I6 sn,I6 st,.slice (some ⟨b,o,none⟩) sl sc] 24))] w15;rw[<-HTJ.out.1,<-HTU.out.2];unfold dM
      rw[<-HTU.out.1];exact h⟩
     case measure=>simp[intOf];omega
    ·obtain rfl:xil=j:=by omega
     have HBT:=hid HBQ.out;obtain⟨t20,ht20⟩:=ez (t10++(y.items.take xil).flatMap dM)
     obtain⟨f20,hf20⟩:=ez (bS f10 (y.items.take xil))
     have h20:=HBQ.out;rw[<-ht20,<-hf20] at h20;have hti:y.items.take xil=y.items:=List.take_of_length_le (by have:=HXI.out.items.len;(try dsimp only at this);omega);rw[hti] at ht20 hf20;have HTL20:=hid (show t20.length<=100+2000 * 352000000+65600+2000 * 110006 by
      have q1:=HTL10.out;have q2:=fB dM 110006 y.items (fun m _=>gW m);have q4:y.items.length * 110006<=2000 * 110006:=Nat.mul_le_mul_right _ HYZ.out.1;rw[ht20,List.length_append];omega)
     have HT20:=hid (And.intro ht20 hf20);have H20:=hid h20;have h21:wq.heap[wp.heap.size]?=some (.cells #[I6 xk.k,I6 xk.i,I6 xk.s,.string xk.t,.slice xk.la xk.ll xk.lc,.slice xk.fa xk.fl xk.fc,I6 xn,I6 xt,.slice xia xil xic,.slice xva xvl xvc] 66):=h20.at 1 gd;have kk2:=aA h21 9
     (try dsimp only at kk2)
     clear kk h20 h21 ht20 hf20 hti hlt2 HBQ HBT;have hbig20:xvl * 88<=140737488351232:=HXI.out.vals.big;go_wp2
     go_loopw [74] (fun i wr=>∃j:Nat,j<=xvl/\i=I6 j/\BldAt w (w1.heap.size+1) (t20++(y.vals.take j).flatMap gD) [(w1.heap.size,(.cells #[I6 (cT f20 (y.vals.take j))] 27)),(wp.heap.size,(.cells #[I6 xk.k,I6 xk.i,I6 xk.s,.string xk.t,.slice xk.la xk.ll xk.lc,.slice xk.fa xk.fl xk.fc,I6 xn,I6 xt,.slice xia xil xic,.slice xva xvl xvc] 66)),(w.heap.size,(.cells #[I6 sn,I6 st,.slice (some ⟨b,o,none⟩) sl sc] 24))] wr) (fun i _=>xvl-(intOf i).toNat)
     case atStart=>exact⟨0,Nat.zero_le _,rfl,by
      have h:=H20.out;rw[List.take_zero,List.flatMap_nil,List.append_nil];exact h⟩
     case round =>
      obtain⟨j,hj,rfl,hbr⟩:=hrel;obtain⟨wq,rfl⟩:=ez (wr:World)
      have HBQ:=hid hbr;clear hbr;by_cases hlt2:j<xvl
      ·have hjl:j<y.vals.length:=by have:=HXI.out.vals.len;(try dsimp only at this);omega
       obtain⟨zb,zo,rfl,hzb,hz⟩:=(HXW.out wq HBQ.out.bw).vals.slot (show 0<xvl by omega);obtain⟨z,hza2,hzi⟩:=hz j hjl;have hzc:=hza2.val;obtain⟨z0,z1,z2,z3,z4,z5⟩:=hzc;have hlt':(j:Int)<(xvl:Int):=by omega
       have hk0:(0:Int)<=(j:Int):=by omega
       obtain⟨u,hu⟩:=ez (y.vals[j])
       rw[<-hu] at hzi;have HU:=hid hu;clear hu hz hza2 hzb;go_upto_region 21 with (fail)
       clear z0 z1 z2 z3 z4 z5;obtain⟨w12,hw12⟩:=ez (wq.alloc (oV z 36))
       rw[<-hw12];have h12:BldAt w (w1.heap.size+1) (t20++(y.vals.take j).flatMap gD) [(w1.heap.size,(.cells #[I6 (cT f20 (y.vals.take j))] 27)),(wp.heap.size,(.cells #[I6 xk.k,I6 xk.i,I6 xk.s,.string xk.t,.slice xk.la xk.ll xk.lc,.slice xk.fa xk.fl xk.fc,I6 xn,I6 xt,.slice xia xil xic,.slice (some ⟨zb,zo,none⟩) xvl xvc] 66)),(w.heap.size,(.cells #[I6 sn,I6 st,.slice (some ⟨b,o,none⟩) sl sc] 24))] w12:=by rw[hw12];exact HBQ.out.ext ((Below.refl _ wq).alloc lr _)
       have g12:w12.heap[wq.heap.size]?=some (oV z 36):=by rw[hw12];exact heap_alloc_new _ _
       have y0:=aA g12 0;have y1:=aA g12 1;have y2:=aA g12 2;have y3:=aA g12 3;have y4:=aA g12 4;have y5:=aA g12 5
       (try dsimp only at y0 y1 y2 y3 y4 y5)
       have hbq:BB wq w12:=by rw[hw12];exact(Below.refl _ wq).alloc lr _
       have hzi2:=hzi.same (S':=(· < w12.heap.size)) (w':=w12) fun b q=>⟨Nat.lt_of_lt_of_le q hbq.size,hbq.block b q⟩
       have HL12:=hid (jP z u w12 hzi2 (HT.out _ h12.bw).1 (HT.out _ h12.bw).2);dsimp only[VC.v] at HL12;obtain⟨tu,htu⟩:=ez ((bG u).1)
       obtain⟨eu,heu⟩:=ez ((bG u).2)
       rw[<-htu,<-heu] at HL12;obtain⟨fj,hfj⟩:=ez (cT f20 (y.vals.take j))
       obtain⟨tj,htj⟩:=ez (t20++(y.vals.take j).flatMap gD)
       rw[<-hfj,<-htj] at h12;have htl:tj.length<=100+2000 * 352000000+65600+2000 * 110006+2000 * 65543:=by
        have q1:=HTL20.out;have q2:=fB gD 65543 (y.vals.take j) (fun m _=>nR m);have q3:(y.vals.take j).length<=2000:=by rw[List.length_take];have:=HYZ.out;omega
        have q4:(y.vals.take j).length * 65543<=2000 * 65543:=Nat.mul_le_mul_right _ q3;rw[htj,List.length_append];omega
       have htz:tu.size<=110000:=by rw[htu];have:=dC u;omega
       have H12:=hid h12;have HTJ:=hid (And.intro hfj htj);have HTU:=hid (And.intro htu heu);have HTZ:=hid (And.intro htl htz);clear hw12 g12 h12 hbq hzi hzi2 hfj htj htu heu htl htz;go_wp2_with (first
        | (go_at_call 31;refine HLR.out.mono ?_;rintro e w15 he;have H15:=hid (HA14.out.line he);obtain⟨rfl,_⟩:=he)
        | (go_at_call 34;refine HK13.out.mono ?_;rintro e w14 ⟨rfl,hw14⟩;have h14:BldAt w (w1.heap.size+1) tj [(w1.heap.size,(.cells #[I6 (iS fj eu)] 27)),(wp.heap.size,(.cells #[I6 xk.k,I6 xk.i,I6 xk.s,.string xk.t,.slice xk.la xk.ll xk.lc,.slice xk.fa xk.fl xk.fc,I6 xn,I6 xt,.slice xia xil xic,.slice (some ⟨zb,zo,none⟩) xvl xvc] 66)),(w.heap.size,(.cells #[I6 sn,I6 st,.slice (some ⟨b,o,none⟩) sl sc] 24))] w14:=(by rw[hw14];exact HSF.out);have hlr:=gV _ _ tj [⟨#[118,97,108,117,101]⟩,tu] w14.heap.size 0 2 (w14.alloc (.cells #[.string ⟨#[118,97,108,117,101]⟩,.string tu] 9)) (h14.ext ((Below.refl _ w14).alloc lr _)).bld (aHr (heap_alloc_new _ _)) (ltOf (heap_alloc_new _ _)) (show 2<=2 from Nat.le_refl _) (show 2<=100 by decide) (by rw[lY];have q1:=HTZ.out;have q2:(⟨#[118,97,108,117,101]⟩:ByteArray).size<=5:=gc;omega) (by have:=h14.n;simp;omega);have HLR:=hid hlr;have HA14:=hid (h14.ext ((Below.refl _ w14).alloc lr (.cells #[.string ⟨#[118,97,108,117,101]⟩,.string tu] 9)));clear hlr h14 hw14)
        | (go_at_call 36;refine HL12.out.mono ?_;rintro e w13 ⟨rfl,hb13⟩;have h13:=H12.out.ext hb13;have g13:w13.heap[w1.heap.size]?=some (.cells #[I6 fj] 27):=h13.at 0 gd;have HK13:=hid (pG w1.heap.size tu fj eu w13 g13);have HSF:=hid (h13.setF (I6 (iS fj eu)) (by have:=HB1.out.size;omega) (fun p hp=>(by have q1:=HB1.out.size;have q2:=HPB.out;have q3:=HWM.out;simp only[List.mem_cons,List.not_mem_nil,or_false] at hp;rcases hp with rfl | rfl<;>(dsimp only;omega))));clear h13 g13))
       go_roundw
       case rel=>exact⟨j+1,by omega,by go_num,by
        have h:=H15.out;rw[List.take_succ_eq_append_getElem hjl,<-HU.out,List.flatMap_append,List.flatMap_singleton,<-List.append_assoc,<-HTJ.out.2];unfold cT;rw[List.foldl_append];show BldAt w (w1.heap.size+1) (tj++gD u) [(w1.heap.size,(.cells #[I6 (iS (cT f20 (y.vals.take j)) (bG u).2)] 27)),(wp.heap.size,(.cells #[I6 xk.k,I6 xk.i,I6 xk.s,.string xk.t,.slice xk.la xk.ll xk.lc,.slice xk.fa xk.fl xk.fc,I6 xn,I6 xt,.slice xia xil xic,.slice (some ⟨zb,zo,none⟩) xvl xvc] 66)),(w.heap.size,(.cells #[I6 sn,I6 st,.slice (some ⟨b,o,none⟩) sl sc] 24))] w15;rw[<-HTJ.out.1,<-HTU.out.2];unfold gD
        rw[<-HTU.out.1];exact h⟩
       case measure=>simp[intOf];omega
      ·obtain rfl:xvl=j:=by omega

       have h30:=HBQ.out;have htv:y.vals.take xvl=y.vals:=List.take_of_length_le (by have:=HXI.out.vals.len;(try dsimp only at this);omega);rw[htv] at h30;have HB30:=hid h30;clear h30 htv kk2 hlt2 HBQ;go_wp2
       go_roundw
       case rel=>exact⟨k+1,by omega,by go_num,by
        have h:=HB30.out;have e1:gE d (k+1)=t20++y.vals.flatMap gD:=by
         rw[tP d k hkl,<-HY.out,<-HT0.out,HT20.out.1,HT10.out.1];unfold eL;simp only[List.append_assoc]
        have e2:qQ d (k+1)=cT f20 y.vals:=by
         rw[rR d k hkl,<-HY.out,<-HF0.out,HT20.out.2,HT10.out.2];rfl
        rw[e1,e2];refine h.sub ?_;intro p hp;simp only[List.mem_cons,List.not_mem_nil,or_false] at hp ⊢;rcases hp with rfl | rfl
        ·exact .inl rfl
        ·exact .inr (.inr rfl)⟩
       case measure=>simp[intOf];omega
  ·obtain rfl:k=sl:=by omega
   have HBR:=hid hbr;have gf:wp.heap[w1.heap.size]?=some (.cells #[I6 (qQ d k)] 27):=hbr.at 0 gd;have kf:=aA gf 0
   (try dsimp only at kf)
   obtain⟨f0,hf0⟩:=ez (qQ d k)
   have hfe:f0=fT d:=by rw[hf0];exact aN5 d k (by have:=HL.out;omega)
   have hte:gE d k=oL d:=yD d k (by have:=HL.out;omega);rw[<-hf0] at kf;have HST:=hid (Tryz.Builder_String_any_k (w1.heap.size+1) (w1.heap.size+1) (gE d k) wp hbr.bld (by have:=hbr.n;omega));have HFE:=hid (And.intro hfe hte);clear hbr gf hfe hte hf0;by_cases hz0:f0=0
   ·subst hz0;go_wp2_with (go_at_call 38;refine HST.out.mono ?_;rintro e w20 ⟨rfl,_,hb20,_⟩)
    go_ret2
    exact⟨by rw[HVX.out.1,HVX.out.2,<-HFE.out.1,<-HFE.out.2];rfl,HBR.out.bw.trans (hb20.mono HBR.out.m)⟩
   ·have hx0:(f0==0)=false:=by simp;exact hz0
    have hx1:(f0 != 0)=true:=by simp;exact hz0
    have HZ0:=hid hz0;clear hz0;go_upto_region 25 with (fail)
    refine wp_region_held_drew (S:=(fun w'=>Ce w' w1.heap.size 0 (I6 f0))) ge (kf) (fun hS=>?_);refine ta 0 ?_;refine ta 1 ?_;refine ta 2 ?_;refine wpAnyH_done ge ?_ _
    (try dsimp only)
    go_wp2
    go_ret2
    exact⟨by rw[HVX.out.1,HVX.out.2,<-HFE.out.1,if_pos HZ0.out];rfl,HBR.out.bw.drew⟩
theorem zY (c:StC) (d:Sta) (w:World) (hd:IsSta (· < w.heap.size) w c d) (hT:Tabs w) (hZ:ZTab w) (hz:Sz 2000 d.l) :
 CP 7 #[c.v] w (Rt (.tuple #[.string (mQ d).1,I6 (mQ d).2]) w):=by
 unfold mQ;by_cases h0:aM d=0
 ·rw[if_neg (by simpa using h0)];have h:=encS_ok c d w hd hT hZ hz h0;by_cases h1:fT d=0
  ·rw[if_neg (by simpa using h1)];rw[if_neg (by simpa using h1),h1] at h;exact h
  ·rw[if_pos h1];rw[if_pos h1] at h;exact h
 ·rw[if_pos h0];exact aN7 c d w hd hT h0
end Go.Proofs.YtmgpghoamapfgaaGreatDoor
