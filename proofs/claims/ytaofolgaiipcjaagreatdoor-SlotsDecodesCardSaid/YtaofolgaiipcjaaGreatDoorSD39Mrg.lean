/- A part. -/
import Derived.Test.YtaofolgaiipcjaaGreatDoorSD38Mrg
namespace Go.Proofs.YtaofolgaiipcjaaGreatDoor
set_option linter.unusedVariables false
set_option maxRecDepth 100000
set_option maxHeartbeats 16000000
set_option linter.unusedSimpArgs false
open Go Go.RowKit Go.Shelf
theorem BldAt.sub {w:World} {b:Nat} {bs:List UInt8} {l l':List (Nat × Obj)} {w':World} (h:BldAt w b bs l w') (hs:∀p∈l',p∈l):BldAt w b bs l' w':=⟨h.bld,h.bw,h.n,h.m,fun p hp=>h.at' p (hs p hp)⟩
def xZ (d:Sta) (k:Nat):List UInt8:=jFj d.n d.t++(d.l.take k).flatMap xM
def erAt (d:Sta) (k:Nat):Int:=(d.l.take k).foldl jLd 0
theorem jJ2 (d:Sta):xZ d 0=jFj d.n d.t:=by simp[xZ]
theorem jMp (d:Sta):erAt d 0=0:=rfl
theorem jJ3 (d:Sta) (k:Nat) (h:k<d.l.length):xZ d (k+1)=xZ d k++xM d.l[k]:=by
 unfold xZ;rw[List.take_succ_eq_append_getElem h,List.flatMap_append,List.flatMap_singleton,List.append_assoc]
theorem jMq (d:Sta) (k:Nat) (h:k<d.l.length):erAt d (k+1)=jLd (erAt d k) d.l[k]:=by
 unfold erAt;rw[List.take_succ_eq_append_getElem h,List.foldl_append];rfl
theorem jL5 (d:Sta) (k:Nat) (h:d.l.length≤k):xZ d k=staT d:=by unfold xZ staT;rw[List.take_of_length_le h]
theorem erAt_end (d:Sta) (k:Nat) (h:d.l.length≤k):erAt d k=jBm d:=by unfold erAt jBm;rw[List.take_of_length_le h]
theorem jGi (x:Slot) (h1:I64 x.n) (h2:I64 x.t) (hi:x.items.length≤2000) (hv:x.vals.length≤2000):(xM x).length≤352000000:=by
 have a:=jCb x h1 h2;have b:=xV uU 110006 x.items (fun m _=>zP m);have c:=xV jAr 65543 x.vals (fun m _=>jE5 m);have b2:x.items.length * 110006≤2000 * 110006:=Nat.mul_le_mul_right _ hi;have c2:x.vals.length * 65543≤2000 * 65543:=Nat.mul_le_mul_right _ hv;unfold xM;rw[List.length_append,List.length_append];omega
theorem jL4 {d:Sta} (hz:Sz 2000 d.l) (hi:(I64 d.n∧I64 d.t)∧∀x∈d.l,I64 x.n∧I64 x.t) (k:Nat) (hk:k≤2000):(xZ d k).length≤100+2000 * 352000000:=by
 have a:=xV xM 352000000 (d.l.take k) (fun x hx=>by
  have hm:=List.mem_of_mem_take hx;exact jGi x (hi.2 x hm).1 (hi.2 x hm).2 (hz.2 x hm).1 (hz.2 x hm).2)
 have b:(d.l.take k).length≤2000:=by rw[List.length_take];omega
 have c:(d.l.take k).length * 352000000≤2000 * 352000000:=Nat.mul_le_mul_right _ b;have e:(jFj d.n d.t).length≤100:=by
  unfold jFj;rw[jCl];have:=qB _ hi.1.1;have:=qB _ hi.1.2;have:wState.size=5:=rfl;omega
 unfold xZ;rw[List.length_append];omega
theorem encS_bad (c:StC) (d:Sta) (w:World) (hd:IsSta (· < w.heap.size) w c d) (hT:Tabs w) (h0:kN d≠0) :
 Calls Tryz.prog 23 #[c.v] w fun e w'=>e=.returned (.tuple #[.string ⟨#[]⟩,.int .i64 (kN d)])∧Below w.heap.size w w':=by
 obtain⟨sn,st,a,sl,sc⟩:=c;have hb0:Below w.heap.size w (w.alloc (.cells #[.int .i64 sn,.int .i64 st,.slice a sl sc] 43)):=(bR w).alloc lr _;have hck:=kX ⟨sn,st,a,sl,sc⟩ d (w.alloc (.cells #[.int .i64 sn,.int .i64 st,.slice a sl sc] 43)) (hd.same fun b q=>⟨Nat.lt_of_lt_of_le q hb0.size,hb0.block b q⟩) (hT.below hb0);obtain⟨x,hx⟩:∃x,x=kN d:=⟨_,rfl⟩
 rw[←hx] at hck h0 ⊢;have hx0:(x==0)=false:=by simp;exact h0
 have hx1:(x != 0)=true:=by simp;exact h0
 have HCK:=hid hck;have HB0:=hid hb0;have HG:=hid (heap_alloc_new w (.cells #[.int .i64 sn,.int .i64 st,.slice a sl sc] 43));clear hck hb0 hd hT h0 hx;dsimp only[StC.v] at HCK ⊢;go_enter Tryz.func23,Tryz.ntmps23
 go_wp2_with (go_at_call 27;refine HCK.out.mono ?_;rintro e w1 ⟨rfl,hb1⟩;have HB1:=hid (HB0.out.trans (hb1.mono HB0.out.size));clear hb1)
 go_ret2
 exact⟨rfl,HB1.out⟩
theorem encS_ok (c:StC) (d:Sta) (w:World) (hd:IsSta (· < w.heap.size) w c d) (hT:Tabs w) (hZ:ZTab w) (hz:Sz 2000 d.l) (h0:kN d=0) :
 Calls Tryz.prog 23 #[c.v] w fun e w'=>e=.returned (.tuple #[.string (if jBm d≠0 then ⟨#[]⟩ else ⟨(staT d).toArray⟩),.int .i64 (jBm d)])∧Below w.heap.size w w':=by
 obtain⟨sn,st,a,sl,sc⟩:=c;have hb0:Below w.heap.size w (w.alloc (.cells #[.int .i64 sn,.int .i64 st,.slice a sl sc] 43)):=(bR w).alloc lr _;have hck:=kX ⟨sn,st,a,sl,sc⟩ d (w.alloc (.cells #[.int .i64 sn,.int .i64 st,.slice a sl sc] 43)) (hd.same fun b q=>⟨Nat.lt_of_lt_of_le q hb0.size,hb0.block b q⟩) (hT.below hb0);rw[h0] at hck;have HCK:=hid hck;have HB0:=hid hb0;have HT:Hid (∀w',Below w.heap.size w w'→Tabs w'∧ZTab w'):=hid fun w' h=>⟨hT.below h,hZ.below h⟩
 have HG:=hid (heap_alloc_new w (.cells #[.int .i64 sn,.int .i64 st,.slice a sl sc] 43));have hbig:=hd.l.big;have HD:=hid hd.l;have HL:=hid hd.l.len;have HNT:=hid (And.intro hd.n (And.intro (show I64 sn by have:=hd.n;dsimp only at this;rw[this];exact hd.rn) (And.intro hd.t (show I64 st by have:=hd.t;dsimp only at this;rw[this];exact hd.rt))));have HSZ:=hid hz;have HI64:=hid (show(I64 d.n∧I64 d.t)∧∀x∈d.l,I64 x.n∧I64 x.t from⟨⟨hd.rn,hd.rt⟩,fun x hx=>by
  rcases hd.l.at' with e | ⟨b,o,_,_,q⟩
  ·rw[e] at hx;exact absurd hx (by simp)
  ·obtain⟨j,hj,rfl⟩:=List.getElem_of_mem hx;obtain⟨y,_,hy⟩:=q j hj;exact⟨hy.rn,hy.rt⟩⟩)
 dsimp only at hbig HD HL HNT;have HWL:=hid (show w.heap.size<(w.alloc (.cells #[.int .i64 sn,.int .i64 st,.slice a sl sc] 43)).heap.size by simp);clear hck hb0 hd hT hZ hz h0;obtain⟨V,hV⟩:∃V:ByteArray,V=if jBm d≠0 then ⟨#[]⟩ else ⟨(staT d).toArray⟩:=⟨_,rfl⟩
 obtain⟨er,hx⟩:∃er,er=jBm d:=⟨_,rfl⟩
 rw[←hV,←hx];rw[←hx] at hV;have HVX:=hid (And.intro hV hx);clear hV hx;dsimp only[StC.v] at HCK ⊢;go_enter Tryz.func23,Tryz.ntmps23
 go_upto_region 8 with (go_at_call 27;refine HCK.out.mono ?_;rintro e w1 ⟨rfl,hb1⟩;have hg1:=jB hb1 HG.out;have g2:=jA hg1 2;(try dsimp only at g2))
 obtain⟨w2,hw2⟩:∃w2,w2=(w1.alloc (.cells #[.int .i64 0] 33)).alloc (.cells #[.pointer none,.slice none 0 0] 76):=⟨_,rfl⟩
 rw[←hw2];have hz1:=hb1.size;simp only[World.size_alloc] at hz1;have hb01:Below w.heap.size w w1:=HB0.out.trans (hb1.mono (by simp));have hbl:IsBld (w1.heap.size+1) (w1.heap.size+1) [] w2:=by have h:=uR (w1.alloc (.cells #[.int .i64 0] 33));rw[World.size_alloc] at h;rw[hw2];exact h
 have hs0:BldAt w (w1.heap.size+1) [] [(w1.heap.size,(.cells #[.int .i64 0] 33)),(w.heap.size,(.cells #[.int .i64 sn,.int .i64 st,.slice a sl sc] 43))] w2:=by
  refine⟨hbl,by rw[hw2];exact(hb01.alloc (by omega) _).alloc (by simp;omega) _,by rw[hw2];simp,by omega,fun p hp=>?_⟩;simp only[List.mem_cons,List.not_mem_nil,or_false] at hp;rcases hp with rfl | rfl
  ·exact⟨by rw[hw2];exact jD _ (heap_alloc_new _ _),by dsimp only;omega,fun c fz e=>by cases e⟩
  ·exact⟨by rw[hw2];exact jD _ (jD _ hg1),by dsimp only;omega,fun c fz e=>by cases e⟩
 have HS0:=hid hs0;have HB1:=hid hb01;have HC:Hid (∀w',(∃bs f,BldAt w (w1.heap.size+1) bs [(w1.heap.size,(.cells #[.int .i64 f] 33)),(w.heap.size,(.cells #[.int .i64 sn,.int .i64 st,.slice a sl sc] 43))] w')→w'.cell? ⟨w.heap.size,0,none⟩=some (.int .i64 sn)∧w'.cell? ⟨w.heap.size,1,none⟩=some (.int .i64 st)):=hid fun w' ⟨_,_,h⟩=>by
  have h1:=h.at 1 (by simp);exact⟨jA h1 0,jA h1 1⟩
 have HWM:=hid (show w.heap.size<w1.heap.size by omega);clear hw2 hbl hs0 hb01 hg1 g2 hb1 hz1;refine wp_region_held_drew (S:=(fun w'=>∃bs f,BldAt w (w1.heap.size+1) bs [(w1.heap.size,(.cells #[.int .i64 f] 33)),(w.heap.size,(.cells #[.int .i64 sn,.int .i64 st,.slice a sl sc] 43))] w')) (by kernel_rfl) (⟨_,_,HS0.out.ext (Below.refl _ _).drew⟩) (fun hS=>?_);refine tkQ 0 (v:=?_) ?_ hS ?_;rotate_left;· intro w' hw';have hcells:=HC.out w' hw';go_simp;(try rfl)
 simp only[Act.put,pq];refine tkQ 1 (v:=?_) ?_ hS ?_;rotate_left;· intro w' hw';have hcells:=HC.out w' hw';go_simp;(try rfl)
 simp only[Act.put,pq];refine tkQ 2 (v:=?_) ?_ hS ?_;rotate_left;· intro w' hw';have hcells:=HC.out w' hw';go_simp;(try rfl)
 simp only[Act.put,pq];refine tkQ 4 (v:=?_) ?_ hS ?_;rotate_left;· intro w' hw';have hcells:=HC.out w' hw';go_simp;(try rfl)
 simp only[Act.put,pq];refine tkQ 5 (v:=?_) ?_ hS ?_;rotate_left;· intro w' hw';have hcells:=HC.out w' hw';go_simp;(try rfl)
 simp only[Act.put,pq];refine ry [3] ?_;refine arQ fun K hK=>?_;generalize hwa:World.drew _=wa at hS ⊢;have ha:BldAt w (w1.heap.size+1) [] [(w1.heap.size,(.cells #[.int .i64 0] 33)),(w.heap.size,(.cells #[.int .i64 sn,.int .i64 st,.slice a sl sc] 43))] wa:=by rw[←hwa];exact HS0.out.ext (Below.refl _ w2).drew
 clear hwa;go_simp;go_at_call 64;refine(kH sn HNT.out.2.1 wa (HT.out _ ha.bw).1).mono ?_;rintro e wc ⟨rfl,hbc⟩;have hc:=ha.ext hbc;refine hK.out _ _ (⟨_,_,hc⟩) (fun hS=>?_);clear hK K
 (try simp only[Act.put,pq])
 refine ry [6] ?_;refine arQ fun K hK=>?_;go_simp;go_at_call 64;refine(kH st HNT.out.2.2.2 wc (HT.out _ hc.bw).1).mono ?_;rintro e we ⟨rfl,hbe⟩;have he:=hc.ext hbe;refine hK.out _ _ (⟨_,_,he⟩) (fun hS=>?_);clear hK K
 (try simp only[Act.put,pq])
 refine ry [7] ?_;refine arQ fun K hK=>?_;go_simp;refine hK.out _ _ (⟨_,_,he.ext ((Below.refl _ _).alloc lr _)⟩) (fun hS=>?_);clear hK K
 (try simp only[Act.put,pq])
 refine ry [8] ?_;refine arQ fun K hK=>?_;generalize hwwg:World.alloc _ _=wg at hS ⊢;have hwg:BldAt w (w1.heap.size+1) [] [(w1.heap.size,(.cells #[.int .i64 0] 33)),(w.heap.size,(.cells #[.int .i64 sn,.int .i64 st,.slice a sl sc] 43))] wg:=by rw[←hwwg];exact he.ext ((Below.refl _ _).alloc lr _)
 have gwg:wg.heap[we.heap.size]?=some (.cells #[.string ⟨#[115,116,97,116,101]⟩,.string (jO sn),.string (jO st)] 9):=by rw[←hwwg];exact heap_alloc_new _ _
 clear hwwg;have hlwg:=nS _ _ [] [⟨#[115,116,97,116,101]⟩,(jO sn),(jO st)] we.heap.size 0 3 wg hwg.bld (cells3 gwg) (ltOf gwg) (show 3≤3 from Nat.le_refl _) (show 3≤100 by decide) (by rw[jCl];have:=qB _ HNT.out.2.1;have:=qB _ HNT.out.2.2.2;have:(⟨#[115,116,97,116,101]⟩:ByteArray).size=5:=rfl;simp only[List.length_nil];omega) (by have:=hwg.n;omega);go_simp;go_at_call 60;refine hlwg.mono ?_;rintro e w4 he;have hw4:=hwg.line he;obtain⟨rfl,_⟩:=he;refine hK.out _ _ (⟨_,_,hw4⟩) (fun hS=>?_);clear hK K
 (try simp only[Act.put,pq])
 refine wpAnyH_done (by kernel_rfl) ?_ _
 (try dsimp only)
 have H4:=hid hw4;have h5:w4.heap[w.heap.size]?=some (.cells #[.int .i64 sn,.int .i64 st,.slice a sl sc] 43):=hw4.at 1 (by simp);have k2:=jA h5 2
 (try dsimp only at k2)
 clear hS hw4 hlwg gwg hwg he hbe hc hbc ha h5 HC HS0;go_wp2
 go_loopw [34] (fun i wr=>∃k:Nat,k≤sl∧i=.int .i64 k∧BldAt w (w1.heap.size+1) (xZ d k) [(w1.heap.size,(.cells #[.int .i64 (erAt d k)] 33)),(w.heap.size,(.cells #[.int .i64 sn,.int .i64 st,.slice a sl sc] 43))] wr) (fun i _=>sl-(intOf i).toNat)
 case atStart=>exact⟨0,Nat.zero_le _,rfl,by
  have h:=H4.out;rw[List.nil_append] at h;rw[jJ2,jMp,←HNT.out.1,←HNT.out.2.2.1];exact h⟩
 case round =>
  obtain⟨k,hk,rfl,hbr⟩:=hrel;obtain⟨wp,rfl⟩:∃w1:World,w1=wr:=⟨_,rfl⟩
  by_cases hlt:k<sl
  ·have hkl:k<d.l.length:=by have:=HL.out;omega
   obtain⟨b,o,rfl,hb,hx⟩:=HD.out.slot (show 0<sl by omega);obtain⟨⟨xk,xn,xt,xia,xil,xic,xva,xvl,xvc⟩,hxa,hxi⟩:=hx k hkl;obtain⟨x0,x1,x2,x3,x4,x5,x6,x7,x8,x9⟩:=(hxa.same (hbr.bw.block b hb)).slot;have hlt':(k:Int)<(sl:Int):=by omega
   have hk0:(0:Int)≤(k:Int):=by omega
   obtain⟨y,hy⟩:∃y,y=d.l[k]:=⟨_,rfl⟩
   rw[←hy] at hxi;have QN:=hid (show xn=y.n from hxi.n);have QT:=hid (show xt=y.t from hxi.t);obtain⟨f0,hf0⟩:∃f0,f0=erAt d k:=⟨_,rfl⟩
   obtain⟨t0,ht0⟩:∃t0,t0=xZ d k:=⟨_,rfl⟩
   rw[←hf0,←ht0] at hbr;have hyz:=HSZ.out.2 y (by rw[hy];exact List.getElem_mem hkl);have ht0l:t0.length≤100+2000 * 352000000:=by rw[ht0];exact jL4 HSZ.out (HI64.out) k (by have:=HSZ.out.1;have:=HL.out;omega)
   have HY:=hid hy;have HF0:=hid hf0;have HT0:=hid ht0;have HYZ:=hid hyz;have HT0L:=hid ht0l;have HBR:=hid hbr;have HXI:=hid hxi;clear hy hf0 ht0 hyz ht0l hbr hxi hxa hx hb;go_upto_region 12 with (fail)
   clear x0 x1 x2 x3 x4 x5 x6 x7 x8 x9;obtain⟨w5,hw5⟩:∃w5,w5=wp.alloc (.cells #[.int .i64 xk.k,.int .i64 xk.i,.int .i64 xk.s,.string xk.t,.slice xk.la xk.ll xk.lc,.slice xk.fa xk.fl xk.fc,.int .i64 xn,.int .i64 xt,.slice xia xil xic,.slice xva xvl xvc] 107):=⟨_,rfl⟩
   rw[←hw5];have HS5:Hid (BldAt w (w1.heap.size+1) t0 [(w1.heap.size,(.cells #[.int .i64 f0] 33)),(wp.heap.size,(.cells #[.int .i64 xk.k,.int .i64 xk.i,.int .i64 xk.s,.string xk.t,.slice xk.la xk.ll xk.lc,.slice xk.fa xk.fl xk.fc,.int .i64 xn,.int .i64 xt,.slice xia xil xic,.slice xva xvl xvc] 107)),(w.heap.size,(.cells #[.int .i64 sn,.int .i64 st,.slice (some ⟨b,o,none⟩) sl sc] 43))] w5):=hid (by
    rw[hw5];refine(((HBR.out.ext ((Below.refl _ wp).alloc lr _)).cons (heap_alloc_new _ _) ?_ (fun c fz e=>by cases e))).sub ?_
    ·have:=HBR.out.n;omega
    ·intro p hp;simp only[List.mem_cons,List.not_mem_nil,or_false] at hp ⊢;rcases hp with rfl | rfl | rfl
     ·exact .inr (.inl rfl)
     ·exact .inl rfl
     ·exact .inr (.inr rfl))
   have HC2:Hid (∀w',(∃bs f,BldAt w (w1.heap.size+1) bs [(w1.heap.size,(.cells #[.int .i64 f] 33)),(wp.heap.size,(.cells #[.int .i64 xk.k,.int .i64 xk.i,.int .i64 xk.s,.string xk.t,.slice xk.la xk.ll xk.lc,.slice xk.fa xk.fl xk.fc,.int .i64 xn,.int .i64 xt,.slice xia xil xic,.slice xva xvl xvc] 107)),(w.heap.size,(.cells #[.int .i64 sn,.int .i64 st,.slice (some ⟨b,o,none⟩) sl sc] 43))] w')→w'.cell? ⟨wp.heap.size,0,none⟩=some (.int .i64 xk.k)∧w'.cell? ⟨wp.heap.size,1,none⟩=some (.int .i64 xk.i)∧w'.cell? ⟨wp.heap.size,2,none⟩=some (.int .i64 xk.s)∧w'.cell? ⟨wp.heap.size,3,none⟩=some (.string xk.t)∧w'.cell? ⟨wp.heap.size,4,none⟩=some (.slice xk.la xk.ll xk.lc)∧w'.cell? ⟨wp.heap.size,5,none⟩=some (.slice xk.fa xk.fl xk.fc)∧w'.cell? ⟨wp.heap.size,6,none⟩=some (.int .i64 xn)∧w'.cell? ⟨wp.heap.size,7,none⟩=some (.int .i64 xt)∧w'.cell? ⟨wp.heap.size,8,none⟩=some (.slice xia xil xic)∧w'.cell? ⟨wp.heap.size,9,none⟩=some (.slice xva xvl xvc)):=hid fun w' ⟨_,_,h⟩=>by
    have h1:=h.at 1 (by simp);exact⟨jA h1 0,jA h1 1,jA h1 2,jA h1 3,jA h1 4,jA h1 5,jA h1 6,jA h1 7,jA h1 8,jA h1 9⟩
   have HPB:=hid (show w1.heap.size+1<wp.heap.size from HBR.out.n);have HXW:Hid (∀w',Below w.heap.size w w'→IsSl (· < w'.heap.size) w' ⟨xk,xn,xt,xia,xil,xic,xva,xvl,xvc⟩ y):=hid fun w' h=>HXI.out.same fun b q=>⟨Nat.lt_of_lt_of_le q h.size,h.block b q⟩
   clear hw5;refine wp_region_held_drew (S:=(fun w'=>∃bs f,BldAt w (w1.heap.size+1) bs [(w1.heap.size,(.cells #[.int .i64 f] 33)),(wp.heap.size,(.cells #[.int .i64 xk.k,.int .i64 xk.i,.int .i64 xk.s,.string xk.t,.slice xk.la xk.ll xk.lc,.slice xk.fa xk.fl xk.fc,.int .i64 xn,.int .i64 xt,.slice xia xil xic,.slice xva xvl xvc] 107)),(w.heap.size,(.cells #[.int .i64 sn,.int .i64 st,.slice (some ⟨b,o,none⟩) sl sc] 43))] w')) (by kernel_rfl) (⟨_,_,HS5.out.ext (Below.refl _ _).drew⟩) (fun hS=>?_);refine tkQ 0 (v:=?_) ?_ hS ?_;rotate_left;· intro w' hw';have hcells:=HC2.out w' hw';go_simp;(try rfl)
   simp only[Act.put,pq];refine tkQ 1 (v:=?_) ?_ hS ?_;rotate_left;· intro w' hw';have hcells:=HC2.out w' hw';go_simp;(try rfl)
   simp only[Act.put,pq];refine tkQ 2 (v:=?_) ?_ hS ?_;rotate_left;· intro w' hw';have hcells:=HC2.out w' hw';go_simp;(try rfl)
   simp only[Act.put,pq];refine tkQ 4 (v:=?_) ?_ hS ?_;rotate_left;· intro w' hw';have hcells:=HC2.out w' hw';go_simp;(try rfl)
   simp only[Act.put,pq];refine tkQ 5 (v:=?_) ?_ hS ?_;rotate_left;· intro w' hw';have hcells:=HC2.out w' hw';go_simp;(try rfl)
   simp only[Act.put,pq];refine tkQ 7 (v:=?_) ?_ hS ?_;rotate_left;· intro w' hw';have hcells:=HC2.out w' hw';go_simp;(try rfl)
   simp only[Act.put,pq];refine tkQ 8 (v:=?_) ?_ hS ?_;rotate_left;· intro w' hw';have hcells:=HC2.out w' hw';go_simp;(try rfl)
   simp only[Act.put,pq];refine tkQ 9 (v:=?_) ?_ hS ?_;rotate_left;· intro w' hw';have hcells:=HC2.out w' hw';go_simp;(try rfl)
   simp only[Act.put,pq];refine ry [3] ?_;refine arQ fun K hK=>?_;generalize hwa:World.drew _=wa at hS ⊢;have ha:BldAt w (w1.heap.size+1) t0 [(w1.heap.size,(.cells #[.int .i64 f0] 33)),(wp.heap.size,(.cells #[.int .i64 xk.k,.int .i64 xk.i,.int .i64 xk.s,.string xk.t,.slice xk.la xk.ll xk.lc,.slice xk.fa xk.fl xk.fc,.int .i64 xn,.int .i64 xt,.slice xia xil xic,.slice xva xvl xvc] 107)),(w.heap.size,(.cells #[.int .i64 sn,.int .i64 st,.slice (some ⟨b,o,none⟩) sl sc] 43))] wa:=by rw[←hwa];exact HS5.out.ext (Below.refl _ w5).drew
   clear hwa;go_simp;go_at_call 64;refine(kH xn (by rw[QN.out];exact HXI.out.rn) wa (HT.out _ ha.bw).1).mono ?_;rintro e wc ⟨rfl,hbc⟩;have hc:=ha.ext hbc;refine hK.out _ _ (⟨_,_,hc⟩) (fun hS=>?_);clear hK K
   (try simp only[Act.put,pq])
   refine ry [6] ?_;refine arQ fun K hK=>?_;go_simp;go_at_call 64;refine(kH xt (by rw[QT.out];exact HXI.out.rt) wc (HT.out _ hc.bw).1).mono ?_;rintro e we ⟨rfl,hbe⟩;have hee:=hc.ext hbe;refine hK.out _ _ (⟨_,_,hee⟩) (fun hS=>?_);clear hK K
   (try simp only[Act.put,pq])
   refine ry [10] ?_;refine arQ fun K hK=>?_;go_simp;go_at_call 47;refine(yK xk y.k we (HXW.out _ hee.bw).k (HT.out _ hee.bw).1 (HT.out _ hee.bw).2).mono ?_;rintro e wf ⟨rfl,hbf⟩;have hf:=hee.ext hbf;have gf:wf.heap[w1.heap.size]?=some (.cells #[.int .i64 f0] 33):=hf.at 0 (by simp);refine hK.out _ _ (⟨_,_,hf⟩) (fun hS=>?_);clear hK K
   (try simp only[Act.put,pq])
   refine tkQ 11 (v:=?_) ?_ hS ?_;rotate_left;· intro w' hw';have hcells:=HC2.out w' hw';go_simp;(try rfl)
   simp only[Act.put,pq];refine tkQ 12 (v:=?_) ?_ hS ?_;rotate_left;· intro w' hw';have hcells:=HC2.out w' hw';go_simp;(try rfl)
   simp only[Act.put,pq];refine ry [13] ?_;refine arQ fun K hK=>?_;go_simp;go_at_call 63;refine(zO w1.heap.size (litF y.k).1 f0 (litF y.k).2 wf gf).mono ?_;rintro e wh ⟨rfl,hwh⟩;have hh:BldAt w (w1.heap.size+1) t0 [(w1.heap.size,(.cells #[.int .i64 (errG f0 (litF y.k).2)] 33)),(wp.heap.size,(.cells #[.int .i64 xk.k,.int .i64 xk.i,.int .i64 xk.s,.string xk.t,.slice xk.la xk.ll xk.lc,.slice xk.fa xk.fl xk.fc,.int .i64 xn,.int .i64 xt,.slice xia xil xic,.slice xva xvl xvc] 107)),(w.heap.size,(.cells #[.int .i64 sn,.int .i64 st,.slice (some ⟨b,o,none⟩) sl sc] 43))] wh:=by
    rw[hwh];refine hf.setF _ (by have:=hf.m;have:=HB1.out.size;omega) (fun p hp=>?_);have q1:=HB1.out.size;have q2:=HPB.out;have q3:=HWM.out;simp only[List.mem_cons,List.not_mem_nil,or_false] at hp;rcases hp with rfl | rfl
    ·dsimp only;omega
    ·dsimp only;omega
   clear hwh;refine hK.out _ _ (⟨_,_,hh⟩) (fun hS=>?_);clear hK K
   (try simp only[Act.put,pq])
   refine ry [14] ?_;refine arQ fun K hK=>?_;go_simp;refine hK.out _ _ (⟨_,_,hh.ext ((Below.refl _ _).alloc lr _)⟩) (fun hS=>?_);clear hK K
   (try simp only[Act.put,pq])
   refine ry [15] ?_;refine arQ fun K hK=>?_;generalize hwwi:World.alloc _ _=wi at hS ⊢;have hwi:BldAt w (w1.heap.size+1) t0 [(w1.heap.size,(.cells #[.int .i64 (errG f0 (litF y.k).2)] 33)),(wp.heap.size,(.cells #[.int .i64 xk.k,.int .i64 xk.i,.int .i64 xk.s,.string xk.t,.slice xk.la xk.ll xk.lc,.slice xk.fa xk.fl xk.fc,.int .i64 xn,.int .i64 xt,.slice xia xil xic,.slice xva xvl xvc] 107)),(w.heap.size,(.cells #[.int .i64 sn,.int .i64 st,.slice (some ⟨b,o,none⟩) sl sc] 43))] wi:=by rw[←hwwi];exact hh.ext ((Below.refl _ _).alloc lr _)
   have gwi:wi.heap[wh.heap.size]?=some (.cells #[.string ⟨#[115,108,111,116]⟩,.string (jO xn),.string (jO xt),.string (litF y.k).1] 9):=by rw[←hwwi];exact heap_alloc_new _ _
   clear hwwi;have hlwi:=nS _ _ t0 [⟨#[115,108,111,116]⟩,(jO xn),(jO xt),(litF y.k).1] wh.heap.size 0 4 wi hwi.bld (cells4 gwi) (ltOf gwi) (show 4≤4 from Nat.le_refl _) (show 4≤100 by decide) (by rw[jCk];have:=qB xn (by rw[QN.out];exact HXI.out.rn);have:=qB xt (by rw[QT.out];exact HXI.out.rt);have:=qU y.k;have:=HT0L.out;have:(⟨#[115,108,111,116]⟩:ByteArray).size=4:=rfl;omega) (by have:=hwi.n;omega);go_simp;go_at_call 60;refine hlwi.mono ?_;rintro e w10 he;have hw10:=hwi.line he;obtain⟨rfl,_⟩:=he;refine hK.out _ _ (⟨_,_,hw10⟩) (fun hS=>?_);clear hK K
   (try simp only[Act.put,pq])
   refine wpAnyH_done (by kernel_rfl) ?_ _
   (try dsimp only)
   have h10':BldAt w (w1.heap.size+1) (t0++jCc y) [(w1.heap.size,(.cells #[.int .i64 (errG f0 (litF y.k).2)] 33)),(wp.heap.size,(.cells #[.int .i64 xk.k,.int .i64 xk.i,.int .i64 xk.s,.string xk.t,.slice xk.la xk.ll xk.lc,.slice xk.fa xk.fl xk.fc,.int .i64 xn,.int .i64 xt,.slice xia xil xic,.slice xva xvl xvc] 107)),(w.heap.size,(.cells #[.int .i64 sn,.int .i64 st,.slice (some ⟨b,o,none⟩) sl sc] 43))] w10:=by
    have e:jCc y=qV [⟨#[115,108,111,116]⟩,jO xn,jO xt,(litF y.k).1]:=by rw[QN.out,QT.out];rfl
    rw[e];exact hw10
   obtain⟨t10,ht10⟩:∃t10,t10=t0++jCc y:=⟨_,rfl⟩
   obtain⟨f10,hf10⟩:∃f10,f10=errG f0 (litF y.k).2:=⟨_,rfl⟩
   rw[←ht10,←hf10] at h10';have HTL10:=hid (show t10.length≤100+2000 * 352000000+65600 by
    have q:=HXI.out;have q1:=jCb y q.rn q.rt;have q2:=HT0L.out;rw[ht10,List.length_append];omega)
   have HT10:=hid (And.intro ht10 hf10);have H10:=hid h10';have h11:w10.heap[wp.heap.size]?=some (.cells #[.int .i64 xk.k,.int .i64 xk.i,.int .i64 xk.s,.string xk.t,.slice xk.la xk.ll xk.lc,.slice xk.fa xk.fl xk.fc,.int .i64 xn,.int .i64 xt,.slice xia xil xic,.slice xva xvl xvc] 107):=h10'.at 1 (by simp);have kk:=jA h11 8
   (try dsimp only at kk)
   clear hS hw10 h10' ht10 hf10 hlwi gwi hwi hh gf hf hbf hee hbe hc hbc ha h11 HC2 HS5;have hbig10:xil * 152≤140737488351232:=HXI.out.items.big;go_wp2
   go_loopw [57] (fun i wr=>∃j:Nat,j≤xil∧i=.int .i64 j∧BldAt w (w1.heap.size+1) (t10++(y.items.take j).flatMap uU) [(w1.heap.size,(.cells #[.int .i64 (xT f10 (y.items.take j))] 33)),(wp.heap.size,(.cells #[.int .i64 xk.k,.int .i64 xk.i,.int .i64 xk.s,.string xk.t,.slice xk.la xk.ll xk.lc,.slice xk.fa xk.fl xk.fc,.int .i64 xn,.int .i64 xt,.slice xia xil xic,.slice xva xvl xvc] 107)),(w.heap.size,(.cells #[.int .i64 sn,.int .i64 st,.slice (some ⟨b,o,none⟩) sl sc] 43))] wr) (fun i _=>xil-(intOf i).toNat)
   case atStart=>exact⟨0,Nat.zero_le _,rfl,by
    have h:=H10.out;rw[List.take_zero,List.flatMap_nil,List.append_nil];exact h⟩
   case round =>
    obtain⟨j,hj,rfl,hbr⟩:=hrel;obtain⟨wq,rfl⟩:∃w1:World,w1=wr:=⟨_,rfl⟩
    have HBQ:=hid hbr;clear hbr;by_cases hlt2:j<xil
    ·have hjl:j<y.items.length:=by have:=HXI.out.items.len;(try dsimp only at this);omega
     obtain⟨zb,zo,rfl,hzb,hz⟩:=(HXW.out wq HBQ.out.bw).items.slot (show 0<xil by omega);obtain⟨z,hza2,hzi⟩:=hz j hjl;have hzc:=hza2.m;obtain⟨z0,z1,z2,z3,z4,z5,z6,z7,z8,z9⟩:=hzc;have hlt':(j:Int)<(xil:Int):=by omega
     have hk0:(0:Int)≤(j:Int):=by omega
     obtain⟨u,hu⟩:∃u,u=y.items[j]:=⟨_,rfl⟩
     rw[←hu] at hzi;have HU:=hid hu;clear hu hz hza2 hzb;go_upto_region 16 with (fail)
     clear z0 z1 z2 z3 z4 z5 z6 z7 z8 z9;obtain⟨w12,hw12⟩:∃w12,w12=wq.alloc (.cells #[.int .i64 z.st.e,.slice z.st.a z.st.n z.st.c,.int .i64 z.m,.slice z.a z.n z.c,.int .i64 z.b.k,.int .i64 z.b.i,.int .i64 z.b.s,.string z.b.t,.slice z.b.la z.b.ll z.b.lc,.slice z.b.fa z.b.fl z.b.fc] 120):=⟨_,rfl⟩
     rw[←hw12];have h12:BldAt w (w1.heap.size+1) (t10++(y.items.take j).flatMap uU) [(w1.heap.size,(.cells #[.int .i64 (xT f10 (y.items.take j))] 33)),(wp.heap.size,(.cells #[.int .i64 xk.k,.int .i64 xk.i,.int .i64 xk.s,.string xk.t,.slice xk.la xk.ll xk.lc,.slice xk.fa xk.fl xk.fc,.int .i64 xn,.int .i64 xt,.slice (some ⟨zb,zo,none⟩) xil xic,.slice xva xvl xvc] 107)),(w.heap.size,(.cells #[.int .i64 sn,.int .i64 st,.slice (some ⟨b,o,none⟩) sl sc] 43))] w12:=by rw[hw12];exact HBQ.out.ext ((Below.refl _ wq).alloc lr _)
     have g12:w12.heap[wq.heap.size]?=some (.cells #[.int .i64 z.st.e,.slice z.st.a z.st.n z.st.c,.int .i64 z.m,.slice z.a z.n z.c,.int .i64 z.b.k,.int .i64 z.b.i,.int .i64 z.b.s,.string z.b.t,.slice z.b.la z.b.ll z.b.lc,.slice z.b.fa z.b.fl z.b.fc] 120):=by rw[hw12];exact heap_alloc_new _ _
     have y0:=jA g12 0;have y1:=jA g12 1;have y2:=jA g12 2;have y3:=jA g12 3;have y4:=jA g12 4;have y5:=jA g12 5;have y6:=jA g12 6;have y7:=jA g12 7;have y8:=jA g12 8;have y9:=jA g12 9
     (try dsimp only at y0 y1 y2 y3 y4 y5 y6 y7 y8 y9)
     have hbq:Below wq.heap.size wq w12:=by rw[hw12];exact(Below.refl _ wq).alloc lr _
     have hzi2:=hzi.same (S':=(· < w12.heap.size)) (w':=w12) fun b q=>⟨Nat.lt_of_lt_of_le q hbq.size,hbq.block b q⟩
     have HL12:=hid (jCi z u w12 hzi2 (HT.out _ h12.bw).1 (HT.out _ h12.bw).2);dsimp only[MC.v] at HL12;obtain⟨tu,htu⟩:∃tu,tu=(encF u).1:=⟨_,rfl⟩
     obtain⟨eu,heu⟩:∃eu,eu=(encF u).2:=⟨_,rfl⟩
     rw[←htu,←heu] at HL12;obtain⟨fj,hfj⟩:∃fj,fj=xT f10 (y.items.take j):=⟨_,rfl⟩
     obtain⟨tj,htj⟩:∃tj,tj=t10++(y.items.take j).flatMap uU:=⟨_,rfl⟩
     rw[←hfj,←htj] at h12;have htl:tj.length≤100+2000 * 352000000+65600+2000 * 110006:=by
      have q1:=HTL10.out;have q2:=xV uU 110006 (y.items.take j) (fun m _=>zP m);have q3:(y.items.take j).length≤2000:=by rw[List.length_take];have:=HYZ.out;omega
      have q4:(y.items.take j).length * 110006≤2000 * 110006:=Nat.mul_le_mul_right _ q3;rw[htj,List.length_append];omega
     have htz:tu.size≤110000:=by rw[htu];exact jFt u
     have H12:=hid h12;have HTJ:=hid (And.intro hfj htj);have HTU:=hid (And.intro htu heu);have HTZ:=hid (And.intro htl htz);clear hw12 g12 h12 hbq hzi hzi2 hfj htj htu heu htl htz;go_wp2_with (first
      | (go_at_call 60;refine HLR.out.mono ?_;rintro e w15 he;have H15:=hid (HA14.out.line he);obtain⟨rfl,_⟩:=he)
      | (go_at_call 63;refine HK13.out.mono ?_;rintro e w14 ⟨rfl,hw14⟩;have h14:BldAt w (w1.heap.size+1) tj [(w1.heap.size,(.cells #[.int .i64 (errG fj eu)] 33)),(wp.heap.size,(.cells #[.int .i64 xk.k,.int .i64 xk.i,.int .i64 xk.s,.string xk.t,.slice xk.la xk.ll xk.lc,.slice xk.fa xk.fl xk.fc,.int .i64 xn,.int .i64 xt,.slice (some ⟨zb,zo,none⟩) xil xic,.slice xva xvl xvc] 107)),(w.heap.size,(.cells #[.int .i64 sn,.int .i64 st,.slice (some ⟨b,o,none⟩) sl sc] 43))] w14:=(by rw[hw14];exact HSF.out);have hlr:=nS _ _ tj [⟨#[105,116,101,109]⟩,tu] w14.heap.size 0 2 (w14.alloc (.cells #[.string ⟨#[105,116,101,109]⟩,.string tu] 9)) (h14.ext ((Below.refl _ w14).alloc lr _)).bld (jN9 (heap_alloc_new _ _)) (ltOf (heap_alloc_new _ _)) (show 2≤2 from Nat.le_refl _) (show 2≤100 by decide) (by rw[vQ];have q1:=HTZ.out;have q2:(⟨#[105,116,101,109]⟩:ByteArray).size≤5:=(by decide);omega) (by have:=h14.n;simp;omega);have HLR:=hid hlr;have HA14:=hid (h14.ext ((Below.refl _ w14).alloc lr (.cells #[.string ⟨#[105,116,101,109]⟩,.string tu] 9)));clear hlr h14 hw14)
      | (go_at_call 65;refine HL12.out.mono ?_;rintro e w13 ⟨rfl,hb13⟩;have h13:=H12.out.ext hb13;have g13:w13.heap[w1.heap.size]?=some (.cells #[.int .i64 fj] 33):=h13.at 0 (by simp);have HK13:=hid (zO w1.heap.size tu fj eu w13 g13);have HSF:=hid (h13.setF (.int .i64 (errG fj eu)) (by have:=HB1.out.size;omega) (fun p hp=>(by have q1:=HB1.out.size;have q2:=HPB.out;have q3:=HWM.out;simp only[List.mem_cons,List.not_mem_nil,or_false] at hp;rcases hp with rfl | rfl<;>(dsimp only;omega))));clear h13 g13))
     go_roundw
     case rel=>exact⟨j+1,by omega,by go_num,by
      have h:=H15.out;rw[List.take_succ_eq_append_getElem hjl,←HU.out,List.flatMap_append,List.flatMap_singleton,←List.append_assoc,←HTJ.out.2];unfold xT;rw[List.foldl_append]
      show BldAt w (w1.heap.size+1) (tj++uU u) [(w1.heap.size,(.cells #[.int .i64 (errG (xT f10 (y.items.take j)) (encF u).2)] 33)),(wp.heap.size,(.cells #[.int .i64 xk.k,.int .i64 xk.i,.int .i64 xk.s,.string xk.t,.slice xk.la xk.ll xk.lc,.slice xk.fa xk.fl xk.fc,.int .i64 xn,.int .i64 xt,.slice (some ⟨zb,zo,none⟩) xil xic,.slice xva xvl xvc] 107)),(w.heap.size,(.cells #[.int .i64 sn,.int .i64 st,.slice (some ⟨b,o,none⟩) sl sc] 43))] w15;rw[←HTJ.out.1,←HTU.out.2];unfold uU;rw[←HTU.out.1];exact h⟩
     case measure=>simp[intOf];omega
    ·obtain rfl:xil=j:=by omega
     have HBT:=hid HBQ.out;obtain⟨t20,ht20⟩:∃t20,t20=t10++(y.items.take xil).flatMap uU:=⟨_,rfl⟩
     obtain⟨f20,hf20⟩:∃f20,f20=xT f10 (y.items.take xil):=⟨_,rfl⟩
     have h20:=HBQ.out;rw[←ht20,←hf20] at h20;have hti:y.items.take xil=y.items:=List.take_of_length_le (by have:=HXI.out.items.len;(try dsimp only at this);omega);rw[hti] at ht20 hf20;have HTL20:=hid (show t20.length≤100+2000 * 352000000+65600+2000 * 110006 by
      have q1:=HTL10.out;have q2:=xV uU 110006 y.items (fun m _=>zP m);have q4:y.items.length * 110006≤2000 * 110006:=Nat.mul_le_mul_right _ HYZ.out.1;rw[ht20,List.length_append];omega)
     have HT20:=hid (And.intro ht20 hf20);have H20:=hid h20;have h21:wq.heap[wp.heap.size]?=some (.cells #[.int .i64 xk.k,.int .i64 xk.i,.int .i64 xk.s,.string xk.t,.slice xk.la xk.ll xk.lc,.slice xk.fa xk.fl xk.fc,.int .i64 xn,.int .i64 xt,.slice xia xil xic,.slice xva xvl xvc] 107):=h20.at 1 (by simp);have kk2:=jA h21 9
     (try dsimp only at kk2)
     clear kk h20 h21 ht20 hf20 hti hlt2 HBQ HBT;have hbig20:xvl * 88≤140737488351232:=HXI.out.vals.big;go_wp2
     go_loopw [74] (fun i wr=>∃j:Nat,j≤xvl∧i=.int .i64 j∧BldAt w (w1.heap.size+1) (t20++(y.vals.take j).flatMap jAr) [(w1.heap.size,(.cells #[.int .i64 (jAq f20 (y.vals.take j))] 33)),(wp.heap.size,(.cells #[.int .i64 xk.k,.int .i64 xk.i,.int .i64 xk.s,.string xk.t,.slice xk.la xk.ll xk.lc,.slice xk.fa xk.fl xk.fc,.int .i64 xn,.int .i64 xt,.slice xia xil xic,.slice xva xvl xvc] 107)),(w.heap.size,(.cells #[.int .i64 sn,.int .i64 st,.slice (some ⟨b,o,none⟩) sl sc] 43))] wr) (fun i _=>xvl-(intOf i).toNat)
     case atStart=>exact⟨0,Nat.zero_le _,rfl,by
      have h:=H20.out;rw[List.take_zero,List.flatMap_nil,List.append_nil];exact h⟩
     case round =>
      obtain⟨j,hj,rfl,hbr⟩:=hrel;obtain⟨wq,rfl⟩:∃w1:World,w1=wr:=⟨_,rfl⟩
      have HBQ:=hid hbr;clear hbr;by_cases hlt2:j<xvl
      ·have hjl:j<y.vals.length:=by have:=HXI.out.vals.len;(try dsimp only at this);omega
       obtain⟨zb,zo,rfl,hzb,hz⟩:=(HXW.out wq HBQ.out.bw).vals.slot (show 0<xvl by omega);obtain⟨z,hza2,hzi⟩:=hz j hjl;have hzc:=hza2.val;obtain⟨z0,z1,z2,z3,z4,z5⟩:=hzc;have hlt':(j:Int)<(xvl:Int):=by omega
       have hk0:(0:Int)≤(j:Int):=by omega
       obtain⟨u,hu⟩:∃u,u=y.vals[j]:=⟨_,rfl⟩
       rw[←hu] at hzi;have HU:=hid hu;clear hu hz hza2 hzb;go_upto_region 21 with (fail)
       clear z0 z1 z2 z3 z4 z5;obtain⟨w12,hw12⟩:∃w12,w12=wq.alloc (.cells #[.int .i64 z.k,.int .i64 z.i,.int .i64 z.s,.string z.t,.slice z.la z.ll z.lc,.slice z.fa z.fl z.fc] 25):=⟨_,rfl⟩
       rw[←hw12];have h12:BldAt w (w1.heap.size+1) (t20++(y.vals.take j).flatMap jAr) [(w1.heap.size,(.cells #[.int .i64 (jAq f20 (y.vals.take j))] 33)),(wp.heap.size,(.cells #[.int .i64 xk.k,.int .i64 xk.i,.int .i64 xk.s,.string xk.t,.slice xk.la xk.ll xk.lc,.slice xk.fa xk.fl xk.fc,.int .i64 xn,.int .i64 xt,.slice xia xil xic,.slice (some ⟨zb,zo,none⟩) xvl xvc] 107)),(w.heap.size,(.cells #[.int .i64 sn,.int .i64 st,.slice (some ⟨b,o,none⟩) sl sc] 43))] w12:=by rw[hw12];exact HBQ.out.ext ((Below.refl _ wq).alloc lr _)
       have g12:w12.heap[wq.heap.size]?=some (.cells #[.int .i64 z.k,.int .i64 z.i,.int .i64 z.s,.string z.t,.slice z.la z.ll z.lc,.slice z.fa z.fl z.fc] 25):=by rw[hw12];exact heap_alloc_new _ _
       have y0:=jA g12 0;have y1:=jA g12 1;have y2:=jA g12 2;have y3:=jA g12 3;have y4:=jA g12 4;have y5:=jA g12 5
       (try dsimp only at y0 y1 y2 y3 y4 y5)
       have hbq:Below wq.heap.size wq w12:=by rw[hw12];exact(Below.refl _ wq).alloc lr _
       have hzi2:=hzi.same (S':=(· < w12.heap.size)) (w':=w12) fun b q=>⟨Nat.lt_of_lt_of_le q hbq.size,hbq.block b q⟩
       have HL12:=hid (yK z u w12 hzi2 (HT.out _ h12.bw).1 (HT.out _ h12.bw).2);dsimp only[VC.v] at HL12;obtain⟨tu,htu⟩:∃tu,tu=(litF u).1:=⟨_,rfl⟩
       obtain⟨eu,heu⟩:∃eu,eu=(litF u).2:=⟨_,rfl⟩
       rw[←htu,←heu] at HL12;obtain⟨fj,hfj⟩:∃fj,fj=jAq f20 (y.vals.take j):=⟨_,rfl⟩
       obtain⟨tj,htj⟩:∃tj,tj=t20++(y.vals.take j).flatMap jAr:=⟨_,rfl⟩
       rw[←hfj,←htj] at h12;have htl:tj.length≤100+2000 * 352000000+65600+2000 * 110006+2000 * 65543:=by
        have q1:=HTL20.out;have q2:=xV jAr 65543 (y.vals.take j) (fun m _=>jE5 m);have q3:(y.vals.take j).length≤2000:=by rw[List.length_take];have:=HYZ.out;omega
        have q4:(y.vals.take j).length * 65543≤2000 * 65543:=Nat.mul_le_mul_right _ q3;rw[htj,List.length_append];omega
       have htz:tu.size≤110000:=by rw[htu];have:=qU u;omega
       have H12:=hid h12;have HTJ:=hid (And.intro hfj htj);have HTU:=hid (And.intro htu heu);have HTZ:=hid (And.intro htl htz);clear hw12 g12 h12 hbq hzi hzi2 hfj htj htu heu htl htz;go_wp2_with (first
        | (go_at_call 60;refine HLR.out.mono ?_;rintro e w15 he;have H15:=hid (HA14.out.line he);obtain⟨rfl,_⟩:=he)
        | (go_at_call 63;refine HK13.out.mono ?_;rintro e w14 ⟨rfl,hw14⟩;have h14:BldAt w (w1.heap.size+1) tj [(w1.heap.size,(.cells #[.int .i64 (errG fj eu)] 33)),(wp.heap.size,(.cells #[.int .i64 xk.k,.int .i64 xk.i,.int .i64 xk.s,.string xk.t,.slice xk.la xk.ll xk.lc,.slice xk.fa xk.fl xk.fc,.int .i64 xn,.int .i64 xt,.slice xia xil xic,.slice (some ⟨zb,zo,none⟩) xvl xvc] 107)),(w.heap.size,(.cells #[.int .i64 sn,.int .i64 st,.slice (some ⟨b,o,none⟩) sl sc] 43))] w14:=(by rw[hw14];exact HSF.out);have hlr:=nS _ _ tj [⟨#[118,97,108,117,101]⟩,tu] w14.heap.size 0 2 (w14.alloc (.cells #[.string ⟨#[118,97,108,117,101]⟩,.string tu] 9)) (h14.ext ((Below.refl _ w14).alloc lr _)).bld (jN9 (heap_alloc_new _ _)) (ltOf (heap_alloc_new _ _)) (show 2≤2 from Nat.le_refl _) (show 2≤100 by decide) (by rw[vQ];have q1:=HTZ.out;have q2:(⟨#[118,97,108,117,101]⟩:ByteArray).size≤5:=(by decide);omega) (by have:=h14.n;simp;omega);have HLR:=hid hlr;have HA14:=hid (h14.ext ((Below.refl _ w14).alloc lr (.cells #[.string ⟨#[118,97,108,117,101]⟩,.string tu] 9)));clear hlr h14 hw14)
        | (go_at_call 47;refine HL12.out.mono ?_;rintro e w13 ⟨rfl,hb13⟩;have h13:=H12.out.ext hb13;have g13:w13.heap[w1.heap.size]?=some (.cells #[.int .i64 fj] 33):=h13.at 0 (by simp);have HK13:=hid (zO w1.heap.size tu fj eu w13 g13);have HSF:=hid (h13.setF (.int .i64 (errG fj eu)) (by have:=HB1.out.size;omega) (fun p hp=>(by have q1:=HB1.out.size;have q2:=HPB.out;have q3:=HWM.out;simp only[List.mem_cons,List.not_mem_nil,or_false] at hp;rcases hp with rfl | rfl<;>(dsimp only;omega))));clear h13 g13))
       go_roundw
       case rel=>exact⟨j+1,by omega,by go_num,by
        have h:=H15.out;rw[List.take_succ_eq_append_getElem hjl,←HU.out,List.flatMap_append,List.flatMap_singleton,←List.append_assoc,←HTJ.out.2];unfold jAq;rw[List.foldl_append]
        show BldAt w (w1.heap.size+1) (tj++jAr u) [(w1.heap.size,(.cells #[.int .i64 (errG (jAq f20 (y.vals.take j)) (litF u).2)] 33)),(wp.heap.size,(.cells #[.int .i64 xk.k,.int .i64 xk.i,.int .i64 xk.s,.string xk.t,.slice xk.la xk.ll xk.lc,.slice xk.fa xk.fl xk.fc,.int .i64 xn,.int .i64 xt,.slice xia xil xic,.slice (some ⟨zb,zo,none⟩) xvl xvc] 107)),(w.heap.size,(.cells #[.int .i64 sn,.int .i64 st,.slice (some ⟨b,o,none⟩) sl sc] 43))] w15;rw[←HTJ.out.1,←HTU.out.2];unfold jAr;rw[←HTU.out.1];exact h⟩
       case measure=>simp[intOf];omega
      ·obtain rfl:xvl=j:=by omega

       have h30:=HBQ.out;have htv:y.vals.take xvl=y.vals:=List.take_of_length_le (by have:=HXI.out.vals.len;(try dsimp only at this);omega);rw[htv] at h30;have HB30:=hid h30;clear h30 htv kk2 hlt2 HBQ;go_wp2
       go_roundw
       case rel=>exact⟨k+1,by omega,by go_num,by
        have h:=HB30.out;have e1:xZ d (k+1)=t20++y.vals.flatMap jAr:=by
         rw[jJ3 d k hkl,←HY.out,←HT0.out,HT20.out.1,HT10.out.1];unfold xM;simp only[List.append_assoc]
        have e2:erAt d (k+1)=jAq f20 y.vals:=by
         rw[jMq d k hkl,←HY.out,←HF0.out,HT20.out.2,HT10.out.2];rfl
        rw[e1,e2];refine h.sub ?_;intro p hp;simp only[List.mem_cons,List.not_mem_nil,or_false] at hp ⊢;rcases hp with rfl | rfl
        ·exact .inl rfl
        ·exact .inr (.inr rfl)⟩
       case measure=>simp[intOf];omega
  ·obtain rfl:k=sl:=by omega
   have HBR:=hid hbr;have gf:wp.heap[w1.heap.size]?=some (.cells #[.int .i64 (erAt d k)] 33):=hbr.at 0 (by simp);have kf:=jA gf 0
   (try dsimp only at kf)
   obtain⟨f0,hf0⟩:∃f0,f0=erAt d k:=⟨_,rfl⟩
   have hfe:f0=jBm d:=by rw[hf0];exact erAt_end d k (by have:=HL.out;omega)
   have hte:xZ d k=staT d:=jL5 d k (by have:=HL.out;omega);rw[←hf0] at kf;have HST:=hid (Tryz.Builder_String_any_k (w1.heap.size+1) (w1.heap.size+1) (xZ d k) wp hbr.bld (by have:=hbr.n;omega));have HFE:=hid (And.intro hfe hte);clear hbr gf hfe hte hf0;by_cases hz0:f0=0
   ·subst hz0;go_wp2_with (go_at_call 44;refine HST.out.mono ?_;rintro e w20 ⟨rfl,_,hb20,_⟩)
    go_ret2
    exact⟨by rw[HVX.out.1,HVX.out.2,←HFE.out.1,←HFE.out.2];rfl,HBR.out.bw.trans (hb20.mono HBR.out.m)⟩
   ·have hx0:(f0==0)=false:=by simp;exact hz0
    have hx1:(f0 != 0)=true:=by simp;exact hz0
    have HZ0:=hid hz0;clear hz0;go_upto_region 25 with (fail)
    refine wp_region_held_drew (S:=(fun w'=>w'.cell? ⟨w1.heap.size,0,none⟩=some (.int .i64 f0))) (by kernel_rfl) (kf) (fun hS=>?_);refine tkQ 0 (v:=?_) ?_ hS ?_;rotate_left;· intro w' hw';(try dsimp only at hw');go_simp;(try rfl)
    simp only[Act.put,pq];refine tkQ 1 (v:=?_) ?_ hS ?_;rotate_left;· intro w' hw';(try dsimp only at hw');go_simp;(try rfl)
    simp only[Act.put,pq];refine tkQ 2 (v:=?_) ?_ hS ?_;rotate_left;· intro w' hw';(try dsimp only at hw');go_simp;(try rfl)
    simp only[Act.put,pq];refine wpAnyH_done (by kernel_rfl) ?_ _
    (try dsimp only)
    go_wp2
    go_ret2
    exact⟨by rw[HVX.out.1,HVX.out.2,←HFE.out.1,if_pos HZ0.out];rfl,HBR.out.bw.drew⟩
theorem jFs (c:StC) (d:Sta) (w:World) (hd:IsSta (· < w.heap.size) w c d) (hT:Tabs w) (hZ:ZTab w) (hz:Sz 2000 d.l) :
 Calls Tryz.prog 23 #[c.v] w fun e w'=>e=.returned (.tuple #[.string (encS d).1,.int .i64 (encS d).2])∧Below w.heap.size w w':=by
 unfold encS;by_cases h0:kN d=0
 ·rw[if_neg (by simpa using h0)];have h:=encS_ok c d w hd hT hZ hz h0;by_cases h1:jBm d=0
  ·rw[if_neg (by simpa using h1)];rw[if_neg (by simpa using h1),h1] at h;exact h
  ·rw[if_pos h1];rw[if_pos h1] at h;exact h
 ·rw[if_pos h0];exact encS_bad c d w hd hT h0
end Go.Proofs.YtaofolgaiipcjaaGreatDoor
