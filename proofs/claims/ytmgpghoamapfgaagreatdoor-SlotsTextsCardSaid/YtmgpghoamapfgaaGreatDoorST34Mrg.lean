/- A part. -/
import Derived.Test.YtmgpghoamapfgaaGreatDoorST32Mrg
namespace Go.Proofs.YtmgpghoamapfgaaGreatDoor
set_option linter.unusedVariables false
set_option maxRecDepth 100000
set_option maxHeartbeats 16000000
set_option linter.unusedSimpArgs false
section
open Go Go.RowKit Go.Shelf
theorem BldAt.setF {w:World} {b:Nat} {bs:List UInt8} {l:List (Nat × Obj)} {w':World} {fb:Nat} {T:TypeId} {x:Value} {fr:Nat × Nat} (y:Value) (h:BldAt w b bs ((fb,.cells #[x] T fr) :: l) w') (hfb:w.heap.size<=fb) (hne:∀p∈l,p.1≠fb) :
 BldAt w b bs ((fb,.cells #[y] T fr) :: l) (w'.setCell ⟨fb,0,none⟩ y):=by
 obtain⟨hat,hfb2,hT⟩:=h.at' (fb,.cells #[x] T fr) (List.mem_cons_self ..);dsimp only at hat hfb2 hT;have hkept:∀v:Value,(∀g,v.ownBlock=some g->∃c fz,w'.heap[g]?=some (.cells c 5 fz))->v.ownBlock=none\/v.ownBlock≠some fb:=fun v hv=>by
  by_cases e:v.ownBlock=some fb
  ·obtain⟨c,fz,hc⟩:=hv fb e;rw[hat] at hc;exact absurd (Option.some.inj hc) (hT c fz)
  ·exact .inr e
 refine⟨?_,h.bw.setCell (p:=⟨fb,0,none⟩) hfb y,by simpa [World.setCell] using h.n,h.m,fun p hp=>?_⟩
 ·rcases h.bld with ⟨hB,v,hbk,hown,hne'⟩ | ⟨hB,v,hbk,hown,hne'⟩
  ·exact .inl ⟨hB,v,(Below.heap_setCell _ _ _ _ (fun e=>hfb2 e.symm)).trans hbk,hown.kept (grownBy_setCell' w' fb y) (hkept v (Lib.ownsRowF_kind hown)),hne'⟩
  ·exact .inr ⟨hB,v,(Below.heap_setCell _ _ _ _ (fun e=>hfb2 e.symm)).trans hbk,hown.kept (grownBy_setCell' w' fb y) (hkept v (Lib.ownsRowF_kind hown)),hne'⟩
 ·rcases List.mem_cons.1 hp with rfl | hp
  ·exact⟨aE (o:=0) y hat,hfb2,fun c fz e=>by
    simp only[Obj.cells.injEq] at e;exact hT #[x] fr (by rw[e.2.1])⟩
  ·obtain⟨q1,q2⟩:=h.at' p (List.mem_cons_of_mem _ hp);exact⟨(Below.heap_setCell _ _ _ _ (hne p hp)).trans q1,q2⟩
def KeptG (fb:Nat) (s:ByteArray) (x:Int) (w:World) (e:Ending) (w':World):Prop:=e=.returned (.string s)/\w'=w.setCell ⟨fb,0,none⟩ (I6 x)
theorem pG (fb:Nat) (s:ByteArray) (f x:Int) (w:World) (h:w.heap[fb]?=some (.cells #[I6 f] 27)) :
 CP 34 #[.string s,I6 x,.pointer (some ⟨fb,0,none⟩)] w (KeptG fb s (iS f x) w):=by
 have h0:=aA h 0;have hf:=aC h 0;have HS:=hid (lS (v:=I6 f) (i:=0) h rfl)
 (try dsimp only at h0)
 unfold iS;by_cases h1:f=0
 ·subst h1;clear h HS;go_enter Tryz.func34,Tryz.ntmps34
  go_wp2;go_ret;exact⟨rfl,rfl⟩
 ·have hx0:(f==0)=false:=by simp;exact h1
  rw[if_neg h1];clear h h1;go_enter Tryz.func34,Tryz.ntmps34
  go_wp2;go_ret;exact⟨rfl,HS.out.symm⟩
theorem aE1 (l:List Int) (k:Nat) (h:∀x∈l,(Lib.itoa x).length<=k) (c:UInt8):(bJ (l.map aF) ⟨#[c]⟩).size<=l.length * (k+1):=by
 unfold bJ;rw[aU,List.map_map];have:=vE (l.map Lib.itoa) [c] k (fun x hx=>by
  obtain⟨y,hy,rfl⟩:=List.mem_map.1 hx;exact h y hy)
 rw[List.length_map] at this;exact this
theorem qJ (n:Int) (k:Nat) (h0:0<=n) (h:n<(10:Int) ^ k) (hk:0<k):(Lib.itoa n).length<=k:=by
 rw[qI n h0];refine bU n.toNat k ?_ hk;have h2:(n.toNat:Int)<((10 ^ k:Nat):Int):=by
  rw[Int.toNat_of_nonneg h0]
  simpa using h
 exact Int.ofNat_lt.1 h2
theorem stE_len {d:St} (h:bI d=0):d.ps.length<=512:=by
 unfold bI at h;split at h
 ·simp at h
 split at h
 ·simp at h
 split at h
 ·simp at h
 rename_i h3;omega
theorem aMf {d:Msg} (h:eY d=0):d.es.length<=4096:=by
 unfold eY at h;split at h
 ·contradiction
 split at h
 ·simp at h
 split at h
 ·simp at h
 split at h
 ·simp at h
 rename_i h3;omega
theorem oB (d:Msg):(dJ d).1.size<=110000:=by
 unfold dJ;split
 ·exact Nat.zero_le _
 rename_i h0;split
 ·exact Nat.zero_le _
 have h1:eY d=0:=by simpa using h0
 obtain⟨a1,a2,a3,a4,a5,_⟩:=aBe h1;obtain⟨b1,b2,b3,b4⟩:=rH a1;have c1:=stE_len a1;have c2:=aMf h1;have d1:(aF d.st.e).size<=7:=qJ d.st.e 7 ga ga gc;have d2:(aF d.m).size<=13:=qJ d.m 13 ga ga gc;have d3:=aE1 d.st.ps 5 (fun x hx=>qJ x 5 (b4 x hx).1 (by have:=(b4 x hx).2;omega) gc) 46;have d4:=aE1 d.es 7 (fun x hx=>qJ x 7 (by have:=(a5 x hx).1;omega) (by have:=(a5 x hx).2;omega) gc) 44;have d5:=dC d.b;have e1:∀c:UInt8,(⟨#[c]⟩:ByteArray).size=1:=fun c=>rfl;unfold xT cC;simp only[ByteArray.size_append,e1];omega
theorem lY (x y:ByteArray):(cP [x,y]).length=x.size+y.size+2:=by
 have e:∀v:ByteArray,v.size=v.data.size:=fun _=>rfl;unfold cP;rw[e x,e y];simp[Lib.join,List.intercalate,List.intersperse];omega
theorem pF (x y z:ByteArray):(cP [x,y,z]).length=x.size+y.size+z.size+3:=by
 have e:∀v:ByteArray,v.size=v.data.size:=fun _=>rfl;unfold cP;rw[e x,e y,e z];simp[Lib.join,List.intercalate,List.intersperse];omega
theorem vC (x y z u:ByteArray):(cP [x,y,z,u]).length=x.size+y.size+z.size+u.size+4:=by
 have e:∀v:ByteArray,v.size=v.data.size:=fun _=>rfl;unfold cP;rw[e x,e y,e z,e u];simp[Lib.join,List.intercalate,List.intersperse];omega
theorem bX (n:Int) (h:I64 n):(aF n).size<=21:=Lib.itoa_length_le n h.1 h.2
theorem fB {α:Type} (f:α->List UInt8) (k:Nat):∀l:List α,(∀x∈l,(f x).length<=k)->(l.flatMap f).length<=l.length * k
 | [],_=>by simp
 | x :: l,h=>by
   have h1:=h x (List.mem_cons_self ..);have h2:=fB f k l fun y hy=>h y (List.mem_cons_of_mem _ hy);rw[List.flatMap_cons,List.length_append,List.length_cons,Nat.add_mul];omega
theorem gW (m:Msg):(dM m).length<=110006:=by
 unfold dM;rw[lY];have:=oB m;have e:wItem.size=4:=rfl;omega
theorem nR (v:Val):(gD v).length<=65543:=by
 unfold gD;rw[lY];have:=dC v;have e:wValue.size=5:=rfl;omega
theorem lQ (x:Slot) (h1:I64 x.n) (h2:I64 x.t):(kU x).length<=65600:=by
 unfold kU;rw[vC];have:=dC x.k;have a:=bX _ h1;have b:=bX _ h2;have e:wSlot.size=4:=rfl;omega
end
section
open Go Go.RowKit Go.Shelf
abbrev sBox (sb:Nat):Obj:=(.cells #[I6 2,I6 0,.slice (some ⟨sb,0,none⟩) 1 1] 24)
abbrev fBox:Obj:=(.cells #[I6 0] 27)
abbrev slObj (vb:Nat):Obj:=(.cells #[I6 4,I6 0,I6 0,.string ⟨#[97]⟩,.slice none 0 0,.slice none 0 0,I6 1,I6 50,.slice none 0 0,.slice (some ⟨vb,0,none⟩) 1 1] 66)
abbrev v7Obj:Obj:=(.cells #[I6 2,I6 7,I6 0,.string ⟨#[]⟩,.slice none 0 0,.slice none 0 0] 36)
abbrev keyA:Val:=.mk 4 0 0 ⟨#[97]⟩ [] [] []
abbrev val7:Val:=.mk 2 7 0 ⟨#[]⟩ [] [] []
abbrev knownS:Sta:=⟨2,0,[⟨keyA,1,50,[],[val7]⟩]⟩
theorem okA:VC.ok ⟨4,0,0,⟨#[97]⟩,none,0,0,none,0,0⟩:=⟨⟨by decide,by decide⟩,⟨by decide,by decide⟩,⟨by decide,by decide⟩,by decide,by decide,by decide,by decide,by decide⟩
theorem ok7:VC.ok ⟨2,7,0,⟨#[]⟩,none,0,0,none,0,0⟩:=⟨⟨by decide,by decide⟩,⟨by decide,by decide⟩,⟨by decide,by decide⟩,by decide,by decide,by decide,by decide,by decide⟩
theorem aBt (S:Nat->Prop) (w:World):IsVal S w ⟨4,0,0,⟨#[97]⟩,none,0,0,none,0,0⟩ keyA:=⟨⟨rfl,rfl,rfl,rfl,okA,rfl,rfl,rfl⟩,.inl rfl,.inl rfl⟩
theorem aHv (S:Nat->Prop) (w:World):IsVal S w ⟨2,7,0,⟨#[]⟩,none,0,0,none,0,0⟩ val7:=⟨⟨rfl,rfl,rfl,rfl,ok7,rfl,rfl,rfl⟩,.inl rfl,.inl rfl⟩
theorem v7_at {w:World} {vb:Nat} (h:w.heap[vb]?=some v7Obj):AtG valK w vb 0 ⟨2,7,0,⟨#[]⟩,none,0,0,none,0,0⟩:=fun i hi=>by
 match i,hi with
 | 0,_=>exact aA h 0
 | 1,_=>exact aA h 1
 | 2,_=>exact aA h 2
 | 3,_=>exact aA h 3
 | 4,_=>exact aA h 4
 | 5,_=>exact aA h 5
theorem aLu {w:World} {sb vb:Nat} (h:w.heap[sb]?=some (slObj vb)):AtG slK w sb 0 ⟨⟨4,0,0,⟨#[97]⟩,none,0,0,none,0,0⟩,1,50,none,0,0,some ⟨vb,0,none⟩,1,1⟩:=fun i hi=>by
 match i,hi with
 | 0,_=>exact aA h 0
 | 1,_=>exact aA h 1
 | 2,_=>exact aA h 2
 | 3,_=>exact aA h 3
 | 4,_=>exact aA h 4
 | 5,_=>exact aA h 5
 | 6,_=>exact aA h 6
 | 7,_=>exact aA h 7
 | 8,_=>exact aA h 8
 | 9,_=>exact aA h 9
theorem zJ {S:Nat->Prop} {w:World} {sb vb:Nat} (h1:S sb) (h2:S vb) (hs:w.heap[sb]?=some (slObj vb)) (hv:w.heap[vb]?=some v7Obj):IsSta S w ⟨2,0,some ⟨sb,0,none⟩,1,1⟩ knownS:=by
 refine⟨rfl,(show I64 2 from⟨by decide,by decide⟩),rfl,(show I64 0 from⟨by decide,by decide⟩),rfl,Nat.le_refl _,(by decide:1 * 152<=140737488351232),.inr ⟨sb,0,rfl,h1,fun j hj=>?_⟩⟩;have hj0:j=0:=by simpa using hj
 subst hj0;refine⟨⟨⟨4,0,0,⟨#[97]⟩,none,0,0,none,0,0⟩,1,50,none,0,0,some ⟨vb,0,none⟩,1,1⟩,aLu hs,aBt _ _,rfl,(show I64 1 from⟨by decide,by decide⟩),rfl,(show I64 50 from⟨by decide,by decide⟩),⟨rfl,Nat.le_refl _,(show 0 * 152<=140737488351232 by decide),.inl rfl⟩,rfl,Nat.le_refl _,(by decide:1 * 88<=140737488351232),.inr ⟨vb,0,rfl,h2,fun j hj=>?_⟩⟩;have hj0:j=0:=by simpa using hj
 subst hj0;exact⟨_,v7_at hv,aHv _ _⟩
theorem aHr {w:World} {b:Nat} {x0 x1:ByteArray} {t:TypeId} {fr:Nat × Nat} (h:w.heap[b]?=some (.cells #[.string x0,.string x1] t fr)):∀(j:Nat) x,[x0,x1][j]?=some x->w.cell? ⟨b,0+j,none⟩=some (.string x):=fun j x hj=>by
 rw[aA h]
 match j,hj with
 | 0,hj=>simp at hj;subst hj;rfl
 | 1,hj=>simp at hj;subst hj;rfl
theorem aNl {w:World} {b:Nat} {x0 x1 x2:ByteArray} {t:TypeId} {fr:Nat × Nat} (h:w.heap[b]?=some (.cells #[.string x0,.string x1,.string x2] t fr)):∀(j:Nat) x,[x0,x1,x2][j]?=some x->w.cell? ⟨b,0+j,none⟩=some (.string x):=fun j x hj=>by
 rw[aA h]
 match j,hj with
 | 0,hj=>simp at hj;subst hj;rfl
 | 1,hj=>simp at hj;subst hj;rfl
 | 2,hj=>simp at hj;subst hj;rfl
theorem aNk {w:World} {b:Nat} {x0 x1 x2 x3:ByteArray} {t:TypeId} {fr:Nat × Nat} (h:w.heap[b]?=some (.cells #[.string x0,.string x1,.string x2,.string x3] t fr)):∀(j:Nat) x,[x0,x1,x2,x3][j]?=some x->w.cell? ⟨b,0+j,none⟩=some (.string x):=fun j x hj=>by
 rw[aA h]
 match j,hj with
 | 0,hj=>simp at hj;subst hj;rfl
 | 1,hj=>simp at hj;subst hj;rfl
 | 2,hj=>simp at hj;subst hj;rfl
 | 3,hj=>simp at hj;subst hj;rfl
def sY:List UInt8:=[115,116,97,116,101,32,50,32,48,10]
def aGz:List UInt8:=[115,108,111,116,32,49,32,53,48,32,34,97,34,10]
def knTV:List UInt8:=[118,97,108,117,101,32,55,10]
theorem plainA:∀(j:Nat) (h:j<(⟨#[97]⟩:ByteArray).size),uQ (⟨#[97]⟩:ByteArray)[j].toNat=true:=fun j h=>by
 have hj:j=0:=by have h':j<1:=h;omega
 subst hj;rfl
theorem qG:aM knownS=0:=by kernel_rfl
theorem aMs:aR keyA=0:=by kernel_rfl
theorem aLh:aR val7=0:=by kernel_rfl
theorem aKm (w:World) (hT:Tabs w) (sb vb:Nat) (hs:w.heap[sb]?=some (slObj vb)) (hv:w.heap[vb]?=some v7Obj) :
 CP 7 #[.agg #[I6 2,I6 0,.slice (some ⟨sb,0,none⟩) 1 1]] w (Rt (.tuple #[.string ⟨#[115,116,97,116,101,32,50,32,48,10,115,108,111,116,32,49,32,53,48,32,34,97,34,10,118,97,108,117,101,32,55,10]⟩,I6 0]) w):=by
 have hb0:BB w (w.alloc (sBox sb)):=(bR w).alloc lr _;have hsl:=ltOf hs;have hvl:=ltOf hv;have hck:=fH ⟨2,0,some ⟨sb,0,none⟩,1,1⟩ knownS (w.alloc (sBox sb)) (zJ (S:=(· < (w.alloc (sBox sb)).heap.size)) gj gj (aD _ hs) (aD _ hv)) (hT.below hb0);rw[qG] at hck;have HCK:=hid hck;have HB0:=hid hb0;have HS:=hid hs;have HV:=hid hv;have HT:=hid hT;have HG:=hid (heap_alloc_new w (sBox sb));clear hck hb0 hs hv hT;dsimp only[StC.v] at HCK;go_enter Tryz.func7,Tryz.ntmps7
 go_upto_region 8 with (go_at_call 29;refine HCK.out.mono ?_;rintro e w1 ⟨rfl,hb1⟩;have hg1:=aB hb1 HG.out;have g2:=aA hg1 2;(try dsimp only at g2))
 obtain⟨w2,hw2⟩:=ez ((w1.alloc fBox).alloc (.cells #[.pointer none,.slice none 0 0] 74))
 rw[<-hw2];have hz1:=hb1.size;simp only[World.size_alloc] at hz1;have hb01:BB w w1:=HB0.out.trans (hb1.mono gd);have hbl:IsBld (w1.heap.size+1) (w1.heap.size+1) [] w2:=by have h:=jK (w1.alloc fBox);rw[World.size_alloc] at h;rw[hw2];exact h
 have hs0:BldAt w (w1.heap.size+1) [] [(w.heap.size,sBox sb),(w1.heap.size,fBox)] w2:=by
  refine⟨hbl,by rw[hw2];exact(hb01.alloc ga _).alloc gj _,by rw[hw2];simp,by omega,fun p hp=>?_⟩;simp only[List.mem_cons,List.not_mem_nil,or_false] at hp;rcases hp with rfl | rfl
  ·exact⟨by rw[hw2];exact aD _ (aD _ hg1),by dsimp only;omega,fun c fz e=>by cases e⟩
  ·exact⟨by rw[hw2];exact aD _ (heap_alloc_new _ _),by dsimp only;omega,fun c fz e=>by cases e⟩
 have HS0:=hid hs0;have HB1:=hid hb01;have HC:Hid (∀w',(∃bs,BldAt w (w1.heap.size+1) bs [(w.heap.size,sBox sb),(w1.heap.size,fBox)] w')->Ce w' w.heap.size 0 (I6 2)/\Ce w' w.heap.size 1 (I6 0)):=hid fun w' ⟨_,h⟩=>by
  have h1:=h.at 0 gd;exact⟨aA h1 0,aA h1 1⟩
 clear hw2 hbl hs0 hb01 hg1 g2 hb1 hz1;refine wp_region_held_drew (S:=(fun w'=>∃bs,BldAt w (w1.heap.size+1) bs [(w.heap.size,sBox sb),(w1.heap.size,fBox)] w')) ge (⟨_,HS0.out.ext (Below.refl _ _).drew⟩) (fun hS=>?_);refine tc 0 HC ?_;refine tc 1 HC ?_;refine tc 2 HC ?_;refine tc 4 HC ?_;refine tc 5 HC ?_;refine yr 3 fun K hK=>?_;go_simp;go_at_call 35;refine(Tryz.strconv_Itoa_small 2 gc _).mono ?_;rintro e w3 ⟨rfl,rfl⟩;refine hK.out _ _ (hS) (fun hS=>?_);clear hK K
 (try simp only[Act.put,pq])
 refine yr 6 fun K hK=>?_;go_simp;go_at_call 35;refine(Tryz.strconv_Itoa_small 0 gc _).mono ?_;rintro e w3 ⟨rfl,rfl⟩;refine hK.out _ _ (hS) (fun hS=>?_);clear hK K
 (try simp only[Act.put,pq])
 refine yr 7 fun K hK=>?_;go_simp;refine hK.out _ _ (⟨_,HS0.out.ext (((Below.refl _ w2).drew).alloc lr _)⟩) (fun hS=>?_);clear hK K
 (try simp only[Act.put,pq])
 refine yr 8 fun K hK=>?_;generalize hw3:World.drew _=w3 at hS ⊢;have h3:BldAt w (w1.heap.size+1) [] [(w.heap.size,sBox sb),(w1.heap.size,fBox)] w3:=by rw[<-hw3];exact HS0.out.ext ((Below.refl _ w2).alloc lr _).drew
 have g3:w3.heap[w2.heap.size]?=some (.cells #[.string ⟨#[115,116,97,116,101]⟩,.string ⟨(Lib.decDigits 2).toArray⟩,.string ⟨(Lib.decDigits 0).toArray⟩] 9):=by rw[<-hw3];exact heap_alloc_new _ _
 clear hw3;have e3:cP [⟨#[115,116,97,116,101]⟩,⟨(Lib.decDigits 2).toArray⟩,⟨(Lib.decDigits 0).toArray⟩]=sY:=by kernel_rfl
 have hl3:=gV _ _ [] [⟨#[115,116,97,116,101]⟩,⟨(Lib.decDigits 2).toArray⟩,⟨(Lib.decDigits 0).toArray⟩] w2.heap.size 0 3 w3 h3.bld (aNl g3) (ltOf g3) gc gc (by rw[e3];decide) (by have:=h3.n;omega);rw[e3] at hl3;go_simp;go_at_call 31;refine hl3.mono ?_;rintro e w4 he;have h4:=h3.line he;obtain⟨rfl,_⟩:=he;refine hK.out _ _ (⟨_,h4⟩) (fun hS=>?_);clear hK K
 (try simp only[Act.put,pq])
 refine wpAnyH_done ge ?_ _
 (try dsimp only)
 have h5:w4.heap[w.heap.size]?=some (sBox sb):=h4.at 0 gd;have k2:=aA h5 2
 (try dsimp only at k2)
 have H4:=hid h4;clear h5 hS h4 hl3 e3 g3 h3 HC HS0;go_wp2
 go_loopw [34] (fun i wr=>∃k:Nat,k<=1/\i=I6 k/\BldAt w (w1.heap.size+1) (if k=0 then sY else sY++aGz++knTV) [(w.heap.size,sBox sb),(w1.heap.size,fBox)] wr) (fun i _=>1-(intOf i).toNat)
 case atStart=>exact⟨0,by omega,rfl,H4.out⟩
 case round =>
  obtain⟨k,hk,rfl,hbr⟩:=hrel;obtain⟨wp,rfl⟩:=ez (wr:World)
  rcases Nat.lt_or_ge k 1 with hlt | hge
  ·obtain rfl:k=0:=by omega
   rw[if_pos rfl] at hbr;have HBR:=hid hbr;have gs:=aB hbr.bw HS.out;have y0:=aA gs 0;have y1:=aA gs 1;have y2:=aA gs 2;have y3:=aA gs 3;have y4:=aA gs 4;have y5:=aA gs 5;have y6:=aA gs 6;have y7:=aA gs 7;have y8:=aA gs 8;have y9:=aA gs 9
   (try dsimp only at y0 y1 y2 y3 y4 y5 y6 y7 y8 y9)
   clear hbr;go_upto_region 12 with (fail)
   clear y0 y1 y2 y3 y4 y5 y6 y7 y8 y9 gs;obtain⟨w5,hw5⟩:=ez (wp.alloc (slObj vb))
   rw[<-hw5];have HS5:Hid (BldAt w (w1.heap.size+1) sY [(wp.heap.size,slObj vb),(w.heap.size,sBox sb),(w1.heap.size,fBox)] w5):=hid (by
    rw[hw5];refine(HBR.out.ext ((Below.refl _ wp).alloc lr _)).cons (heap_alloc_new _ _) ?_ (fun c fz e=>by cases e);have:=HBR.out.n;omega)
   have HC2:Hid (∀w',(∃bs,BldAt w (w1.heap.size+1) bs [(wp.heap.size,slObj vb),(w.heap.size,sBox sb),(w1.heap.size,fBox)] w')->Ce w' wp.heap.size 0 (I6 4)/\Ce w' wp.heap.size 1 (I6 0)/\Ce w' wp.heap.size 2 (I6 0)/\Ce w' wp.heap.size 3 (.string ⟨#[97]⟩)/\Ce w' wp.heap.size 4 (.slice none 0 0)/\Ce w' wp.heap.size 5 (.slice none 0 0)/\Ce w' wp.heap.size 6 (I6 1)/\Ce w' wp.heap.size 7 (I6 50)/\Ce w' wp.heap.size 8 (.slice none 0 0)/\Ce w' wp.heap.size 9 (.slice (some ⟨vb,0,none⟩) 1 1)):=hid fun w' ⟨_,h⟩=>by
    have h1:=h.at 0 gd;exact⟨aA h1 0,aA h1 1,aA h1 2,aA h1 3,aA h1 4,aA h1 5,aA h1 6,aA h1 7,aA h1 8,aA h1 9⟩
   have HBX:=hid (show BB w w5 from HS5.out.bw);clear hw5;refine wp_region_held_drew (S:=(fun w'=>∃bs,BldAt w (w1.heap.size+1) bs [(wp.heap.size,slObj vb),(w.heap.size,sBox sb),(w1.heap.size,fBox)] w')) ge (⟨_,HS5.out.ext (Below.refl _ _).drew⟩) (fun hS=>?_);refine tc 0 HC2 ?_;refine tc 1 HC2 ?_;refine tc 2 HC2 ?_;refine tc 4 HC2 ?_;refine tc 5 HC2 ?_;refine tc 7 HC2 ?_;refine tc 8 HC2 ?_;refine tc 9 HC2 ?_;refine yr 3 fun K hK=>?_;go_simp;go_at_call 35;refine(Tryz.strconv_Itoa_small 1 gc _).mono ?_;rintro e w3 ⟨rfl,rfl⟩;refine hK.out _ _ (hS) (fun hS=>?_);clear hK K
   (try simp only[Act.put,pq])
   refine yr 6 fun K hK=>?_;go_simp;go_at_call 35;refine(Tryz.strconv_Itoa_small 50 gc _).mono ?_;rintro e w3 ⟨rfl,rfl⟩;refine hK.out _ _ (hS) (fun hS=>?_);clear hK K
   (try simp only[Act.put,pq])
   refine yr 10 fun K hK=>?_;generalize hw6:World.drew _=w6 at hS ⊢;have h6:BldAt w (w1.heap.size+1) sY [(wp.heap.size,slObj vb),(w.heap.size,sBox sb),(w1.heap.size,fBox)] w6:=by rw[<-hw6];exact HS5.out.ext (Below.refl _ w5).drew
   have hl6:=aJy ⟨4,0,0,⟨#[97]⟩,none,0,0,none,0,0⟩ ⟨#[97]⟩ w6 (aBt _ _) (HT.out.below h6.bw) aMs gc plainA;dsimp only[VC.v] at hl6;clear hw6;go_simp;go_at_call 36;refine hl6.mono ?_;rintro e w7 ⟨rfl,hb7⟩;have h7:=h6.ext hb7;have g7:w7.heap[w1.heap.size]?=some fBox:=h7.at 2 gd;refine hK.out _ _ (⟨_,h7⟩) (fun hS=>?_);clear hK K
   (try simp only[Act.put,pq])
   refine tc 11 HC2 ?_;refine tc 12 HC2 ?_;refine yr 13 fun K hK=>?_;go_simp;go_at_call 34;refine(zM _ _ w7 (aA g7 0) (aC g7 0)).mono ?_;rintro e w8 ⟨rfl,hw8⟩;rw[lS g7 rfl] at hw8;subst hw8;refine hK.out _ _ (⟨_,h7⟩) (fun hS=>?_);clear hK K
   (try simp only[Act.put,pq])
   refine yr 14 fun K hK=>?_;go_simp;refine hK.out _ _ (⟨_,h7.ext ((Below.refl _ _).alloc lr _)⟩) (fun hS=>?_);clear hK K
   (try simp only[Act.put,pq])
   refine yr 15 fun K hK=>?_;generalize hw9:World.alloc _ _=w9 at hS ⊢;have h9:BldAt w (w1.heap.size+1) sY [(wp.heap.size,slObj vb),(w.heap.size,sBox sb),(w1.heap.size,fBox)] w9:=by rw[<-hw9];exact h7.ext ((Below.refl _ _).alloc lr _)
   have g9:w9.heap[w8.heap.size]?=some (.cells #[.string ⟨#[115,108,111,116]⟩,.string ⟨(Lib.decDigits 1).toArray⟩,.string ⟨(Lib.decDigits 50).toArray⟩,.string ⟨(fL ⟨#[97]⟩).toArray⟩] 9):=by rw[<-hw9];exact heap_alloc_new _ _
   clear hw9;have e9:cP [⟨#[115,108,111,116]⟩,⟨(Lib.decDigits 1).toArray⟩,⟨(Lib.decDigits 50).toArray⟩,⟨(fL ⟨#[97]⟩).toArray⟩]=aGz:=by kernel_rfl
   have hl9:=gV _ _ sY [⟨#[115,108,111,116]⟩,⟨(Lib.decDigits 1).toArray⟩,⟨(Lib.decDigits 50).toArray⟩,⟨(fL ⟨#[97]⟩).toArray⟩] w8.heap.size 0 4 w9 h9.bld (aNk g9) (ltOf g9) gc gc (by rw[e9];decide) (by have:=h9.n;omega);rw[e9] at hl9;go_simp;go_at_call 31;refine hl9.mono ?_;rintro e w10 he;have h10:=h9.line he;obtain⟨rfl,_⟩:=he;refine hK.out _ _ (⟨_,h10⟩) (fun hS=>?_);clear hK K
   (try simp only[Act.put,pq])
   refine wpAnyH_done ge ?_ _
   (try dsimp only)
   have H10:=hid h10;have h11:w10.heap[wp.heap.size]?=some (slObj vb):=h10.at 0 gd;have k8:=aA h11 8;have k9:=aA h11 9
   (try dsimp only at k8 k9)
   clear hS h10 hl9 e9 g9 h9 h7 g7 hb7 h6 hl6 h11 HC2 HBX;go_wp2
   go_loopw [57] (fun i wr=>i=I6 0/\wr=w10) (fun _ _=>0)
   case atStart=>exact⟨rfl,rfl⟩
   case round =>
    obtain⟨rfl,rfl⟩:=hrel;go_wp2
    go_loopw [74] (fun i wr=>∃k:Nat,k<=1/\i=I6 k/\BldAt w (w1.heap.size+1) (if k=0 then sY++aGz else sY++aGz++knTV) [(wp.heap.size,slObj vb),(w.heap.size,sBox sb),(w1.heap.size,fBox)] wr) (fun i _=>1-(intOf i).toNat)
    case atStart=>exact⟨0,by omega,rfl,H10.out⟩
    case round =>
     obtain⟨k,hk,rfl,hbr⟩:=hrel;obtain⟨wq,rfl⟩:=ez (wr:World)
     clear k8 k9;rcases Nat.lt_or_ge k 1 with hlt | hge
     ·obtain rfl:k=0:=by omega
      rw[if_pos rfl] at hbr;have HBQ:=hid hbr;have gs:=aB hbr.bw HV.out;have y0:=aA gs 0;have y1:=aA gs 1;have y2:=aA gs 2;have y3:=aA gs 3;have y4:=aA gs 4;have y5:=aA gs 5
      (try dsimp only at y0 y1 y2 y3 y4 y5)
      clear hbr;go_upto_region 21 with (fail)
      clear y0 y1 y2 y3 y4 y5 gs;obtain⟨w12,hw12⟩:=ez (wq.alloc v7Obj)
      rw[<-hw12];have h12:BldAt w (w1.heap.size+1) (sY++aGz) [(wp.heap.size,slObj vb),(w.heap.size,sBox sb),(w1.heap.size,fBox)] w12:=by rw[hw12];exact HBQ.out.ext ((Below.refl _ wq).alloc lr _)
      have g12:w12.heap[wq.heap.size]?=some v7Obj:=by rw[hw12];exact heap_alloc_new _ _
      have y0:=aA g12 0;have y1:=aA g12 1;have y2:=aA g12 2;have y3:=aA g12 3;have y4:=aA g12 4;have y5:=aA g12 5
      (try dsimp only at y0 y1 y2 y3 y4 y5)
      have HL12:=hid (aJw ⟨2,7,0,⟨#[]⟩,none,0,0,none,0,0⟩ 7 gc w12 (aHv _ _) (HT.out.below h12.bw) aLh (by rw[show(⟨(Lib.decDigits 7).toArray⟩:ByteArray)=⟨#[55]⟩ by kernel_rfl];decide));dsimp only[VC.v] at HL12;have H12:=hid h12;have eTV:cP [⟨#[118,97,108,117,101]⟩,⟨(Lib.decDigits 7).toArray⟩]=knTV:=by kernel_rfl
      clear hw12 g12 h12;go_wp2_with (first
       | (go_at_call 31;refine HLR.out.mono ?_;rintro e w15 he;have H15:=hid (HA14.out.line he);obtain⟨rfl,_⟩:=he)
       | (go_at_call 34;refine HK13.out.mono ?_;rintro e w14 ⟨rfl,hw14⟩;rw[HSS.out] at hw14;subst hw14)
       | (go_at_call 36;refine HL12.out.mono ?_;rintro e w13 ⟨rfl,hb13⟩;have h13:=H12.out.ext hb13;have g13:w13.heap[w1.heap.size]?=some fBox:=h13.at 2 gd;have HK13:=hid (zM w1.heap.size ⟨(Lib.decDigits 7).toArray⟩ w13 (aA g13 0) (aC g13 0));have HSS:=hid (lS (v:=I6 0) (i:=0) g13 rfl);have hlr:=gV _ _ (sY++aGz) [⟨#[118,97,108,117,101]⟩,⟨(Lib.decDigits 7).toArray⟩] w13.heap.size 0 2 (w13.alloc (.cells #[.string ⟨#[118,97,108,117,101]⟩,.string ⟨(Lib.decDigits 7).toArray⟩] 9)) (h13.ext ((Below.refl _ w13).alloc lr _)).bld (aHr (heap_alloc_new _ _)) (ltOf (heap_alloc_new _ _)) gc gc (by rw[eTV];decide) (by have:=h13.n;simp;omega);rw[eTV] at hlr;have HLR:=hid hlr;have HA14:=hid (h13.ext ((Below.refl _ w13).alloc lr (.cells #[.string ⟨#[118,97,108,117,101]⟩,.string ⟨(Lib.decDigits 7).toArray⟩] 9)));clear hlr h13 g13))
      go_roundw
      case rel=>exact⟨1,Nat.le_refl _,by go_num,by rw[if_neg gc];exact H15.out⟩
      case measure=>simp[intOf]
     ·obtain rfl:k=1:=by omega
      rw[if_neg gc] at hbr;have HBQ:=hid hbr;clear hbr;go_wp2
      go_roundw
      case rel=>exact⟨1,Nat.le_refl _,by go_num,by rw[if_neg gc];exact HBQ.out.tail⟩
      case measure=>simp[intOf]
  ·obtain rfl:k=1:=by omega
   rw[if_neg gc] at hbr;have HBR:=hid hbr;have gf:wp.heap[w1.heap.size]?=some fBox:=hbr.at 1 gd;have kf:=aA gf 0
   (try dsimp only at kf)
   have HST:=hid (Tryz.Builder_String_any_k (w1.heap.size+1) (w1.heap.size+1) (sY++aGz++knTV) wp hbr.bld (by have:=hbr.n;omega));clear hbr gf;go_wp2_with (go_at_call 38;refine HST.out.mono ?_;rintro e w20 ⟨rfl,_,hb20,_⟩)
   go_ret2
   exact⟨rfl,HBR.out.bw.trans (hb20.mono HBR.out.m)⟩
end
end Go.Proofs.YtmgpghoamapfgaaGreatDoor
