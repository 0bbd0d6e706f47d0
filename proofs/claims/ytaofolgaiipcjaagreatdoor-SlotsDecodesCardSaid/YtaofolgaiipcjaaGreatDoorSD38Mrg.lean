/- A part. -/
import Derived.Test.YtaofolgaiipcjaaGreatDoorSD32Mrg
namespace Go.Proofs.YtaofolgaiipcjaaGreatDoor
set_option linter.unusedVariables false
set_option maxRecDepth 100000
set_option maxHeartbeats 16000000
set_option linter.unusedSimpArgs false
section
open Go Go.RowKit Go.Shelf
theorem BldAt.setF {w:World} {b:Nat} {bs:List UInt8} {l:List (Nat × Obj)} {w':World} {fb:Nat} {T:TypeId} {x:Value} {fr:Nat × Nat} (y:Value) (h:BldAt w b bs ((fb,.cells #[x] T fr) :: l) w') (hfb:w.heap.size≤fb) (hne:∀p∈l,p.1≠fb) :
 BldAt w b bs ((fb,.cells #[y] T fr) :: l) (w'.setCell ⟨fb,0,none⟩ y):=by
 obtain⟨hat,hfb2,hT⟩:=h.at' (fb,.cells #[x] T fr) (List.mem_cons_self ..);dsimp only at hat hfb2 hT;have hkept:∀v:Value,(∀g,v.ownBlock=some g→∃c fz,w'.heap[g]?=some (.cells c 5 fz))→v.ownBlock=none∨v.ownBlock≠some fb:=fun v hv=>by
  by_cases e:v.ownBlock=some fb
  ·obtain⟨c,fz,hc⟩:=hv fb e;rw[hat] at hc;exact absurd (Option.some.inj hc) (hT c fz)
  ·exact .inr e
 refine⟨?_,h.bw.setCell (p:=⟨fb,0,none⟩) hfb y,by simpa [World.setCell] using h.n,h.m,fun p hp=>?_⟩
 ·rcases h.bld with ⟨hB,v,hbk,hown,hne'⟩ | ⟨hB,v,hbk,hown,hne'⟩
  ·exact .inl ⟨hB,v,(Below.heap_setCell _ _ _ _ (fun e=>hfb2 e.symm)).trans hbk,hown.kept (grownBy_setCell' w' fb y) (hkept v (Lib.ownsRowF_kind hown)),hne'⟩
  ·exact .inr ⟨hB,v,(Below.heap_setCell _ _ _ _ (fun e=>hfb2 e.symm)).trans hbk,hown.kept (grownBy_setCell' w' fb y) (hkept v (Lib.ownsRowF_kind hown)),hne'⟩
 ·rcases List.mem_cons.1 hp with rfl | hp
  ·exact⟨jE (o:=0) y hat,hfb2,fun c fz e=>by
    simp only[Obj.cells.injEq] at e;exact hT #[x] fr (by rw[e.2.1])⟩
  ·obtain⟨q1,q2⟩:=h.at' p (List.mem_cons_of_mem _ hp);exact⟨(Below.heap_setCell _ _ _ _ (hne p hp)).trans q1,q2⟩
def KeptG (fb:Nat) (s:ByteArray) (x:Int) (w:World) (e:Ending) (w':World):Prop:=e=.returned (.string s)∧w'=w.setCell ⟨fb,0,none⟩ (.int .i64 x)
theorem zO (fb:Nat) (s:ByteArray) (f x:Int) (w:World) (h:w.heap[fb]?=some (.cells #[.int .i64 f] 33)) :
 Calls Tryz.prog 63 #[.string s,.int .i64 x,.pointer (some ⟨fb,0,none⟩)] w (KeptG fb s (errG f x) w):=by
 have h0:=jA h 0;have hf:=jC h 0;have HS:=hid (vA (v:=.int .i64 f) (i:=0) h rfl)
 (try dsimp only at h0)
 unfold errG;by_cases h1:f=0
 ·subst h1;clear h HS;go_enter Tryz.func63,Tryz.ntmps63
  go_wp2;go_ret;exact⟨rfl,rfl⟩
 ·have hx0:(f==0)=false:=by simp;exact h1
  rw[if_neg h1];clear h h1;go_enter Tryz.func63,Tryz.ntmps63
  go_wp2;go_ret;exact⟨rfl,HS.out.symm⟩
theorem jI9 (l:List Int) (k:Nat) (h:∀x∈l,(Lib.itoa x).length≤k) (c:UInt8):(mE (l.map jO) ⟨#[c]⟩).size≤l.length * (k+1):=by
 unfold mE;rw[kC,List.map_map];have:=jDd (l.map Lib.itoa) [c] k (fun x hx=>by
  obtain⟨y,hy,rfl⟩:=List.mem_map.1 hx;exact h y hy)
 rw[List.length_map] at this;exact this
theorem jAj (n:Int) (k:Nat) (h0:0≤n) (h:n<(10:Int) ^ k) (hk:0<k):(Lib.itoa n).length≤k:=by
 rw[itoa_nat n h0];refine kF n.toNat k ?_ hk;have h2:(n.toNat:Int)<((10 ^ k:Nat):Int):=by
  rw[Int.toNat_of_nonneg h0]
  simpa using h
 exact Int.ofNat_lt.1 h2
theorem stE_len {d:St} (h:kG d=0):d.ps.length≤512:=by
 unfold kG at h;split at h
 ·simp at h
 split at h
 ·simp at h
 split at h
 ·simp at h
 rename_i h3;omega
theorem msgE_len {d:Msg} (h:msgE d=0):d.es.length≤4096:=by
 unfold msgE at h;split at h
 ·contradiction
 split at h
 ·simp at h
 split at h
 ·simp at h
 split at h
 ·simp at h
 rename_i h3;omega
theorem jFt (d:Msg):(encF d).1.size≤110000:=by
 unfold encF;split
 ·exact Nat.zero_le _
 rename_i h0;split
 ·exact Nat.zero_le _
 have h1:msgE d=0:=by simpa using h0
 obtain⟨a1,a2,a3,a4,a5,_⟩:=msgE_ok h1;obtain⟨b1,b2,b3,b4⟩:=jL9 a1;have c1:=stE_len a1;have c2:=msgE_len h1;have d1:(jO d.st.e).size≤7:=jAj d.st.e 7 (by omega) (by omega) (by decide);have d2:(jO d.m).size≤13:=jAj d.m 13 (by omega) (by omega) (by decide);have d3:=jI9 d.st.ps 5 (fun x hx=>jAj x 5 (b4 x hx).1 (by have:=(b4 x hx).2;omega) (by decide)) 46;have d4:=jI9 d.es 7 (fun x hx=>jAj x 7 (by have:=(a5 x hx).1;omega) (by have:=(a5 x hx).2;omega) (by decide)) 44;have d5:=qU d.b;have e1:∀c:UInt8,(⟨#[c]⟩:ByteArray).size=1:=fun c=>rfl;unfold encT nA;simp only[ByteArray.size_append,e1];omega
theorem vQ (x y:ByteArray):(qV [x,y]).length=x.size+y.size+2:=by
 have e:∀v:ByteArray,v.size=v.data.size:=fun _=>rfl;unfold qV;rw[e x,e y];simp[Lib.join,List.intercalate,List.intersperse];omega
theorem jCl (x y z:ByteArray):(qV [x,y,z]).length=x.size+y.size+z.size+3:=by
 have e:∀v:ByteArray,v.size=v.data.size:=fun _=>rfl;unfold qV;rw[e x,e y,e z];simp[Lib.join,List.intercalate,List.intersperse];omega
theorem jCk (x y z u:ByteArray):(qV [x,y,z,u]).length=x.size+y.size+z.size+u.size+4:=by
 have e:∀v:ByteArray,v.size=v.data.size:=fun _=>rfl;unfold qV;rw[e x,e y,e z,e u];simp[Lib.join,List.intercalate,List.intersperse];omega
theorem qB (n:Int) (h:I64 n):(jO n).size≤21:=Lib.itoa_length_le n h.1 h.2
theorem xV {α:Type} (f:α→List UInt8) (k:Nat):∀l:List α,(∀x∈l,(f x).length≤k)→(l.flatMap f).length≤l.length * k
 | [],_=>by simp
 | x :: l,h=>by
   have h1:=h x (List.mem_cons_self ..);have h2:=xV f k l fun y hy=>h y (List.mem_cons_of_mem _ hy);rw[List.flatMap_cons,List.length_append,List.length_cons,Nat.add_mul];omega
theorem zP (m:Msg):(uU m).length≤110006:=by
 unfold uU;rw[vQ];have:=jFt m;have e:wItem.size=4:=rfl;omega
theorem jE5 (v:Val):(jAr v).length≤65543:=by
 unfold jAr;rw[vQ];have:=qU v;have e:wValue.size=5:=rfl;omega
theorem jCb (x:Slot) (h1:I64 x.n) (h2:I64 x.t):(jCc x).length≤65600:=by
 unfold jCc;rw[jCk];have:=qU x.k;have a:=qB _ h1;have b:=qB _ h2;have e:wSlot.size=4:=rfl;omega
end
section
open Go Go.RowKit Go.Shelf
abbrev sBox (sb:Nat):Obj:=(.cells #[.int .i64 2,.int .i64 0,.slice (some ⟨sb,0,none⟩) 1 1] 43)
abbrev fBox:Obj:=(.cells #[.int .i64 0] 33)
abbrev slObj (vb:Nat):Obj:=(.cells #[.int .i64 4,.int .i64 0,.int .i64 0,.string ⟨#[97]⟩,.slice none 0 0,.slice none 0 0,.int .i64 1,.int .i64 50,.slice none 0 0,.slice (some ⟨vb,0,none⟩) 1 1] 107)
abbrev v7Obj:Obj:=(.cells #[.int .i64 2,.int .i64 7,.int .i64 0,.string ⟨#[]⟩,.slice none 0 0,.slice none 0 0] 25)
abbrev keyA:Val:=.mk 4 0 0 ⟨#[97]⟩ [] [] []
abbrev val7:Val:=.mk 2 7 0 ⟨#[]⟩ [] [] []
abbrev knownS:Sta:=⟨2,0,[⟨keyA,1,50,[],[val7]⟩]⟩
theorem okA:VC.ok ⟨4,0,0,⟨#[97]⟩,none,0,0,none,0,0⟩:=⟨⟨by decide,by decide⟩,⟨by decide,by decide⟩,⟨by decide,by decide⟩,by decide,by decide,by decide,by decide,by decide⟩
theorem ok7:VC.ok ⟨2,7,0,⟨#[]⟩,none,0,0,none,0,0⟩:=⟨⟨by decide,by decide⟩,⟨by decide,by decide⟩,⟨by decide,by decide⟩,by decide,by decide,by decide,by decide,by decide⟩
theorem jH4 (S:Nat→Prop) (w:World):IsVal S w ⟨4,0,0,⟨#[97]⟩,none,0,0,none,0,0⟩ keyA:=⟨⟨rfl,rfl,rfl,rfl,okA,rfl,rfl,rfl⟩,.inl rfl,.inl rfl⟩
theorem jL2 (S:Nat→Prop) (w:World):IsVal S w ⟨2,7,0,⟨#[]⟩,none,0,0,none,0,0⟩ val7:=⟨⟨rfl,rfl,rfl,rfl,ok7,rfl,rfl,rfl⟩,.inl rfl,.inl rfl⟩
theorem v7_at {w:World} {vb:Nat} (h:w.heap[vb]?=some v7Obj):AtG valK w vb 0 ⟨2,7,0,⟨#[]⟩,none,0,0,none,0,0⟩:=fun i hi=>by
 match i,hi with
 | 0,_=>exact jA h 0
 | 1,_=>exact jA h 1
 | 2,_=>exact jA h 2
 | 3,_=>exact jA h 3
 | 4,_=>exact jA h 4
 | 5,_=>exact jA h 5
theorem slObj_at {w:World} {sb vb:Nat} (h:w.heap[sb]?=some (slObj vb)):AtG slK w sb 0 ⟨⟨4,0,0,⟨#[97]⟩,none,0,0,none,0,0⟩,1,50,none,0,0,some ⟨vb,0,none⟩,1,1⟩:=fun i hi=>by
 match i,hi with
 | 0,_=>exact jA h 0
 | 1,_=>exact jA h 1
 | 2,_=>exact jA h 2
 | 3,_=>exact jA h 3
 | 4,_=>exact jA h 4
 | 5,_=>exact jA h 5
 | 6,_=>exact jA h 6
 | 7,_=>exact jA h 7
 | 8,_=>exact jA h 8
 | 9,_=>exact jA h 9
theorem jFc {S:Nat→Prop} {w:World} {sb vb:Nat} (h1:S sb) (h2:S vb) (hs:w.heap[sb]?=some (slObj vb)) (hv:w.heap[vb]?=some v7Obj):IsSta S w ⟨2,0,some ⟨sb,0,none⟩,1,1⟩ knownS:=by
 refine⟨rfl,(show I64 2 from⟨by decide,by decide⟩),rfl,(show I64 0 from⟨by decide,by decide⟩),rfl,Nat.le_refl _,(by decide:1 * 152≤140737488351232),.inr ⟨sb,0,rfl,h1,fun j hj=>?_⟩⟩;have hj0:j=0:=by simpa using hj
 subst hj0;refine⟨⟨⟨4,0,0,⟨#[97]⟩,none,0,0,none,0,0⟩,1,50,none,0,0,some ⟨vb,0,none⟩,1,1⟩,slObj_at hs,jH4 _ _,rfl,(show I64 1 from⟨by decide,by decide⟩),rfl,(show I64 50 from⟨by decide,by decide⟩),⟨rfl,Nat.le_refl _,(show 0 * 152≤140737488351232 by decide),.inl rfl⟩,rfl,Nat.le_refl _,(by decide:1 * 88≤140737488351232),.inr ⟨vb,0,rfl,h2,fun j hj=>?_⟩⟩;have hj0:j=0:=by simpa using hj
 subst hj0;exact⟨_,v7_at hv,jL2 _ _⟩
theorem jN9 {w:World} {b:Nat} {x0 x1:ByteArray} {t:TypeId} {fr:Nat × Nat} (h:w.heap[b]?=some (.cells #[.string x0,.string x1] t fr)):∀(j:Nat) x,[x0,x1][j]?=some x→w.cell? ⟨b,0+j,none⟩=some (.string x):=fun j x hj=>by
 rw[jA h]
 match j,hj with
 | 0,hj=>simp at hj;subst hj;rfl
 | 1,hj=>simp at hj;subst hj;rfl
theorem cells3 {w:World} {b:Nat} {x0 x1 x2:ByteArray} {t:TypeId} {fr:Nat × Nat} (h:w.heap[b]?=some (.cells #[.string x0,.string x1,.string x2] t fr)):∀(j:Nat) x,[x0,x1,x2][j]?=some x→w.cell? ⟨b,0+j,none⟩=some (.string x):=fun j x hj=>by
 rw[jA h]
 match j,hj with
 | 0,hj=>simp at hj;subst hj;rfl
 | 1,hj=>simp at hj;subst hj;rfl
 | 2,hj=>simp at hj;subst hj;rfl
theorem cells4 {w:World} {b:Nat} {x0 x1 x2 x3:ByteArray} {t:TypeId} {fr:Nat × Nat} (h:w.heap[b]?=some (.cells #[.string x0,.string x1,.string x2,.string x3] t fr)):∀(j:Nat) x,[x0,x1,x2,x3][j]?=some x→w.cell? ⟨b,0+j,none⟩=some (.string x):=fun j x hj=>by
 rw[jA h]
 match j,hj with
 | 0,hj=>simp at hj;subst hj;rfl
 | 1,hj=>simp at hj;subst hj;rfl
 | 2,hj=>simp at hj;subst hj;rfl
 | 3,hj=>simp at hj;subst hj;rfl
def knT0:List UInt8:=[115,116,97,116,101,32,50,32,48,10]
def knTS:List UInt8:=[115,108,111,116,32,49,32,53,48,32,34,97,34,10]
def knTV:List UInt8:=[118,97,108,117,101,32,55,10]
theorem plainA:∀(j:Nat) (h:j<(⟨#[97]⟩:ByteArray).size),jF1 (⟨#[97]⟩:ByteArray)[j].toNat=true:=fun j h=>by
 have hj:j=0:=by have h':j<1:=h;omega
 subst hj;rfl
theorem jA5:kN knownS=0:=by kernel_rfl
theorem keyA_chk:jS keyA=0:=by kernel_rfl
theorem val7_chk:jS val7=0:=by kernel_rfl
theorem jMt (w:World) (hT:Tabs w) (sb vb:Nat) (hs:w.heap[sb]?=some (slObj vb)) (hv:w.heap[vb]?=some v7Obj) :
 Calls Tryz.prog 23 #[.agg #[.int .i64 2,.int .i64 0,.slice (some ⟨sb,0,none⟩) 1 1]] w fun e w'=>e=.returned (.tuple #[.string ⟨#[115,116,97,116,101,32,50,32,48,10,115,108,111,116,32,49,32,53,48,32,34,97,34,10,118,97,108,117,101,32,55,10]⟩,.int .i64 0])∧Below w.heap.size w w':=by
 have hb0:Below w.heap.size w (w.alloc (sBox sb)):=(bR w).alloc lr _;have hsl:=ltOf hs;have hvl:=ltOf hv;have hck:=kX ⟨2,0,some ⟨sb,0,none⟩,1,1⟩ knownS (w.alloc (sBox sb)) (jFc (S:=(· < (w.alloc (sBox sb)).heap.size)) (by simp;omega) (by simp;omega) (jD _ hs) (jD _ hv)) (hT.below hb0);rw[jA5] at hck;have HCK:=hid hck;have HB0:=hid hb0;have HS:=hid hs;have HV:=hid hv;have HT:=hid hT;have HG:=hid (heap_alloc_new w (sBox sb));clear hck hb0 hs hv hT;dsimp only[StC.v] at HCK;go_enter Tryz.func23,Tryz.ntmps23
 go_upto_region 8 with (go_at_call 27;refine HCK.out.mono ?_;rintro e w1 ⟨rfl,hb1⟩;have hg1:=jB hb1 HG.out;have g2:=jA hg1 2;(try dsimp only at g2))
 obtain⟨w2,hw2⟩:∃w2,w2=(w1.alloc fBox).alloc (.cells #[.pointer none,.slice none 0 0] 76):=⟨_,rfl⟩
 rw[←hw2];have hz1:=hb1.size;simp only[World.size_alloc] at hz1;have hb01:Below w.heap.size w w1:=HB0.out.trans (hb1.mono (by simp));have hbl:IsBld (w1.heap.size+1) (w1.heap.size+1) [] w2:=by have h:=uR (w1.alloc fBox);rw[World.size_alloc] at h;rw[hw2];exact h
 have hs0:BldAt w (w1.heap.size+1) [] [(w.heap.size,sBox sb),(w1.heap.size,fBox)] w2:=by
  refine⟨hbl,by rw[hw2];exact(hb01.alloc (by omega) _).alloc (by simp;omega) _,by rw[hw2];simp,by omega,fun p hp=>?_⟩;simp only[List.mem_cons,List.not_mem_nil,or_false] at hp;rcases hp with rfl | rfl
  ·exact⟨by rw[hw2];exact jD _ (jD _ hg1),by dsimp only;omega,fun c fz e=>by cases e⟩
  ·exact⟨by rw[hw2];exact jD _ (heap_alloc_new _ _),by dsimp only;omega,fun c fz e=>by cases e⟩
 have HS0:=hid hs0;have HB1:=hid hb01;have HC:Hid (∀w',(∃bs,BldAt w (w1.heap.size+1) bs [(w.heap.size,sBox sb),(w1.heap.size,fBox)] w')→w'.cell? ⟨w.heap.size,0,none⟩=some (.int .i64 2)∧w'.cell? ⟨w.heap.size,1,none⟩=some (.int .i64 0)):=hid fun w' ⟨_,h⟩=>by
  have h1:=h.at 0 (by simp);exact⟨jA h1 0,jA h1 1⟩
 clear hw2 hbl hs0 hb01 hg1 g2 hb1 hz1;refine wp_region_held_drew (S:=(fun w'=>∃bs,BldAt w (w1.heap.size+1) bs [(w.heap.size,sBox sb),(w1.heap.size,fBox)] w')) (by kernel_rfl) (⟨_,HS0.out.ext (Below.refl _ _).drew⟩) (fun hS=>?_);refine tkQ 0 (v:=?_) ?_ hS ?_;rotate_left;· intro w' hw';have hcells:=HC.out w' hw';go_simp;(try rfl)
 simp only[Act.put,pq];refine tkQ 1 (v:=?_) ?_ hS ?_;rotate_left;· intro w' hw';have hcells:=HC.out w' hw';go_simp;(try rfl)
 simp only[Act.put,pq];refine tkQ 2 (v:=?_) ?_ hS ?_;rotate_left;· intro w' hw';have hcells:=HC.out w' hw';go_simp;(try rfl)
 simp only[Act.put,pq];refine tkQ 4 (v:=?_) ?_ hS ?_;rotate_left;· intro w' hw';have hcells:=HC.out w' hw';go_simp;(try rfl)
 simp only[Act.put,pq];refine tkQ 5 (v:=?_) ?_ hS ?_;rotate_left;· intro w' hw';have hcells:=HC.out w' hw';go_simp;(try rfl)
 simp only[Act.put,pq];refine ry [3] ?_;refine arQ fun K hK=>?_;go_simp;go_at_call 64;refine(Tryz.strconv_Itoa_small 2 (by decide) _).mono ?_;rintro e w3 ⟨rfl,rfl⟩;refine hK.out _ _ (hS) (fun hS=>?_);clear hK K
 (try simp only[Act.put,pq])
 refine ry [6] ?_;refine arQ fun K hK=>?_;go_simp;go_at_call 64;refine(Tryz.strconv_Itoa_small 0 (by decide) _).mono ?_;rintro e w3 ⟨rfl,rfl⟩;refine hK.out _ _ (hS) (fun hS=>?_);clear hK K
 (try simp only[Act.put,pq])
 refine ry [7] ?_;refine arQ fun K hK=>?_;go_simp;refine hK.out _ _ (⟨_,HS0.out.ext (((Below.refl _ w2).drew).alloc lr _)⟩) (fun hS=>?_);clear hK K
 (try simp only[Act.put,pq])
 refine ry [8] ?_;refine arQ fun K hK=>?_;generalize hw3:World.drew _=w3 at hS ⊢;have h3:BldAt w (w1.heap.size+1) [] [(w.heap.size,sBox sb),(w1.heap.size,fBox)] w3:=by rw[←hw3];exact HS0.out.ext ((Below.refl _ w2).alloc lr _).drew
 have g3:w3.heap[w2.heap.size]?=some (.cells #[.string ⟨#[115,116,97,116,101]⟩,.string ⟨(Lib.decDigits 2).toArray⟩,.string ⟨(Lib.decDigits 0).toArray⟩] 9):=by rw[←hw3];exact heap_alloc_new _ _
 clear hw3;have e3:qV [⟨#[115,116,97,116,101]⟩,⟨(Lib.decDigits 2).toArray⟩,⟨(Lib.decDigits 0).toArray⟩]=knT0:=by kernel_rfl
 have hl3:=nS _ _ [] [⟨#[115,116,97,116,101]⟩,⟨(Lib.decDigits 2).toArray⟩,⟨(Lib.decDigits 0).toArray⟩] w2.heap.size 0 3 w3 h3.bld (cells3 g3) (ltOf g3) (by decide) (by decide) (by rw[e3];decide) (by have:=h3.n;omega);rw[e3] at hl3;go_simp;go_at_call 60;refine hl3.mono ?_;rintro e w4 he;have h4:=h3.line he;obtain⟨rfl,_⟩:=he;refine hK.out _ _ (⟨_,h4⟩) (fun hS=>?_);clear hK K
 (try simp only[Act.put,pq])
 refine wpAnyH_done (by kernel_rfl) ?_ _
 (try dsimp only)
 have h5:w4.heap[w.heap.size]?=some (sBox sb):=h4.at 0 (by simp);have k2:=jA h5 2
 (try dsimp only at k2)
 have H4:=hid h4;clear h5 hS h4 hl3 e3 g3 h3 HC HS0;go_wp2
 go_loopw [34] (fun i wr=>∃k:Nat,k≤1∧i=.int .i64 k∧BldAt w (w1.heap.size+1) (if k=0 then knT0 else knT0++knTS++knTV) [(w.heap.size,sBox sb),(w1.heap.size,fBox)] wr) (fun i _=>1-(intOf i).toNat)
 case atStart=>exact⟨0,by omega,rfl,H4.out⟩
 case round =>
  obtain⟨k,hk,rfl,hbr⟩:=hrel;obtain⟨wp,rfl⟩:∃w1:World,w1=wr:=⟨_,rfl⟩
  rcases Nat.lt_or_ge k 1 with hlt | hge
  ·obtain rfl:k=0:=by omega
   rw[if_pos rfl] at hbr;have HBR:=hid hbr;have gs:=jB hbr.bw HS.out;have y0:=jA gs 0;have y1:=jA gs 1;have y2:=jA gs 2;have y3:=jA gs 3;have y4:=jA gs 4;have y5:=jA gs 5;have y6:=jA gs 6;have y7:=jA gs 7;have y8:=jA gs 8;have y9:=jA gs 9
   (try dsimp only at y0 y1 y2 y3 y4 y5 y6 y7 y8 y9)
   clear hbr;go_upto_region 12 with (fail)
   clear y0 y1 y2 y3 y4 y5 y6 y7 y8 y9 gs;obtain⟨w5,hw5⟩:∃w5,w5=wp.alloc (slObj vb):=⟨_,rfl⟩
   rw[←hw5];have HS5:Hid (BldAt w (w1.heap.size+1) knT0 [(wp.heap.size,slObj vb),(w.heap.size,sBox sb),(w1.heap.size,fBox)] w5):=hid (by
    rw[hw5];refine(HBR.out.ext ((Below.refl _ wp).alloc lr _)).cons (heap_alloc_new _ _) ?_ (fun c fz e=>by cases e);have:=HBR.out.n;omega)
   have HC2:Hid (∀w',(∃bs,BldAt w (w1.heap.size+1) bs [(wp.heap.size,slObj vb),(w.heap.size,sBox sb),(w1.heap.size,fBox)] w')→w'.cell? ⟨wp.heap.size,0,none⟩=some (.int .i64 4)∧w'.cell? ⟨wp.heap.size,1,none⟩=some (.int .i64 0)∧w'.cell? ⟨wp.heap.size,2,none⟩=some (.int .i64 0)∧w'.cell? ⟨wp.heap.size,3,none⟩=some (.string ⟨#[97]⟩)∧w'.cell? ⟨wp.heap.size,4,none⟩=some (.slice none 0 0)∧w'.cell? ⟨wp.heap.size,5,none⟩=some (.slice none 0 0)∧w'.cell? ⟨wp.heap.size,6,none⟩=some (.int .i64 1)∧w'.cell? ⟨wp.heap.size,7,none⟩=some (.int .i64 50)∧w'.cell? ⟨wp.heap.size,8,none⟩=some (.slice none 0 0)∧w'.cell? ⟨wp.heap.size,9,none⟩=some (.slice (some ⟨vb,0,none⟩) 1 1)):=hid fun w' ⟨_,h⟩=>by
    have h1:=h.at 0 (by simp);exact⟨jA h1 0,jA h1 1,jA h1 2,jA h1 3,jA h1 4,jA h1 5,jA h1 6,jA h1 7,jA h1 8,jA h1 9⟩
   have HBX:=hid (show Below w.heap.size w w5 from HS5.out.bw);clear hw5;refine wp_region_held_drew (S:=(fun w'=>∃bs,BldAt w (w1.heap.size+1) bs [(wp.heap.size,slObj vb),(w.heap.size,sBox sb),(w1.heap.size,fBox)] w')) (by kernel_rfl) (⟨_,HS5.out.ext (Below.refl _ _).drew⟩) (fun hS=>?_);refine tkQ 0 (v:=?_) ?_ hS ?_;rotate_left;· intro w' hw';have hcells:=HC2.out w' hw';go_simp;(try rfl)
   simp only[Act.put,pq];refine tkQ 1 (v:=?_) ?_ hS ?_;rotate_left;· intro w' hw';have hcells:=HC2.out w' hw';go_simp;(try rfl)
   simp only[Act.put,pq];refine tkQ 2 (v:=?_) ?_ hS ?_;rotate_left;· intro w' hw';have hcells:=HC2.out w' hw';go_simp;(try rfl)
   simp only[Act.put,pq];refine tkQ 4 (v:=?_) ?_ hS ?_;rotate_left;· intro w' hw';have hcells:=HC2.out w' hw';go_simp;(try rfl)
   simp only[Act.put,pq];refine tkQ 5 (v:=?_) ?_ hS ?_;rotate_left;· intro w' hw';have hcells:=HC2.out w' hw';go_simp;(try rfl)
   simp only[Act.put,pq];refine tkQ 7 (v:=?_) ?_ hS ?_;rotate_left;· intro w' hw';have hcells:=HC2.out w' hw';go_simp;(try rfl)
   simp only[Act.put,pq];refine tkQ 8 (v:=?_) ?_ hS ?_;rotate_left;· intro w' hw';have hcells:=HC2.out w' hw';go_simp;(try rfl)
   simp only[Act.put,pq];refine tkQ 9 (v:=?_) ?_ hS ?_;rotate_left;· intro w' hw';have hcells:=HC2.out w' hw';go_simp;(try rfl)
   simp only[Act.put,pq];refine ry [3] ?_;refine arQ fun K hK=>?_;go_simp;go_at_call 64;refine(Tryz.strconv_Itoa_small 1 (by decide) _).mono ?_;rintro e w3 ⟨rfl,rfl⟩;refine hK.out _ _ (hS) (fun hS=>?_);clear hK K
   (try simp only[Act.put,pq])
   refine ry [6] ?_;refine arQ fun K hK=>?_;go_simp;go_at_call 64;refine(Tryz.strconv_Itoa_small 50 (by decide) _).mono ?_;rintro e w3 ⟨rfl,rfl⟩;refine hK.out _ _ (hS) (fun hS=>?_);clear hK K
   (try simp only[Act.put,pq])
   refine ry [10] ?_;refine arQ fun K hK=>?_;generalize hw6:World.drew _=w6 at hS ⊢;have h6:BldAt w (w1.heap.size+1) knT0 [(wp.heap.size,slObj vb),(w.heap.size,sBox sb),(w1.heap.size,fBox)] w6:=by rw[←hw6];exact HS5.out.ext (Below.refl _ w5).drew
   have hl6:=jM4 ⟨4,0,0,⟨#[97]⟩,none,0,0,none,0,0⟩ ⟨#[97]⟩ w6 (jH4 _ _) (HT.out.below h6.bw) keyA_chk (by decide) plainA;dsimp only[VC.v] at hl6;clear hw6;go_simp;go_at_call 47;refine hl6.mono ?_;rintro e w7 ⟨rfl,hb7⟩;have h7:=h6.ext hb7;have g7:w7.heap[w1.heap.size]?=some fBox:=h7.at 2 (by simp);refine hK.out _ _ (⟨_,h7⟩) (fun hS=>?_);clear hK K
   (try simp only[Act.put,pq])
   refine tkQ 11 (v:=?_) ?_ hS ?_;rotate_left;· intro w' hw';have hcells:=HC2.out w' hw';go_simp;(try rfl)
   simp only[Act.put,pq];refine tkQ 12 (v:=?_) ?_ hS ?_;rotate_left;· intro w' hw';have hcells:=HC2.out w' hw';go_simp;(try rfl)
   simp only[Act.put,pq];refine ry [13] ?_;refine arQ fun K hK=>?_;go_simp;go_at_call 63;refine(jFd _ _ w7 (jA g7 0) (jC g7 0)).mono ?_;rintro e w8 ⟨rfl,hw8⟩;rw[vA g7 rfl] at hw8;subst hw8;refine hK.out _ _ (⟨_,h7⟩) (fun hS=>?_);clear hK K
   (try simp only[Act.put,pq])
   refine ry [14] ?_;refine arQ fun K hK=>?_;go_simp;refine hK.out _ _ (⟨_,h7.ext ((Below.refl _ _).alloc lr _)⟩) (fun hS=>?_);clear hK K
   (try simp only[Act.put,pq])
   refine ry [15] ?_;refine arQ fun K hK=>?_;generalize hw9:World.alloc _ _=w9 at hS ⊢;have h9:BldAt w (w1.heap.size+1) knT0 [(wp.heap.size,slObj vb),(w.heap.size,sBox sb),(w1.heap.size,fBox)] w9:=by rw[←hw9];exact h7.ext ((Below.refl _ _).alloc lr _)
   have g9:w9.heap[w8.heap.size]?=some (.cells #[.string ⟨#[115,108,111,116]⟩,.string ⟨(Lib.decDigits 1).toArray⟩,.string ⟨(Lib.decDigits 50).toArray⟩,.string ⟨(nP ⟨#[97]⟩).toArray⟩] 9):=by rw[←hw9];exact heap_alloc_new _ _
   clear hw9;have e9:qV [⟨#[115,108,111,116]⟩,⟨(Lib.decDigits 1).toArray⟩,⟨(Lib.decDigits 50).toArray⟩,⟨(nP ⟨#[97]⟩).toArray⟩]=knTS:=by kernel_rfl
   have hl9:=nS _ _ knT0 [⟨#[115,108,111,116]⟩,⟨(Lib.decDigits 1).toArray⟩,⟨(Lib.decDigits 50).toArray⟩,⟨(nP ⟨#[97]⟩).toArray⟩] w8.heap.size 0 4 w9 h9.bld (cells4 g9) (ltOf g9) (by decide) (by decide) (by rw[e9];decide) (by have:=h9.n;omega);rw[e9] at hl9;go_simp;go_at_call 60;refine hl9.mono ?_;rintro e w10 he;have h10:=h9.line he;obtain⟨rfl,_⟩:=he;refine hK.out _ _ (⟨_,h10⟩) (fun hS=>?_);clear hK K
   (try simp only[Act.put,pq])
   refine wpAnyH_done (by kernel_rfl) ?_ _
   (try dsimp only)
   have H10:=hid h10;have h11:w10.heap[wp.heap.size]?=some (slObj vb):=h10.at 0 (by simp);have k8:=jA h11 8;have k9:=jA h11 9
   (try dsimp only at k8 k9)
   clear hS h10 hl9 e9 g9 h9 h7 g7 hb7 h6 hl6 h11 HC2 HBX;go_wp2
   go_loopw [57] (fun i wr=>i=.int .i64 0∧wr=w10) (fun _ _=>0)
   case atStart=>exact⟨rfl,rfl⟩
   case round =>
    obtain⟨rfl,rfl⟩:=hrel;go_wp2
    go_loopw [74] (fun i wr=>∃k:Nat,k≤1∧i=.int .i64 k∧BldAt w (w1.heap.size+1) (if k=0 then knT0++knTS else knT0++knTS++knTV) [(wp.heap.size,slObj vb),(w.heap.size,sBox sb),(w1.heap.size,fBox)] wr) (fun i _=>1-(intOf i).toNat)
    case atStart=>exact⟨0,by omega,rfl,H10.out⟩
    case round =>
     obtain⟨k,hk,rfl,hbr⟩:=hrel;obtain⟨wq,rfl⟩:∃w1:World,w1=wr:=⟨_,rfl⟩
     clear k8 k9;rcases Nat.lt_or_ge k 1 with hlt | hge
     ·obtain rfl:k=0:=by omega
      rw[if_pos rfl] at hbr;have HBQ:=hid hbr;have gs:=jB hbr.bw HV.out;have y0:=jA gs 0;have y1:=jA gs 1;have y2:=jA gs 2;have y3:=jA gs 3;have y4:=jA gs 4;have y5:=jA gs 5
      (try dsimp only at y0 y1 y2 y3 y4 y5)
      clear hbr;go_upto_region 21 with (fail)
      clear y0 y1 y2 y3 y4 y5 gs;obtain⟨w12,hw12⟩:∃w12,w12=wq.alloc v7Obj:=⟨_,rfl⟩
      rw[←hw12];have h12:BldAt w (w1.heap.size+1) (knT0++knTS) [(wp.heap.size,slObj vb),(w.heap.size,sBox sb),(w1.heap.size,fBox)] w12:=by rw[hw12];exact HBQ.out.ext ((Below.refl _ wq).alloc lr _)
      have g12:w12.heap[wq.heap.size]?=some v7Obj:=by rw[hw12];exact heap_alloc_new _ _
      have y0:=jA g12 0;have y1:=jA g12 1;have y2:=jA g12 2;have y3:=jA g12 3;have y4:=jA g12 4;have y5:=jA g12 5
      (try dsimp only at y0 y1 y2 y3 y4 y5)
      have HL12:=hid (jM2 ⟨2,7,0,⟨#[]⟩,none,0,0,none,0,0⟩ 7 (by decide) w12 (jL2 _ _) (HT.out.below h12.bw) val7_chk (by rw[show(⟨(Lib.decDigits 7).toArray⟩:ByteArray)=⟨#[55]⟩ by kernel_rfl];decide));dsimp only[VC.v] at HL12;have H12:=hid h12;have eTV:qV [⟨#[118,97,108,117,101]⟩,⟨(Lib.decDigits 7).toArray⟩]=knTV:=by kernel_rfl
      clear hw12 g12 h12;go_wp2_with (first
       | (go_at_call 60;refine HLR.out.mono ?_;rintro e w15 he;have H15:=hid (HA14.out.line he);obtain⟨rfl,_⟩:=he)
       | (go_at_call 63;refine HK13.out.mono ?_;rintro e w14 ⟨rfl,hw14⟩;rw[HSS.out] at hw14;subst hw14)
       | (go_at_call 47;refine HL12.out.mono ?_;rintro e w13 ⟨rfl,hb13⟩;have h13:=H12.out.ext hb13;have g13:w13.heap[w1.heap.size]?=some fBox:=h13.at 2 (by simp);have HK13:=hid (jFd w1.heap.size ⟨(Lib.decDigits 7).toArray⟩ w13 (jA g13 0) (jC g13 0));have HSS:=hid (vA (v:=.int .i64 0) (i:=0) g13 rfl);have hlr:=nS _ _ (knT0++knTS) [⟨#[118,97,108,117,101]⟩,⟨(Lib.decDigits 7).toArray⟩] w13.heap.size 0 2 (w13.alloc (.cells #[.string ⟨#[118,97,108,117,101]⟩,.string ⟨(Lib.decDigits 7).toArray⟩] 9)) (h13.ext ((Below.refl _ w13).alloc lr _)).bld (jN9 (heap_alloc_new _ _)) (ltOf (heap_alloc_new _ _)) (by decide) (by decide) (by rw[eTV];decide) (by have:=h13.n;simp;omega);rw[eTV] at hlr;have HLR:=hid hlr;have HA14:=hid (h13.ext ((Below.refl _ w13).alloc lr (.cells #[.string ⟨#[118,97,108,117,101]⟩,.string ⟨(Lib.decDigits 7).toArray⟩] 9)));clear hlr h13 g13))
      go_roundw
      case rel=>exact⟨1,Nat.le_refl _,by go_num,by rw[if_neg (by decide)];exact H15.out⟩
      case measure=>simp[intOf]
     ·obtain rfl:k=1:=by omega
      rw[if_neg (by decide)] at hbr;have HBQ:=hid hbr;clear hbr;go_wp2
      go_roundw
      case rel=>exact⟨1,Nat.le_refl _,by go_num,by rw[if_neg (by decide)];exact HBQ.out.tail⟩
      case measure=>simp[intOf]
  ·obtain rfl:k=1:=by omega
   rw[if_neg (by decide)] at hbr;have HBR:=hid hbr;have gf:wp.heap[w1.heap.size]?=some fBox:=hbr.at 1 (by simp);have kf:=jA gf 0
   (try dsimp only at kf)
   have HST:=hid (Tryz.Builder_String_any_k (w1.heap.size+1) (w1.heap.size+1) (knT0++knTS++knTV) wp hbr.bld (by have:=hbr.n;omega));clear hbr gf;go_wp2_with (go_at_call 44;refine HST.out.mono ?_;rintro e w20 ⟨rfl,_,hb20,_⟩)
   go_ret2
   exact⟨rfl,HBR.out.bw.trans (hb20.mono HBR.out.m)⟩
end
end Go.Proofs.YtaofolgaiipcjaaGreatDoor
