/- A part. -/
import Derived.Test.YteladbdfiannjaaGreatDoorSX35Mrg
import Derived.Test.YteladbdfiannjaaGreatDoorSX36Mrg
namespace Go.Proofs.YteladbdfiannjaaGreatDoor
set_option linter.unusedVariables false
set_option maxRecDepth 100000
set_option maxHeartbeats 64000000
set_option linter.unusedSimpArgs false
open Go Go.RowKit
theorem aAh:(Tryz.prog.info? 133).map (fun i=>(i.zero,i.size,i.bytes))=some (some (.agg #[.int .i64 0,.int .i64 0,.int .i64 0,.string ByteArray.empty,.slice none 0 0,.slice none 0 0,.int .i64 0,.int .i64 0,.slice none 0 0,.slice none 0 0]),10,152):=by kernel_rfl
theorem aCy:(Tryz.prog.info? 68).map (fun i=>(i.zero,i.size,i.bytes))=some (some (.agg #[.int .i64 0,.slice none 0 0,.int .i64 0,.slice none 0 0,.int .i64 0,.int .i64 0,.int .i64 0,.string ByteArray.empty,.slice none 0 0,.slice none 0 0]),10,152):=by kernel_rfl
theorem Turn.fresh' {S S2:Nat→Prop} {w w2 w3:World} (h:Turn S w w2) (h2:Turn S2 w2 w3) (hS:∀k,k<w.heap.size→S2 k→S k):Turn S w w3 :=
 ⟨h2.os.trans h.os,h2.tape.trans h.tape,h2.output.trans h.output,Nat.le_trans h.size h2.size,fun k hk hn=>(h2.block k (Nat.lt_of_lt_of_le hk h.size) (fun h'=>hn (hS k hk h'))).trans (h.block k hk hn)⟩
theorem Turn.below' {S:Nat→Prop} {N:Nat} {w w':World} (h:Turn S w w') (hS:∀k,S k→N≤k) (hN:N≤w.heap.size):Below N w w' :=
 ⟨h.os,h.tape,h.output,h.size,fun k hk=>h.block k (by omega) (fun hk'=>by have:=hS k hk';omega)⟩
theorem Built.keep {C D:Type} {K:Kit C D} {T B:Nat} {w w':World} {v:Value} {k:Nat} {l:List D} {S:Nat→Prop} (h:Built K T B w v k l) (ht:Turn S w w') (hS:∀q,B≤q→q<w.heap.size→¬ S q):Built K T B w' v k l:=by
 obtain⟨cs,h1,h2,h3⟩:=h
 refine⟨cs,h1,⟨h2.1,h2.2.imp id ?_⟩,fun j hj hj'=>K.same (fun b hb=>⟨⟨hb.1,by have:=ht.size;omega,hb.2.2⟩,ht.block b hb.2.1 (hS b hb.1 hb.2.1)⟩) (h3 j hj hj')⟩
 rintro⟨g,cap,cur,e,hb,hg,h4⟩
 exact⟨g,cap,cur,e,hb,(ht.block g (bT hg) (hS g hb (bT hg))).trans hg,h4⟩
def bE {α β:Type} (n:Nat) (f:α→β) (l:List α):List β:=(l.take n).map f
theorem dF {α β:Type} {n:Nat} {f:α→β} {l:List α} (k:Nat) (h1:k<l.length) (h2:k<n):k<(bE n f l).length:=by
 unfold bE;simp;omega
theorem aZ {α β:Type} {n:Nat} {f:α→β} {l:List α} (k:Nat) (h:k<(bE n f l).length):k<l.length∧k<n:=by
 unfold bE at h;simp at h;omega
theorem dG {α β:Type} {n:Nat} {f:α→β} {l:List α} (k:Nat) (h:k<(bE n f l).length) (h':k<l.length):(bE n f l)[k]=f l[k]:=by
 have hn:=(aZ k h).2
 have h2:(bE n f l)[k]?=some (f l[k]):=by
  unfold bE
  rw[List.getElem?_map,List.getElem?_take_of_lt hn,List.getElem?_eq_getElem h']
  rfl
 rw[List.getElem?_eq_getElem h] at h2
 exact Option.some.inj h2
theorem bA {α β:Type} (n:Nat) (f:α→β) (l:List α):(bE n f l).length≤n:=by unfold bE;simp;omega
def nA (x:Slot):Slot:=⟨shV 2 x.k,x.n,x.t,bE 4 tT x.items,bE 4 (shV 3) x.vals⟩
def jY (s:Sta):Sta:=⟨s.n,s.t,bE 6 nA s.l⟩
theorem oX (c:StC) (d:Sta) (w:World) (hd:IsSta (· < w.heap.size) w c d):Calls Tryz.prog 19 #[c.v] w fun e w'=>∃c':StC,e=.returned c'.v∧Below w.heap.size w w'∧IsSta (fun b=>w.heap.size≤b∧b<w'.heap.size) w' c' (jY d):=by
 obtain⟨sn,st,a,sl,sc⟩:=c
 obtain⟨ti,hi,hz0,hz1,hz2⟩:=info_parts aAh
 obtain⟨tm,hmi,hmz0,hmz1,hmz2⟩:=info_parts aCy
 obtain⟨tv,hvi,hvz0,hvz1,hvz2⟩:=info_parts lZ
 have HLI:=hid hd.l.len
 have HDI:=hid hd.l
 have HNT:=hid (And.intro hd.n (And.intro hd.rn (And.intro hd.t hd.rt)))
 have hbig:=hd.l.big
 dsimp only at HLI HDI HNT hbig
 obtain⟨L,hL⟩:∃L,L=bE 6 nA d.l:=⟨_,rfl⟩
 obtain⟨sb,hsb⟩:∃sb,sb=w.heap.size:=⟨_,rfl⟩
 obtain⟨W,hW⟩:∃W,W=(w.alloc (.cells #[.int .i64 sn,.int .i64 st,.slice a sl sc] 55)).alloc (.cells #[.int .i64 0,.int .i64 0,.slice none 0 0] 55):=⟨_,rfl⟩
 have g1:W.heap[sb]?=some (.cells #[.int .i64 sn,.int .i64 st,.slice a sl sc] 55):=by rw[hW,hsb];exact aC _ (heap_alloc_new w _)
 have g2:W.heap[sb+1]?=some (.cells #[.int .i64 0,.int .i64 0,.slice none 0 0] 55):=by rw[hW,hsb];exact aM _ _ _ (by simp)
 have hbW:Below sb w W:=by rw[hW,hsb];exact((bR w).alloc lr _).alloc (by simp) _
 have zW:W.heap.size=sb+2:=by rw[hW,hsb];simp
 obtain⟨B,hB⟩:∃B,B=sb+2:=⟨_,rfl⟩
 have HL:=hid hL;have HW:=hid hW;have HSB:=hid hsb;have HB:=hid hB
 have HG1:=hid g1;have HG2:=hid g2;have HBW:=hid hbW;have HZW:=hid zW
 clear hd hL hW hsb hB g1 g2 hbW zW
 dsimp only[StC.v]
 go_enter Tryz.func19,Tryz.ntmps19
 go_upto_region 1 with (fail)
 rw[←HW.out,←HSB.out]
 go_upto_block 0 with (fail)
 go_cut [3] (fun v wz=>Built slK 133 B wz v L.length L∧wz.heap[sb]?=some (.cells #[.int .i64 sn,.int .i64 st,.slice a sl sc] 55)∧wz.heap[sb+1]?=some (.cells #[.int .i64 0,.int .i64 0,.slice none 0 0] 55)∧Below sb w wz∧B≤wz.heap.size)
 case first =>
  go_wp2
  go_loopw [3,4] (fun vv i wz=>∃(k:Nat) (v:Value),v=vv∧k≤L.length∧i=.int .i64 k∧Built slK 133 B wz v k L∧wz.heap[sb]?=some (.cells #[.int .i64 sn,.int .i64 st,.slice a sl sc] 55)∧wz.heap[sb+1]?=some (.cells #[.int .i64 0,.int .i64 0,.slice none 0 0] 55)∧Below sb w wz∧B≤wz.heap.size) (fun _ i _=>L.length-(intOf i).toNat)
  case atStart=>exact⟨0,_,rfl,Nat.zero_le _,rfl,Built.nil _ _ _ _,HG1.out,HG2.out,HBW.out,by have:=HB.out;have:=HZW.out;omega⟩
  case round =>
   obtain⟨k,v,rfl,hk,rfl,hbu,hgv,hgz,hbel,hsz⟩:=hrel
   obtain⟨wp,rfl⟩:∃w1:World,w1=wr:=⟨_,rfl⟩
   have e2:=aA hgv 2
   (try dsimp only at e2)
   have HGV:=hid hgv;have HGZ:=hid hgz;have HBEL:=hid hbel;have HBZ:=hid hsz
   clear hgv hgz hbel hsz
   have hk0:(0:Int)≤(k:Int):=by omega
   have HBU:=hid hbu
   have HKK:=hid hk
   have EX:Hid (¬ k<L.length→Built slK 133 B wp v L.length L):=hid (fun h=>by
    have:k=L.length:=by omega
    rw[←this];exact hbu)
   clear hbu hk
   by_cases h1:(k:Int)<(sl:Int)
   ·by_cases h2:(k:Int)<6
    ·have hkl:k<d.l.length:=by have:=HLI.out;omega
     have hkL:k<L.length:=by rw[HL.out];exact dF k hkl (by omega)
     obtain⟨b,o,rfl,hb,hx⟩:=HDI.out.slot (show 0<sl by omega)
     obtain⟨x,hxa,hxi⟩:=hx k hkl
     have hst:∀q,q<w.heap.size→q<wp.heap.size∧wp.heap[q]?=w.heap[q]?:=fun q hq=>⟨by have:=HBEL.out.size;omega,HBEL.out.block q (by rw[HSB.out];exact hq)⟩
     obtain⟨x0,x1,x2,x3,x4,x5,x6,x7,x8,x9⟩:=(hxa.same (hst b hb).2).slot
     obtain⟨dx,hdx⟩:∃dx,dx=d.l[k]:=⟨_,rfl⟩
     rw[←hdx] at hxi
     have HLK:Hid (∀h:k<L.length,L[k]=nA dx):=hid (fun h=>by
      have h':=dG (n:=6) (f:=nA) (l:=d.l) k (by rw[←HL.out];exact h) hkl
      simp only[←HL.out] at h'
      rw[hdx];exact h')
     obtain⟨Wx,hWx⟩:∃Wx,Wx=wp.alloc (.cells #[.int .i64 x.k.k,.int .i64 x.k.i,.int .i64 x.k.s,.string x.k.t,.slice x.k.la x.k.ll x.k.lc,.slice x.k.fa x.k.fl x.k.fc,.int .i64 x.n,.int .i64 x.t,.slice x.ia x.il x.ic,.slice x.va x.vl x.vc] 133):=⟨_,rfl⟩
     have hbx:Below wp.heap.size wp Wx:=by rw[hWx];exact(Below.refl _ _).alloc lr _
     have HX:Hid (Wx.heap[wp.heap.size]?=some (.cells #[.int .i64 x.k.k,.int .i64 x.k.i,.int .i64 x.k.s,.string x.k.t,.slice x.k.la x.k.ll x.k.lc,.slice x.k.fa x.k.fl x.k.fc,.int .i64 x.n,.int .i64 x.t,.slice x.ia x.il x.ic,.slice x.va x.vl x.vc] 133)):=hid (by rw[hWx];exact heap_alloc_new wp _)
     have HZX:Hid (Wx.heap.size=wp.heap.size+1):=hid (by rw[hWx];simp)
     have HXI:=hid hxi
     have HST:=hid hst
     have HSV:=hid (fun (w':World) (h:Below Wx.heap.size Wx w')=>(show Calls Tryz.prog 78 #[.agg #[.int .i64 x.k.k,.int .i64 x.k.i,.int .i64 x.k.s,.string x.k.t,.slice x.k.la x.k.ll x.k.lc,.slice x.k.fa x.k.fl x.k.fc],.int .i64 3] w' (dW w' (shV 2 dx.k)) from eU 2 (by omega) dx.k x.k w' (hxi.k.same (S':=(· < w'.heap.size)) fun q hq=>⟨by have h1:=(hst q hq).1;have h2:=h.size;have h3:=HZX.out;omega,(h.block q (by have h1:=(hst q hq).1;have h3:=HZX.out;omega)).trans ((hbx.block q (hst q hq).1).trans (hst q hq).2)⟩)))
     have HC6:=hid (fun (w':World) (h:w'.heap[wp.heap.size]?=some (.cells #[.int .i64 x.k.k,.int .i64 x.k.i,.int .i64 x.k.s,.string x.k.t,.slice x.k.la x.k.ll x.k.lc,.slice x.k.fa x.k.fl x.k.fc,.int .i64 x.n,.int .i64 x.t,.slice x.ia x.il x.ic,.slice x.va x.vl x.vc] 133)∧Below Wx.heap.size Wx w')=>(show w'.cell? ⟨wp.heap.size,0,none⟩=some (.int .i64 x.k.k)∧w'.cell? ⟨wp.heap.size,1,none⟩=some (.int .i64 x.k.i)∧w'.cell? ⟨wp.heap.size,2,none⟩=some (.int .i64 x.k.s)∧w'.cell? ⟨wp.heap.size,3,none⟩=some (.string x.k.t)∧w'.cell? ⟨wp.heap.size,4,none⟩=some (.slice x.k.la x.k.ll x.k.lc)∧w'.cell? ⟨wp.heap.size,5,none⟩=some (.slice x.k.fa x.k.fl x.k.fc)∧w'.cell? ⟨wp.heap.size,6,none⟩=some (.int .i64 x.n)∧w'.cell? ⟨wp.heap.size,7,none⟩=some (.int .i64 x.t) from⟨aA h.1 0,aA h.1 1,aA h.1 2,aA h.1 3,aA h.1 4,aA h.1 5,aA h.1 6,aA h.1 7⟩))
     have HBX:=hid hbx
     have HWX:=hid hWx
     have HKL:=hid hkL
     clear hx hxa hxi hst hdx hbx hWx hb hkL
     go_upto_region 6 with (fail)
     rw[←HWX.out]
     clear e2 x0 x1 x2 x3 x4 x5 x6 x7 x8 x9
     go_cut [6] (fun y wz=>∃(yb:Nat) (ck:VC),y=.pointer (some ⟨yb,0,none⟩)∧wz.heap[yb]?=some (.cells #[.int .i64 ck.k,.int .i64 ck.i,.int .i64 ck.s,.string ck.t,.slice ck.la ck.ll ck.lc,.slice ck.fa ck.fl ck.fc,.int .i64 x.n,.int .i64 x.t,.slice none 0 0,.slice none 0 0] 133)∧Wx.heap.size≤yb∧Below Wx.heap.size Wx wz∧IsVal (fun q=>Wx.heap.size≤q∧q<wz.heap.size∧q≠yb) wz ck (shV 2 dx.k))
     case first =>
      refine aQ 9 (fun w'=>w'.heap[wp.heap.size]?=some (.cells #[.int .i64 x.k.k,.int .i64 x.k.i,.int .i64 x.k.s,.string x.k.t,.slice x.k.la x.k.ll x.k.lc,.slice x.k.fa x.k.fl x.k.fc,.int .i64 x.n,.int .i64 x.t,.slice x.ia x.il x.ic,.slice x.va x.vl x.vc] 133)∧Below Wx.heap.size Wx w') (by kernel_rfl) (by kernel_rfl) (by kernel_rfl) (by decide) (⟨HX.out,(Below.refl _ Wx).drew⟩) (fun hS=>?_)
      simp only[zdm,zdn,zdp,zdq]
      refine tkQ 0 (v:=?_) ?_ hS ?_;rotate_left;· intro w' hw';have hcells:=HC6.out w' hw';go_simp;(try rfl)
      simp only[Act.put,pq]
      refine tkQ 1 (v:=?_) ?_ hS ?_;rotate_left;· intro w' hw';have hcells:=HC6.out w' hw';go_simp;(try rfl)
      simp only[Act.put,pq]
      refine tkQ 3 (v:=?_) ?_ hS ?_;rotate_left;· intro w' hw';have hcells:=HC6.out w' hw';go_simp;(try rfl)
      simp only[Act.put,pq]
      refine tkQ 4 (v:=?_) ?_ hS ?_;rotate_left;· intro w' hw';have hcells:=HC6.out w' hw';go_simp;(try rfl)
      simp only[Act.put,pq]
      refine tkQ 5 (v:=?_) ?_ hS ?_;rotate_left;· intro w' hw';have hcells:=HC6.out w' hw';go_simp;(try rfl)
      simp only[Act.put,pq]
      refine tkQ 6 (v:=?_) ?_ hS ?_;rotate_left;· intro w' hw';have hcells:=HC6.out w' hw';go_simp;(try rfl)
      simp only[Act.put,pq]
      refine ry [2,8] ?_
      refine AllReadyH.cons (o:=_) rfl (fun K hK=>?_) ?_
      ·go_simp;go_at_call 78;refine(HSV.out _ hS.2).mono ?_
       rintro e w4 ⟨c4,rfl,hb4,hi4⟩
       have HB4:=hid hb4;have HI4:=hid hi4
       refine hK.out _ _ (⟨aB hb4 hS.1,hS.2.trans (hb4.mono hS.2.size)⟩) (fun hS=>?_)
       clear hK K
       (try simp only[Act.put,pq])
       refine tkQ 7 (v:=?_) ?_ hS ?_;rotate_left;· intro w' hw';have hcells:=HC6.out w' hw';go_simp;(try rfl)
       simp only[Act.put,pq]
       refine ry [8] ?_
       refine arQ fun K hK=>?_
       go_simp
       refine hK.out _ _ (⟨aC _ hS.1,hS.2.alloc hS.2.size _⟩) (fun hS=>?_)
       clear hK K
       (try simp only[Act.put,pq])
       refine wpAnyH_done (by kernel_rfl) ?_ _
       (try dsimp only)
       have HS:=hid hS
       clear hS
       go_wp2
       go_meet
       exact⟨w4.heap.size,c4,rfl,heap_alloc_new w4 _,by have:=HB4.out.size;simpa using this,(((Below.refl _ Wx).drew.trans HB4.out).alloc (by have:=HB4.out.size;simpa using this) _),HI4.out.same fun q hq=>⟨⟨hq.1,by simp;omega,by omega⟩,Below.heap_alloc _ _ _ hq.2⟩⟩
      refine arQ fun K hK=>?_
      go_simp
      refine hK.out _ _ (⟨aC _ hS.1,hS.2.alloc hS.2.size _⟩) (fun hS=>?_)
      clear hK K
      (try simp only[Act.put,pq])
      refine ry [2] ?_
      refine arQ fun K hK=>?_
      go_simp;go_at_call 78;refine(HSV.out _ hS.2).mono ?_
      rintro e w4 ⟨c4,rfl,hb4,hi4⟩
      have HB4:=hid hb4;have HI4:=hid hi4
      refine hK.out _ _ (⟨aB hb4 hS.1,hS.2.trans (hb4.mono hS.2.size)⟩) (fun hS=>?_)
      clear hK K
      (try simp only[Act.put,pq])
      refine tkQ 7 (v:=?_) ?_ hS ?_;rotate_left;· intro w' hw';have hcells:=HC6.out w' hw';go_simp;(try rfl)
      simp only[Act.put,pq]
      refine wpAnyH_done (by kernel_rfl) ?_ _
      (try dsimp only)
      have hy:w4.heap[Wx.heap.size]?=some (.cells #[.int .i64 0,.int .i64 0,.int .i64 0,.string ⟨#[]⟩,.slice none 0 0,.slice none 0 0,.int .i64 0,.int .i64 0,.slice none 0 0,.slice none 0 0] 133):=aB HB4.out (heap_alloc_new Wx.drew _)
      have y0:=aE hy 0
      have y1:=aE hy 1
      have y2:=aE hy 2
      have y3:=aE hy 3
      have y4:=aE hy 4
      have y5:=aE hy 5
      have y6:=aE hy 6
      have y7:=aE hy 7
      have y8:=aE hy 8
      have y9:=aE hy 9
      have z0:=aA hy 0
      have z1:=aA hy 1
      have z2:=aA hy 2
      have z3:=aA hy 3
      have z4:=aA hy 4
      have z5:=aA hy 5
      have z6:=aA hy 6
      have z7:=aA hy 7
      have z8:=aA hy 8
      have z9:=aA hy 9
      (try dsimp only at z0 z1 z2 z3 z4 z5 z6 z7 z8 z9)
      have HY:=hid hy
      clear hS hy
      go_wp2
      clear y0 z0 y1 z1 y2 z2 y3 z3 y4 z4 y5 z5 y6 z6 y7 z7 y8 z8 y9 z9
      go_meet
      have hy:=HY.out
      have hY:=(aD (o:=9) (.slice none 0 0) (aD (o:=8) (.slice none 0 0) (aD (o:=7) (.int .i64 x.t) (aD (o:=6) (.int .i64 x.n) (aD (o:=5) (.slice c4.fa c4.fl c4.fc) (aD (o:=4) (.slice c4.la c4.ll c4.lc) (aD (o:=3) (.string c4.t) (aD (o:=2) (.int .i64 c4.s) (aD (o:=1) (.int .i64 c4.i) (aD (o:=0) (.int .i64 c4.k) hy))))))))))
      simp only[List.setIfInBounds_toArray,List.set_cons_zero,List.set_cons_succ] at hY
      have hO:∀q,q≠Wx.heap.size→((((((((((w4.setCell ⟨Wx.heap.size,0,none⟩ (.int .i64 c4.k)).setCell ⟨Wx.heap.size,1,none⟩ (.int .i64 c4.i)).setCell ⟨Wx.heap.size,2,none⟩ (.int .i64 c4.s)).setCell ⟨Wx.heap.size,3,none⟩ (.string c4.t)).setCell ⟨Wx.heap.size,4,none⟩ (.slice c4.la c4.ll c4.lc)).setCell ⟨Wx.heap.size,5,none⟩ (.slice c4.fa c4.fl c4.fc)).setCell ⟨Wx.heap.size,6,none⟩ (.int .i64 x.n)).setCell ⟨Wx.heap.size,7,none⟩ (.int .i64 x.t)).setCell ⟨Wx.heap.size,8,none⟩ (.slice none 0 0)).setCell ⟨Wx.heap.size,9,none⟩ (.slice none 0 0)).heap[q]?=w4.heap[q]?:=(fun q hq=>(Below.heap_setCell _ _ _ _ (by exact hq)).trans ((Below.heap_setCell _ _ _ _ (by exact hq)).trans ((Below.heap_setCell _ _ _ _ (by exact hq)).trans ((Below.heap_setCell _ _ _ _ (by exact hq)).trans ((Below.heap_setCell _ _ _ _ (by exact hq)).trans ((Below.heap_setCell _ _ _ _ (by exact hq)).trans ((Below.heap_setCell _ _ _ _ (by exact hq)).trans ((Below.heap_setCell _ _ _ _ (by exact hq)).trans ((Below.heap_setCell _ _ _ _ (by exact hq)).trans (Below.heap_setCell _ _ _ _ (by exact hq)))))))))))
      have hZ:((((((((((w4.setCell ⟨Wx.heap.size,0,none⟩ (.int .i64 c4.k)).setCell ⟨Wx.heap.size,1,none⟩ (.int .i64 c4.i)).setCell ⟨Wx.heap.size,2,none⟩ (.int .i64 c4.s)).setCell ⟨Wx.heap.size,3,none⟩ (.string c4.t)).setCell ⟨Wx.heap.size,4,none⟩ (.slice c4.la c4.ll c4.lc)).setCell ⟨Wx.heap.size,5,none⟩ (.slice c4.fa c4.fl c4.fc)).setCell ⟨Wx.heap.size,6,none⟩ (.int .i64 x.n)).setCell ⟨Wx.heap.size,7,none⟩ (.int .i64 x.t)).setCell ⟨Wx.heap.size,8,none⟩ (.slice none 0 0)).setCell ⟨Wx.heap.size,9,none⟩ (.slice none 0 0)).heap.size=w4.heap.size:=by simp[World.setCell]
      have hb0:Below Wx.heap.size Wx w4:=((Below.refl _ Wx).drew.alloc lr (.cells #[.int .i64 0,.int .i64 0,.int .i64 0,.string ⟨#[]⟩,.slice none 0 0,.slice none 0 0,.int .i64 0,.int .i64 0,.slice none 0 0,.slice none 0 0] 133)).trans (HB4.out.mono (by simp))
      refine⟨Wx.heap.size,c4,rfl,hY,Nat.le_refl _,((((((((((hb0.setCell (p:=⟨Wx.heap.size,0,none⟩) lr _).setCell (p:=⟨Wx.heap.size,1,none⟩) lr _).setCell (p:=⟨Wx.heap.size,2,none⟩) lr _).setCell (p:=⟨Wx.heap.size,3,none⟩) lr _).setCell (p:=⟨Wx.heap.size,4,none⟩) lr _).setCell (p:=⟨Wx.heap.size,5,none⟩) lr _).setCell (p:=⟨Wx.heap.size,6,none⟩) lr _).setCell (p:=⟨Wx.heap.size,7,none⟩) lr _).setCell (p:=⟨Wx.heap.size,8,none⟩) lr _).setCell (p:=⟨Wx.heap.size,9,none⟩) lr _),HI4.out.same fun q hq=>?_⟩
      have h1:=hq.1
      simp at h1
      exact⟨⟨by omega,by rw[hZ];exact hq.2,by omega⟩,hO q (by omega)⟩
     case rest =>
      obtain⟨yb,ck,rfl,hyb,hyx,hbb,hik⟩:=hcut
      obtain⟨WI,rfl⟩:∃u:World,u=wc:=⟨_,rfl⟩
      have HYX:=hid hyx;have HYWI:=hid hyb;have HIK:=hid hik;have HBB:=hid hbb
      have HXWI:=hid (aB hbb HX.out)
      have HSWI:=hid (fun (q:Nat) (hq:q<w.heap.size)=>(hbb.block q (by have h1:=(HST.out q hq).1;have h3:=HZX.out;omega)).trans ((HBX.out.block q (HST.out q hq).1).trans (HST.out q hq).2))
      clear hyb hyx hbb hik HC6 HSV
      have HLTI:Hid (w.heap.size<wp.heap.size∧wp.heap.size<WI.heap.size∧w.heap.size<yb∧yb<WI.heap.size∧wp.heap.size≠yb):=hid (by have h1:=HBZ.out;have h2:=HB.out;have h3:=HSB.out;have h4:=HZX.out;have h5:=HYX.out;have h6:=bT HXWI.out;have h7:=bT HYWI.out;omega)
      obtain⟨LI,hLI⟩:∃LI,LI=bE 4 tT dx.items:=⟨_,rfl⟩
      have HLI2:=hid hLI
      clear hLI
      have HBGI:=hid HXI.out.items.big
      go_upto_block 2 with (fail)
      go_cut [] (fun wz=>∃v,Built msgK 68 WI.heap.size wz v LI.length LI∧wz.heap[yb]?=some (.cells #[.int .i64 ck.k,.int .i64 ck.i,.int .i64 ck.s,.string ck.t,.slice ck.la ck.ll ck.lc,.slice ck.fa ck.fl ck.fc,.int .i64 x.n,.int .i64 x.t,v,.slice none 0 0] 133)∧Turn (fun q=>q=yb) WI wz)
      case first =>
       go_wp2
       go_loopw [7] (fun i wz=>∃(k:Nat) (v:Value),k≤LI.length∧i=.int .i64 k∧Built msgK 68 WI.heap.size wz v k LI∧wz.heap[yb]?=some (.cells #[.int .i64 ck.k,.int .i64 ck.i,.int .i64 ck.s,.string ck.t,.slice ck.la ck.ll ck.lc,.slice ck.fa ck.fl ck.fc,.int .i64 x.n,.int .i64 x.t,v,.slice none 0 0] 133)∧Turn (fun q=>q=yb) WI wz) (fun i _=>LI.length-(intOf i).toNat)
       case atStart=>exact⟨0,_,Nat.zero_le _,rfl,Built.nil _ _ _ _,HYWI.out,Turn.refl _ _⟩
       case round =>
        obtain⟨kI,vI,hk,rfl,hbu,hyv,htn⟩:=hrel
        obtain⟨wpI,rfl⟩:∃w1:World,w1=wr:=⟨_,rfl⟩
        have hxp:=htn.keep HXWI.out HLTI.out.2.2.2.2
        have hsp:∀q,q<w.heap.size→wpI.heap[q]?=w.heap[q]?:=fun q hq=>(htn.block q (by have:=HLTI.out;omega) (by have:=HLTI.out;omega)).trans (HSWI.out q hq)
        have e1:=aA hxp 8
        (try dsimp only at e1)
        have HXPI:Hid (wpI.drew.heap[wp.heap.size]?=some (.cells #[.int .i64 x.k.k,.int .i64 x.k.i,.int .i64 x.k.s,.string x.k.t,.slice x.k.la x.k.ll x.k.lc,.slice x.k.fa x.k.fl x.k.fc,.int .i64 x.n,.int .i64 x.t,.slice x.ia x.il x.ic,.slice x.va x.vl x.vc] 133)):=hid hxp
        have HYPI:Hid (wpI.drew.heap[yb]?=some (.cells #[.int .i64 ck.k,.int .i64 ck.i,.int .i64 ck.s,.string ck.t,.slice ck.la ck.ll ck.lc,.slice ck.fa ck.fl ck.fc,.int .i64 x.n,.int .i64 x.t,vI,.slice none 0 0] 133)):=hid hyv
        have HSPI:Hid (∀q,q<w.heap.size→wpI.drew.heap[q]?=w.heap[q]?):=hid hsp
        have HTNI:=hid htn
        have HBUI:=hid hbu
        have HKKI:=hid hk
        have hk0:(0:Int)≤(kI:Int):=by omega
        have EXI:Hid (¬ kI<LI.length→∃v,Built msgK 68 WI.heap.size wpI v LI.length LI∧wpI.heap[yb]?=some (.cells #[.int .i64 ck.k,.int .i64 ck.i,.int .i64 ck.s,.string ck.t,.slice ck.la ck.ll ck.lc,.slice ck.fa ck.fl ck.fc,.int .i64 x.n,.int .i64 x.t,v,.slice none 0 0] 133)∧Turn (fun q=>q=yb) WI wpI):=hid (fun h=>by
         have:kI=LI.length:=by omega
         exact⟨_,by rw[←this];exact hbu,hyv,htn⟩)
        clear hxp hsp htn hbu hk hyv
        by_cases g1:(kI:Int)<(x.il:Int)
        ·by_cases g2:(kI:Int)<4
         ·have hkl:kI<dx.items.length:=by have:=HXI.out.items.len;omega
          have hkL:kI<LI.length:=by rw[HLI2.out];exact dF kI hkl (by omega)
          obtain⟨b2,o2,hta,hb2,hx2⟩:=HXI.out.items.slot (show 0<x.il by omega)
          rw[hta] at e1
          obtain⟨y,hya,hyi⟩:=hx2 kI hkl
          obtain⟨dy,hdy⟩:∃dy,dy=dx.items[kI]:=⟨_,rfl⟩
          rw[←hdy] at hyi
          have HLKI:Hid (∀h:kI<LI.length,LI[kI]=tT dy):=hid (fun h=>by
           have h':=dG (n:=4) (f:=tT) (l:=dx.items) kI (by rw[←HLI2.out];exact h) hkl
           simp only[←HLI2.out] at h'
           rw[hdy];exact h')
          have HC2:=hid (fun (w':World) (h:w'.heap[wp.heap.size]?=some (.cells #[.int .i64 x.k.k,.int .i64 x.k.i,.int .i64 x.k.s,.string x.k.t,.slice x.k.la x.k.ll x.k.lc,.slice x.k.fa x.k.fl x.k.fc,.int .i64 x.n,.int .i64 x.t,.slice x.ia x.il x.ic,.slice x.va x.vl x.vc] 133)∧w'.heap[yb]?=some (.cells #[.int .i64 ck.k,.int .i64 ck.i,.int .i64 ck.s,.string ck.t,.slice ck.la ck.ll ck.lc,.slice ck.fa ck.fl ck.fc,.int .i64 x.n,.int .i64 x.t,vI,.slice none 0 0] 133)∧(∀q,q<w.heap.size→w'.heap[q]?=w.heap[q]?))=>hya.same (h.2.2 b2 hb2))
          have HCCI:=hid (fun (w':World) (h:w'.heap[wp.heap.size]?=some (.cells #[.int .i64 x.k.k,.int .i64 x.k.i,.int .i64 x.k.s,.string x.k.t,.slice x.k.la x.k.ll x.k.lc,.slice x.k.fa x.k.fl x.k.fc,.int .i64 x.n,.int .i64 x.t,.slice x.ia x.il x.ic,.slice x.va x.vl x.vc] 133)∧w'.heap[yb]?=some (.cells #[.int .i64 ck.k,.int .i64 ck.i,.int .i64 ck.s,.string ck.t,.slice ck.la ck.ll ck.lc,.slice ck.fa ck.fl ck.fc,.int .i64 x.n,.int .i64 x.t,vI,.slice none 0 0] 133)∧(∀q,q<w.heap.size→w'.heap[q]?=w.heap[q]?))=>by
           obtain⟨y0,y1,y2,y3,y4,y5,y6,y7,y8,y9⟩:=AtG.m (hya.same (h.2.2 b2 hb2))
           have a1:w'.cell? ⟨wp.heap.size,8,none⟩=some (.slice (some ⟨b2,o2,none⟩) x.il x.ic):=(aA h.1 8).trans (by show some (Value.slice x.ia x.il x.ic)=_;rw[hta])
           have a2:w'.cell? ⟨yb,8,none⟩=some vI:=aA h.2.1 8
           exact And.intro a1 (And.intro a2 (And.intro y0 (And.intro y1 (And.intro y2 (And.intro y3 (And.intro y4 (And.intro y5 (And.intro y6 (And.intro y7 (And.intro y8 y9)))))))))))
          have HCALL:=hid (gX y dy wpI.drew (hyi.same (S':=(· < wpI.drew.heap.size)) (w':=wpI.drew) fun q hq=>⟨by have h1:=HLTI.out;have h2:=HTNI.out.size;simp;omega,HSPI.out q hq⟩))
          obtain⟨cs,hcs,hown,hel⟩:=HBUI.out
          have hvo:=Built.own (K:=msgK) ⟨cs,hcs,hown,hel⟩
          have HVO:=hid hvo;have HOWN:=hid hown;have HEL:=hid hel;have HCL:=hid hcs;have HKL2:=hid hkL
          have HK4:Hid (kI+1≤4):=hid (by omega)
          have HTA:=hid hta
          clear hvo hown hel hcs hkL hta hb2 hx2 hya hyi hdy HC2
          go_upto_region 10 with (fail)
          clear e1
          refine aQ 10 (fun w'=>w'.heap[wp.heap.size]?=some (.cells #[.int .i64 x.k.k,.int .i64 x.k.i,.int .i64 x.k.s,.string x.k.t,.slice x.k.la x.k.ll x.k.lc,.slice x.k.fa x.k.fl x.k.fc,.int .i64 x.n,.int .i64 x.t,.slice x.ia x.il x.ic,.slice x.va x.vl x.vc] 133)∧w'.heap[yb]?=some (.cells #[.int .i64 ck.k,.int .i64 ck.i,.int .i64 ck.s,.string ck.t,.slice ck.la ck.ll ck.lc,.slice ck.fa ck.fl ck.fc,.int .i64 x.n,.int .i64 x.t,vI,.slice none 0 0] 133)∧(∀q,q<w.heap.size→w'.heap[q]?=w.heap[q]?)) (by kernel_rfl) (by kernel_rfl) (by kernel_rfl) (by decide) (⟨HXPI.out,HYPI.out,HSPI.out⟩) (fun hS=>?_)
          simp only[zdm,zdn,zdp,zdq]
          refine tkQ 0 (v:=?_) ?_ hS ?_;rotate_left;· intro w' hw';have hcells:=HCCI.out w' hw';go_simp;(try rfl)
          simp only[Act.put,pq]
          refine tkQ 1 (v:=?_) ?_ hS ?_;rotate_left;· intro w' hw';have hcells:=HCCI.out w' hw';go_simp;(try rfl)
          simp only[Act.put,pq]
          refine tkQ 2 (v:=?_) ?_ hS ?_;rotate_left;· intro w' hw';have hcells:=HCCI.out w' hw';go_simp;(try rfl)
          simp only[Act.put,pq]
          refine tkQ 3 (v:=?_) ?_ hS ?_;rotate_left;· intro w' hw';have hcells:=HCCI.out w' hw';go_simp;(try rfl)
          simp only[Act.put,pq]
          refine tkQ 4 (v:=?_) ?_ hS ?_;rotate_left;· intro w' hw';have hcells:=HCCI.out w' hw';go_simp;(try rfl)
          simp only[Act.put,pq]
          refine tkQ 5 (v:=?_) ?_ hS ?_;rotate_left;· intro w' hw';have hcells:=HCCI.out w' hw';go_simp;(try rfl)
          simp only[Act.put,pq]
          refine tkQ 6 (v:=?_) ?_ hS ?_;rotate_left;· intro w' hw';have hcells:=HCCI.out w' hw';go_simp;(try rfl)
          simp only[Act.put,pq]
          refine ry [7] ?_
          refine arQ fun K hK=>?_
          go_simp;go_at_call 20;refine HCALL.out.mono ?_
          rintro e w4 ⟨c4,rfl,hb4,hi4⟩
          have HB4:=hid hb4;have HI4:=hid hi4
          refine hK.out _ _ (⟨aB hb4 hS.1,aB hb4 hS.2.1,fun q hq=>(hb4.block q (by have h1:=HLTI.out;have h9:=HTNI.out.size;simp;omega)).trans (hS.2.2 q hq)⟩) (fun hS=>?_)
          clear hK K
          (try simp only[Act.put,pq])
          refine ry [8] ?_
          refine arQ fun K hK=>?_
          go_simp
          refine hK.out _ _ (⟨aC _ hS.1,aC _ hS.2.1,fun q hq=>(Below.heap_alloc _ _ _ (by have h1:=HLTI.out;have h9:=HTNI.out.size;have h2:=HB4.out.size;simp only[World.size_drew] at h2;omega)).trans (hS.2.2 q hq)⟩) (fun hS=>?_)
          clear hK K
          (try simp only[Act.put,pq])
          refine ry [9] ?_
          refine arQ fun K hK=>?_
          refine step_append_lies _ (by rfl) _ _ _ (by rfl) WI.heap.size 68 tm _ 10 152 Tryz.underlying131 hmi hmz0 hmz1 hmz2 rfl (by omega) vI kI (cs.flatMap MC.cs) (by rfl) ((cW HOWN.out ((Below.refl _ wpI).drew.trans HB4.out)).alloc (.cells #[.int .i64 c4.st.e,.slice c4.st.a c4.st.n c4.st.c,.int .i64 c4.m,.slice c4.a c4.n c4.c,.int .i64 c4.b.k,.int .i64 c4.b.i,.int .i64 c4.b.s,.string c4.b.t,.slice c4.b.la c4.b.ll c4.b.lc,.slice c4.b.fa c4.b.fl c4.b.fc] 68)) ⟨w4.heap.size,0,none⟩ 1 1 (MC.cs c4) (by rfl) (by rfl) (World.news_of_block (heap_alloc_new w4 _)) (by simp[MC.cs,Value.oneCell']) (by omega) (by unfold maxLen;have:=HK4.out;omega) (by have:=HK4.out;omega) (by have h1:=HB4.out.size;have h2:=HTNI.out.size;simp only[World.size_drew] at h1;simp;omega) (w4.heap.size+1) (by simp) ?_
          intro gg cap5 w5 hown2 hgrow hat hlt2
          have HO2:=hid hown2;have HG:=hid hgrow;have HAT:=hid hat
          refine hK.out _ _ (⟨aY hgrow hS.1 (fun e=>by have h1:=(HVO.out _ e.symm).1;have h2:=HLTI.out;omega),aY hgrow hS.2.1 (fun e=>by have h1:=(HVO.out _ e.symm).1;have h2:=HLTI.out;omega),fun q hq=>(hgrow.block q (by have h1:=HLTI.out;have h9:=HTNI.out.size;have h2:=HB4.out.size;simp only[World.size_drew] at h2;simp;omega) (fun e=>by have h1:=(HVO.out _ e.symm).1;have h2:=HLTI.out;omega)).trans (hS.2.2 q hq)⟩) (fun hS=>?_)
          clear hK K
          (try simp only[Act.put,pq])
          refine wpAnyH_done (by kernel_rfl) ?_ _
          (try dsimp only)
          have HS5:=hid hS
          have p5:=aE hS.2.1 8
          have p6:=aA hS.2.1 8
          (try dsimp only at p6)
          clear hS
          go_wp2
          clear p5 p6
          go_roundw
          case rel =>
           have h4:=HB4.out.size
           have hpz:=HTNI.out.size
           have hlt:=HLTI.out
           simp only[World.size_drew] at h4
           have hb4':Below wpI.heap.size wpI w4:=(Below.refl _ wpI).drew.trans HB4.out
           have hpush:Built msgK 68 WI.heap.size w5 (.slice (some ⟨gg,0,none⟩) (kI+1) cap5) (kI+1) LI :=
            Built.push (K:=msgK) (N:=wpI.heap.size) (w1:=w4) (o:=(.cells #[.int .i64 c4.st.e,.slice c4.st.a c4.st.n c4.st.c,.int .i64 c4.m,.slice c4.a c4.n c4.c,.int .i64 c4.b.k,.int .i64 c4.b.i,.int .i64 c4.b.s,.string c4.b.t,.slice c4.b.la c4.b.ll c4.b.lc,.slice c4.b.fa c4.b.fl c4.b.fc] 68)) (c:=c4) HCL.out
             (fun j hj hj'=>msgK.same (fun q hq=>⟨⟨hq.1,by have:=hq.2.1;omega,hq.2.2⟩,hb4'.block q hq.2.1⟩) (HEL.out j hj hj')) HKL2.out (by rw[HLKI.out HKL2.out];exact HI4.out) hpz (fun r e=>(HVO.out r e).2) HO2.out HG.out HAT.out
           have hyn:=aD (o:=8) (.slice (some ⟨gg,0,none⟩) (kI+1) cap5) HS5.out.2.1
           simp only[List.setIfInBounds_toArray,List.set_cons_zero,List.set_cons_succ] at hyn
           have ht2:Turn (fun q=>q=yb∨vI.ownBlock=some q) wpI (w5.setCell ⟨yb,8,none⟩ (.slice (some ⟨gg,0,none⟩) (kI+1) cap5)):=((((Turn.of_below (Below.refl _ wpI).drew).trans (Turn.of_below HB4.out)).trans (Turn.of_below ((Below.refl _ w4).alloc lr (.cells #[.int .i64 c4.st.e,.slice c4.st.a c4.st.n c4.st.c,.int .i64 c4.m,.slice c4.a c4.n c4.c,.int .i64 c4.b.k,.int .i64 c4.b.i,.int .i64 c4.b.s,.string c4.b.t,.slice c4.b.la c4.b.ll c4.b.lc,.slice c4.b.fa c4.b.fl c4.b.fc] 68)))).trans (Turn.of_grown HG.out (fun r e=>.inr e))).trans (Turn.setCell ⟨yb,8,none⟩ _ (.inl rfl))
           exact⟨kI+1,_,HKL2.out,by go_num,hpush.set _ _ (by exact hlt.2.2.2.1),hyn,HTNI.out.fresh' ht2 (fun q hq hs=>by rcases hs with h | h;exact h;exact absurd (HVO.out q h).1 (by omega))⟩
          case measure=>simp[intOf];have:=HKL2.out;omega
         ·have hx:¬ kI<LI.length:=fun h=>g2 (by have:=(aZ (n:=4) (f:=tT) (l:=dx.items) kI (by rw[←HLI2.out];exact h)).2;omega)
          have HXX:=hid hx
          clear hx
          go_wp2
          go_meet
          exact EXI.out HXX.out
        ·have hx:¬ kI<LI.length:=fun h=>g1 (by have:=(aZ (n:=4) (f:=tT) (l:=dx.items) kI (by rw[←HLI2.out];exact h)).1;have:=HXI.out.items.len;omega)
         have HXX:=hid hx
         clear hx
         go_wp2
         go_meet
         exact EXI.out HXX.out
      case rest =>
      obtain⟨vI,hbuI,hyI,htI⟩:=hcut
      obtain⟨WV,rfl⟩:∃u:World,u=wc:=⟨_,rfl⟩
      obtain⟨ai,ci,rfl,hciI,_,_⟩:=hbuI.shape
      have HBUI:=hid hbuI;have HYWV:=hid hyI;have HTI:=hid htI;have HCI:=hid hciI
      have HXWV:=hid (htI.keep HXWI.out HLTI.out.2.2.2.2)
      have HSWV:=hid (fun (q:Nat) (hq:q<w.heap.size)=>(htI.block q (by have:=HLTI.out;omega) (by have:=HLTI.out;omega)).trans (HSWI.out q hq))
      clear hbuI hyI htI hciI
      have HLTV:Hid (w.heap.size<wp.heap.size∧wp.heap.size<WV.heap.size∧w.heap.size<yb∧yb<WV.heap.size∧wp.heap.size≠yb):=hid (by have h1:=HBZ.out;have h2:=HB.out;have h3:=HSB.out;have h4:=HZX.out;have h5:=HYX.out;have h8:=HTI.out.size;have h6:=bT HXWV.out;have h7:=bT HYWV.out;omega)
      obtain⟨LV,hLV⟩:∃LV,LV=bE 4 (shV 3) dx.vals:=⟨_,rfl⟩
      have HLV:=hid hLV
      clear hLV
      have HBGV:=hid HXI.out.vals.big
      go_upto_block 4 with (fail)
      go_cut [] (fun wz=>∃v,Built valK 66 WV.heap.size wz v LV.length LV∧wz.heap[yb]?=some (.cells #[.int .i64 ck.k,.int .i64 ck.i,.int .i64 ck.s,.string ck.t,.slice ck.la ck.ll ck.lc,.slice ck.fa ck.fl ck.fc,.int .i64 x.n,.int .i64 x.t,.slice ai LI.length ci,v] 133)∧Turn (fun q=>q=yb) WV wz)
      case first =>
       go_wp2
       go_loopw [8] (fun i wz=>∃(k:Nat) (v:Value),k≤LV.length∧i=.int .i64 k∧Built valK 66 WV.heap.size wz v k LV∧wz.heap[yb]?=some (.cells #[.int .i64 ck.k,.int .i64 ck.i,.int .i64 ck.s,.string ck.t,.slice ck.la ck.ll ck.lc,.slice ck.fa ck.fl ck.fc,.int .i64 x.n,.int .i64 x.t,.slice ai LI.length ci,v] 133)∧Turn (fun q=>q=yb) WV wz) (fun i _=>LV.length-(intOf i).toNat)
       case atStart=>exact⟨0,_,Nat.zero_le _,rfl,Built.nil _ _ _ _,HYWV.out,Turn.refl _ _⟩
       case round =>
        obtain⟨kV,vV,hk,rfl,hbu,hyv,htn⟩:=hrel
        obtain⟨wpV,rfl⟩:∃w1:World,w1=wr:=⟨_,rfl⟩
        have hxp:=htn.keep HXWV.out HLTV.out.2.2.2.2
        have hsp:∀q,q<w.heap.size→wpV.heap[q]?=w.heap[q]?:=fun q hq=>(htn.block q (by have:=HLTV.out;omega) (by have:=HLTV.out;omega)).trans (HSWV.out q hq)
        have e1:=aA hxp 9
        (try dsimp only at e1)
        have HXPV:Hid (wpV.drew.heap[wp.heap.size]?=some (.cells #[.int .i64 x.k.k,.int .i64 x.k.i,.int .i64 x.k.s,.string x.k.t,.slice x.k.la x.k.ll x.k.lc,.slice x.k.fa x.k.fl x.k.fc,.int .i64 x.n,.int .i64 x.t,.slice x.ia x.il x.ic,.slice x.va x.vl x.vc] 133)):=hid hxp
        have HYPV:Hid (wpV.drew.heap[yb]?=some (.cells #[.int .i64 ck.k,.int .i64 ck.i,.int .i64 ck.s,.string ck.t,.slice ck.la ck.ll ck.lc,.slice ck.fa ck.fl ck.fc,.int .i64 x.n,.int .i64 x.t,.slice ai LI.length ci,vV] 133)):=hid hyv
        have HSPV:Hid (∀q,q<w.heap.size→wpV.drew.heap[q]?=w.heap[q]?):=hid hsp
        have HTNV:=hid htn
        have HBUV:=hid hbu
        have HKKV:=hid hk
        have hk0:(0:Int)≤(kV:Int):=by omega
        have EXV:Hid (¬ kV<LV.length→∃v,Built valK 66 WV.heap.size wpV v LV.length LV∧wpV.heap[yb]?=some (.cells #[.int .i64 ck.k,.int .i64 ck.i,.int .i64 ck.s,.string ck.t,.slice ck.la ck.ll ck.lc,.slice ck.fa ck.fl ck.fc,.int .i64 x.n,.int .i64 x.t,.slice ai LI.length ci,v] 133)∧Turn (fun q=>q=yb) WV wpV):=hid (fun h=>by
         have:kV=LV.length:=by omega
         exact⟨_,by rw[←this];exact hbu,hyv,htn⟩)
        clear hxp hsp htn hbu hk hyv
        by_cases g1:(kV:Int)<(x.vl:Int)
        ·by_cases g2:(kV:Int)<4
         ·have hkl:kV<dx.vals.length:=by have:=HXI.out.vals.len;omega
          have hkL:kV<LV.length:=by rw[HLV.out];exact dF kV hkl (by omega)
          obtain⟨b2,o2,hta,hb2,hx2⟩:=HXI.out.vals.slot (show 0<x.vl by omega)
          rw[hta] at e1
          obtain⟨y,hya,hyi⟩:=hx2 kV hkl
          obtain⟨dy,hdy⟩:∃dy,dy=dx.vals[kV]:=⟨_,rfl⟩
          rw[←hdy] at hyi
          have HLKV:Hid (∀h:kV<LV.length,LV[kV]=(shV 3) dy):=hid (fun h=>by
           have h':=dG (n:=4) (f:=(shV 3)) (l:=dx.vals) kV (by rw[←HLV.out];exact h) hkl
           simp only[←HLV.out] at h'
           rw[hdy];exact h')
          have HC2:=hid (fun (w':World) (h:w'.heap[wp.heap.size]?=some (.cells #[.int .i64 x.k.k,.int .i64 x.k.i,.int .i64 x.k.s,.string x.k.t,.slice x.k.la x.k.ll x.k.lc,.slice x.k.fa x.k.fl x.k.fc,.int .i64 x.n,.int .i64 x.t,.slice x.ia x.il x.ic,.slice x.va x.vl x.vc] 133)∧w'.heap[yb]?=some (.cells #[.int .i64 ck.k,.int .i64 ck.i,.int .i64 ck.s,.string ck.t,.slice ck.la ck.ll ck.lc,.slice ck.fa ck.fl ck.fc,.int .i64 x.n,.int .i64 x.t,.slice ai LI.length ci,vV] 133)∧(∀q,q<w.heap.size→w'.heap[q]?=w.heap[q]?))=>hya.same (h.2.2 b2 hb2))
          have HCCV:=hid (fun (w':World) (h:w'.heap[wp.heap.size]?=some (.cells #[.int .i64 x.k.k,.int .i64 x.k.i,.int .i64 x.k.s,.string x.k.t,.slice x.k.la x.k.ll x.k.lc,.slice x.k.fa x.k.fl x.k.fc,.int .i64 x.n,.int .i64 x.t,.slice x.ia x.il x.ic,.slice x.va x.vl x.vc] 133)∧w'.heap[yb]?=some (.cells #[.int .i64 ck.k,.int .i64 ck.i,.int .i64 ck.s,.string ck.t,.slice ck.la ck.ll ck.lc,.slice ck.fa ck.fl ck.fc,.int .i64 x.n,.int .i64 x.t,.slice ai LI.length ci,vV] 133)∧(∀q,q<w.heap.size→w'.heap[q]?=w.heap[q]?))=>by
           obtain⟨y0,y1,y2,y3,y4,y5⟩:=AtG.val (hya.same (h.2.2 b2 hb2))
           have a1:w'.cell? ⟨wp.heap.size,9,none⟩=some (.slice (some ⟨b2,o2,none⟩) x.vl x.vc):=(aA h.1 9).trans (by show some (Value.slice x.va x.vl x.vc)=_;rw[hta])
           have a2:w'.cell? ⟨yb,9,none⟩=some vV:=aA h.2.1 9
           exact And.intro a1 (And.intro a2 (And.intro y0 (And.intro y1 (And.intro y2 (And.intro y3 (And.intro y4 y5)))))))
          have HCALL:=hid ((show Calls Tryz.prog 78 #[y.v,.int .i64 4] wpV.drew (dW wpV.drew (shV 3 dy)) from eU 3 (by omega) dy y wpV.drew (hyi.same (S':=(· < wpV.drew.heap.size)) (w':=wpV.drew) fun q hq=>⟨by have h1:=HLTV.out;have h2:=HTNV.out.size;simp;omega,HSPV.out q hq⟩)))
          obtain⟨cs,hcs,hown,hel⟩:=HBUV.out
          have hvo:=Built.own (K:=valK) ⟨cs,hcs,hown,hel⟩
          have HVO:=hid hvo;have HOWN:=hid hown;have HEL:=hid hel;have HCL:=hid hcs;have HKL2:=hid hkL
          have HK4:Hid (kV+1≤4):=hid (by omega)
          have HTA:=hid hta
          clear hvo hown hel hcs hkL hta hb2 hx2 hya hyi hdy HC2
          go_upto_region 14 with (fail)
          clear e1
          refine aQ 10 (fun w'=>w'.heap[wp.heap.size]?=some (.cells #[.int .i64 x.k.k,.int .i64 x.k.i,.int .i64 x.k.s,.string x.k.t,.slice x.k.la x.k.ll x.k.lc,.slice x.k.fa x.k.fl x.k.fc,.int .i64 x.n,.int .i64 x.t,.slice x.ia x.il x.ic,.slice x.va x.vl x.vc] 133)∧w'.heap[yb]?=some (.cells #[.int .i64 ck.k,.int .i64 ck.i,.int .i64 ck.s,.string ck.t,.slice ck.la ck.ll ck.lc,.slice ck.fa ck.fl ck.fc,.int .i64 x.n,.int .i64 x.t,.slice ai LI.length ci,vV] 133)∧(∀q,q<w.heap.size→w'.heap[q]?=w.heap[q]?)) (by kernel_rfl) (by kernel_rfl) (by kernel_rfl) (by decide) (⟨HXPV.out,HYPV.out,HSPV.out⟩) (fun hS=>?_)
          simp only[zdm,zdn,zdp,zdq]
          refine tkQ 0 (v:=?_) ?_ hS ?_;rotate_left;· intro w' hw';have hcells:=HCCV.out w' hw';go_simp;(try rfl)
          simp only[Act.put,pq]
          refine tkQ 1 (v:=?_) ?_ hS ?_;rotate_left;· intro w' hw';have hcells:=HCCV.out w' hw';go_simp;(try rfl)
          simp only[Act.put,pq]
          refine tkQ 2 (v:=?_) ?_ hS ?_;rotate_left;· intro w' hw';have hcells:=HCCV.out w' hw';go_simp;(try rfl)
          simp only[Act.put,pq]
          refine tkQ 3 (v:=?_) ?_ hS ?_;rotate_left;· intro w' hw';have hcells:=HCCV.out w' hw';go_simp;(try rfl)
          simp only[Act.put,pq]
          refine tkQ 4 (v:=?_) ?_ hS ?_;rotate_left;· intro w' hw';have hcells:=HCCV.out w' hw';go_simp;(try rfl)
          simp only[Act.put,pq]
          refine tkQ 5 (v:=?_) ?_ hS ?_;rotate_left;· intro w' hw';have hcells:=HCCV.out w' hw';go_simp;(try rfl)
          simp only[Act.put,pq]
          refine tkQ 6 (v:=?_) ?_ hS ?_;rotate_left;· intro w' hw';have hcells:=HCCV.out w' hw';go_simp;(try rfl)
          simp only[Act.put,pq]
          refine ry [7] ?_
          refine arQ fun K hK=>?_
          go_simp;go_at_call 78;refine HCALL.out.mono ?_
          rintro e w4 ⟨c4,rfl,hb4,hi4⟩
          have HB4:=hid hb4;have HI4:=hid hi4
          refine hK.out _ _ (⟨aB hb4 hS.1,aB hb4 hS.2.1,fun q hq=>(hb4.block q (by have h1:=HLTV.out;have h9:=HTNV.out.size;simp;omega)).trans (hS.2.2 q hq)⟩) (fun hS=>?_)
          clear hK K
          (try simp only[Act.put,pq])
          refine ry [8] ?_
          refine arQ fun K hK=>?_
          go_simp
          refine hK.out _ _ (⟨aC _ hS.1,aC _ hS.2.1,fun q hq=>(Below.heap_alloc _ _ _ (by have h1:=HLTV.out;have h9:=HTNV.out.size;have h2:=HB4.out.size;simp only[World.size_drew] at h2;omega)).trans (hS.2.2 q hq)⟩) (fun hS=>?_)
          clear hK K
          (try simp only[Act.put,pq])
          refine ry [9] ?_
          refine arQ fun K hK=>?_
          refine step_append_lies _ (by rfl) _ _ _ (by rfl) WV.heap.size 66 tv _ 6 88 Tryz.underlying63 hvi hvz0 hvz1 hvz2 rfl (by omega) vV kV (cs.flatMap VC.cs) (by rfl) ((cW HOWN.out ((Below.refl _ wpV).drew.trans HB4.out)).alloc (.cells #[.int .i64 c4.k,.int .i64 c4.i,.int .i64 c4.s,.string c4.t,.slice c4.la c4.ll c4.lc,.slice c4.fa c4.fl c4.fc] 66)) ⟨w4.heap.size,0,none⟩ 1 1 (VC.cs c4) (by rfl) (by rfl) (World.news_of_block (heap_alloc_new w4 _)) (by simp[VC.cs,Value.oneCell']) (by omega) (by unfold maxLen;have:=HK4.out;omega) (by have:=HK4.out;omega) (by have h1:=HB4.out.size;have h2:=HTNV.out.size;simp only[World.size_drew] at h1;simp;omega) (w4.heap.size+1) (by simp) ?_
          intro gg cap5 w5 hown2 hgrow hat hlt2
          have HO2:=hid hown2;have HG:=hid hgrow;have HAT:=hid hat
          refine hK.out _ _ (⟨aY hgrow hS.1 (fun e=>by have h1:=(HVO.out _ e.symm).1;have h2:=HLTV.out;omega),aY hgrow hS.2.1 (fun e=>by have h1:=(HVO.out _ e.symm).1;have h2:=HLTV.out;omega),fun q hq=>(hgrow.block q (by have h1:=HLTV.out;have h9:=HTNV.out.size;have h2:=HB4.out.size;simp only[World.size_drew] at h2;simp;omega) (fun e=>by have h1:=(HVO.out _ e.symm).1;have h2:=HLTV.out;omega)).trans (hS.2.2 q hq)⟩) (fun hS=>?_)
          clear hK K
          (try simp only[Act.put,pq])
          refine wpAnyH_done (by kernel_rfl) ?_ _
          (try dsimp only)
          have HS5:=hid hS
          have p5:=aE hS.2.1 9
          have p6:=aA hS.2.1 9
          (try dsimp only at p6)
          clear hS
          go_wp2
          clear p5 p6
          go_roundw
          case rel =>
           have h4:=HB4.out.size
           have hpz:=HTNV.out.size
           have hlt:=HLTV.out
           simp only[World.size_drew] at h4
           have hb4':Below wpV.heap.size wpV w4:=(Below.refl _ wpV).drew.trans HB4.out
           have hpush:Built valK 66 WV.heap.size w5 (.slice (some ⟨gg,0,none⟩) (kV+1) cap5) (kV+1) LV :=
            Built.push (K:=valK) (N:=wpV.heap.size) (w1:=w4) (o:=(.cells #[.int .i64 c4.k,.int .i64 c4.i,.int .i64 c4.s,.string c4.t,.slice c4.la c4.ll c4.lc,.slice c4.fa c4.fl c4.fc] 66)) (c:=c4) HCL.out
             (fun j hj hj'=>valK.same (fun q hq=>⟨⟨hq.1,by have:=hq.2.1;omega,hq.2.2⟩,hb4'.block q hq.2.1⟩) (HEL.out j hj hj')) HKL2.out (by rw[HLKV.out HKL2.out];exact HI4.out) hpz (fun r e=>(HVO.out r e).2) HO2.out HG.out HAT.out
           have hyn:=aD (o:=9) (.slice (some ⟨gg,0,none⟩) (kV+1) cap5) HS5.out.2.1
           simp only[List.setIfInBounds_toArray,List.set_cons_zero,List.set_cons_succ] at hyn
           have ht2:Turn (fun q=>q=yb∨vV.ownBlock=some q) wpV (w5.setCell ⟨yb,9,none⟩ (.slice (some ⟨gg,0,none⟩) (kV+1) cap5)):=((((Turn.of_below (Below.refl _ wpV).drew).trans (Turn.of_below HB4.out)).trans (Turn.of_below ((Below.refl _ w4).alloc lr (.cells #[.int .i64 c4.k,.int .i64 c4.i,.int .i64 c4.s,.string c4.t,.slice c4.la c4.ll c4.lc,.slice c4.fa c4.fl c4.fc] 66)))).trans (Turn.of_grown HG.out (fun r e=>.inr e))).trans (Turn.setCell ⟨yb,9,none⟩ _ (.inl rfl))
           exact⟨kV+1,_,HKL2.out,by go_num,hpush.set _ _ (by exact hlt.2.2.2.1),hyn,HTNV.out.fresh' ht2 (fun q hq hs=>by rcases hs with h | h;exact h;exact absurd (HVO.out q h).1 (by omega))⟩
          case measure=>simp[intOf];have:=HKL2.out;omega
         ·have hx:¬ kV<LV.length:=fun h=>g2 (by have:=(aZ (n:=4) (f:=(shV 3)) (l:=dx.vals) kV (by rw[←HLV.out];exact h)).2;omega)
          have HXX:=hid hx
          clear hx
          go_wp2
          go_meet
          exact EXV.out HXX.out
        ·have hx:¬ kV<LV.length:=fun h=>g1 (by have:=(aZ (n:=4) (f:=(shV 3)) (l:=dx.vals) kV (by rw[←HLV.out];exact h)).1;have:=HXI.out.vals.len;omega)
         have HXX:=hid hx
         clear hx
         go_wp2
         go_meet
         exact EXV.out HXX.out
      case rest =>
      obtain⟨vV,hbuV,hyV,htV⟩:=hcut
      obtain⟨we,rfl⟩:∃u:World,u=wc:=⟨_,rfl⟩
      obtain⟨av,cv,rfl,hcvV,_,_⟩:=hbuV.shape
      have hbe:Below wp.heap.size wp we:=(((HBX.out.trans (HBB.out.mono HBX.out.size)).trans (HTI.out.below' (fun q hq=>by have h1:=HYX.out;have h2:=HZX.out;omega) (by have h1:=HBB.out.size;have h2:=HZX.out;omega))).trans (htV.below' (fun q hq=>by have h1:=HYX.out;have h2:=HZX.out;omega) (by have h1:=HLTV.out;omega)))
      have hbuI2:Built msgK 68 WI.heap.size we (.slice ai LI.length ci) LI.length LI:=HBUI.out.keep htV (fun q hq1 hq2 hq3=>by have h1:=HLTI.out;omega)
      have hLI:LI.length≤4:=by rw[HLI2.out];exact bA _ _ _
      have hLV:LV.length≤4:=by rw[HLV.out];exact bA _ _ _
      obtain⟨_,ci',e1,hrI⟩:=hbuI2.row' rfl (by show LI.length * 152≤_;omega)
      obtain⟨rfl,rfl⟩:ai=_∧ci=ci':=by(injection e1 with q1 _ q2;exact⟨q1,q2⟩)
      obtain⟨_,cv',e3,hrV⟩:=hbuV.row' rfl (by show LV.length * 88≤_;omega)
      obtain⟨rfl,rfl⟩:av=_∧cv=cv':=by(injection e3 with q1 _ q2;exact⟨q1,q2⟩)
      have hsE:IsSl (fun q=>wp.heap.size≤q∧q<we.heap.size) we ⟨ck,x.n,x.t,ai,LI.length,ci,av,LV.length,cv⟩ (nA dx):=by
       refine⟨HIK.out.same fun q hq=>⟨⟨by have h2:=HZX.out;omega,by have h1:=HTI.out.size;have h2:=htV.size;omega⟩,(htV.block q (by have h1:=HTI.out.size;omega) hq.2.2).trans (HTI.out.block q hq.2.1 hq.2.2)⟩,HXI.out.n,HXI.out.rn,HXI.out.t,HXI.out.rt,?_,?_⟩
       ·rw[show(nA dx).items=LI from HLI2.out.symm]
        exact hrI.same fun q hq=>⟨⟨by have h1:=HLTI.out;omega,hq.2⟩,rfl⟩
       ·rw[show(nA dx).vals=LV from HLV.out.symm]
        exact hrV.same fun q hq=>⟨⟨by have h1:=HLTV.out;have h2:=HTI.out.size;have h3:=HLTI.out;omega,hq.2⟩,rfl⟩
      obtain⟨cs,hcs,hown,hel⟩:=(HBU.out.ext hbe)
      have hvo:=Built.own (K:=slK) ⟨cs,hcs,hown,hel⟩
      have hvo0:=Built.own HBU.out
      have HVO:=hid hvo;have HVO0:=hid hvo0;have HOWN:=hid hown;have HEL:=hid hel;have HCL:=hid hcs;have HSE:=hid hsE;have HBE:=hid hbe
      have HK6:Hid (k+1≤6):=hid (by have:=HKL.out;have h6:L.length≤6:=(by rw[HL.out];exact bA _ _ _);omega)
      have HYV:=hid hyV
      have hz10:=hyV
      clear hvo hvo0 hown hel hcs hsE hbe hbuI2 hLI hLV e1 e3 hrI hrV hbuV htV hyV hcvV
      have d0:=aA hz10 0
      have d1:=aA hz10 1
      have d2:=aA hz10 2
      have d3:=aA hz10 3
      have d4:=aA hz10 4
      have d5:=aA hz10 5
      have d6:=aA hz10 6
      have d7:=aA hz10 7
      have d8:=aA hz10 8
      have d9:=aA hz10 9
      (try dsimp only at d0 d1 d2 d3 d4 d5 d6 d7 d8 d9)
      clear hz10
      go_wp2_with (at_builtin;refine wpList_append_lies _ (by rfl) _ _ 53 (by rfl) B 133 ti _ 10 152 Tryz.underlying53 hi hz0 hz1 hz2 rfl (by omega) v k (cs.flatMap SlC.cs) (by rfl) (HOWN.out.alloc (.cells #[.int .i64 ck.k,.int .i64 ck.i,.int .i64 ck.s,.string ck.t,.slice ck.la ck.ll ck.lc,.slice ck.fa ck.fl ck.fc,.int .i64 x.n,.int .i64 x.t,.slice ai LI.length ci,.slice av LV.length cv] 133)) ⟨we.heap.size,0,none⟩ 1 1 (SlC.cs ⟨ck,x.n,x.t,ai,LI.length,ci,av,LV.length,cv⟩) (by rfl) (by rfl) (World.news_of_block (heap_alloc_new we _)) (by simp[SlC.cs,Value.oneCell']) (by omega) (by unfold maxLen;have:=HK6.out;omega) (by have:=HK6.out;omega) (by have h2:=HBE.out.size;have h3:=HBZ.out;simp;omega) (we.heap.size+1) (by simp) ?_;intro gg cap5 w5 hown2 hgrow hat hlt2;have HO2:=hid hown2;have HG:=hid hgrow;have HAT:=hid hat;clear hown2 hgrow hat hlt2)
      clear d0 d1 d2 d3 d4 d5 d6 d7 d8 d9
      go_roundw
      case rel =>
       have hpush:Built slK 133 B w5 (.slice (some ⟨gg,0,none⟩) (k+1) cap5) (k+1) L :=
        Built.push (K:=slK) (N:=wp.heap.size) (w1:=we) (o:=(.cells #[.int .i64 ck.k,.int .i64 ck.i,.int .i64 ck.s,.string ck.t,.slice ck.la ck.ll ck.lc,.slice ck.fa ck.fl ck.fc,.int .i64 x.n,.int .i64 x.t,.slice ai LI.length ci,.slice av LV.length cv] 133)) (c:=⟨ck,x.n,x.t,ai,LI.length,ci,av,LV.length,cv⟩) HCL.out HEL.out HKL.out (by rw[HLK.out HKL.out];exact HSE.out) HBZ.out (fun r e=>(HVO0.out r e).2) HO2.out HG.out HAT.out
       have hBv:=HB.out
       have hbz:=HBZ.out
       have hes:=HBE.out.size
       have hgk:∀{q:Nat} {oo:Obj},q<B→wp.heap[q]?=some oo→w5.heap[q]?=some oo:=fun {q oo} hq h=>aY HG.out (aC _ ((HBE.out.block q (by omega)).trans h)) (fun e=>by have:=(HVO.out _ e.symm).1;omega)
       exact⟨k+1,_,rfl,HKL.out,by go_num,hpush,hgk (by omega) HGV.out,hgk (by omega) HGZ.out,((HBEL.out.trans (HBE.out.mono (by omega))).alloc (by omega) _).grown HG.out (by simp;omega) (fun r e=>by have:=(HVO.out r e).1;omega),by have:=HG.out.size;simp at this;omega⟩
      case measure=>simp[intOf];have:=HKL.out;omega
    ·have hx:¬ k<L.length:=fun h=>h2 (by have:=(aZ (n:=6) (f:=nA) (l:=d.l) k (by rw[←HL.out];exact h)).2;omega)
     have HX:=hid hx
     clear hx
     go_wp2
     go_meet
     exact⟨EX.out HX.out,HGV.out,HGZ.out,HBEL.out,HBZ.out⟩
   ·have hx:¬ k<L.length:=fun h=>h1 (by have:=(aZ (n:=6) (f:=nA) (l:=d.l) k (by rw[←HL.out];exact h)).1;have:=HLI.out;omega)
    have HX:=hid hx
    clear hx
    go_wp2
    go_meet
    exact⟨EX.out HX.out,HGV.out,HGZ.out,HBEL.out,HBZ.out⟩
 case rest =>
  obtain⟨hbu,hgv,hgz,hbel,hsz⟩:=hcut
  obtain⟨wl,rfl⟩:∃u:World,u=wc:=⟨_,rfl⟩
  obtain⟨al,cl,rfl,hcl,_,_⟩:=hbu.shape
  have hL6:L.length≤6:=by rw[HL.out];exact bA _ _ _
  obtain⟨_,cl',e1,hrL⟩:=hbu.row' rfl (by show L.length * 152≤_;omega)
  obtain⟨rfl,rfl⟩:al=_∧cl=cl':=by(injection e1 with q1 _ q2;exact⟨q1,q2⟩)
  have c2:=aA hgv 2
  have f2:=aE hgv 2
  (try dsimp only at c2)
  have HRL:=hid hrL;have HGV:=hid hgv;have HGZ:=hid hgz;have HBEL:=hid hbel;have HSZ:=hid hsz
  clear hbu e1 hrL hgv hgz hbel hsz hcl hL6
  go_upto_region 17 with (fail)
  clear c2 f2
  have hF:=aD (o:=2) (.slice al L.length cl) HGV.out
  simp only[List.setIfInBounds_toArray,List.set_cons_zero,List.set_cons_succ] at hF
  have hne1:sb+1≠sb:=by omega
  have gz:=aJ (⟨sb,2,none⟩:Addr) (.slice al L.length cl) HGZ.out hne1
  have hO:∀q,q≠sb→(wl.setCell ⟨sb,2,none⟩ (.slice al L.length cl)).heap[q]?=wl.heap[q]?:=fun q hq=>Below.heap_setCell _ _ _ _ (by exact hq)
  have hZ:(wl.setCell ⟨sb,2,none⟩ (.slice al L.length cl)).heap.size=wl.heap.size:=by simp[World.setCell]
  have hB2:Below sb w (wl.setCell ⟨sb,2,none⟩ (.slice al L.length cl)):=HBEL.out.setCell (p:=⟨sb,2,none⟩) lr _
  obtain⟨W9,hW9⟩:∃W9,W9=wl.setCell ⟨sb,2,none⟩ (.slice al L.length cl):=⟨_,rfl⟩
  rw[←hW9] at hF gz hO hZ hB2 ⊢
  have HG9:=hid gz;have HO9:=hid hO;have HZ9:=hid hZ;have HB9:=hid hB2
  have d0:=aA hF 0;have d1:=aA hF 1;have d2:=aA hF 2
  have z0:=aA gz 0;have z1:=aA gz 1;have z2:=aA gz 2
  have y0:=aE gz 0;have y1:=aE gz 1;have y2:=aE gz 2
  (try dsimp only at d0 d1 d2 z0 z1 z2)
  clear hW9 hF gz hO hZ hB2 hne1
  go_wp2
  clear d0 d1 d2 z0 z1 z2 y0 y1 y2
  have hF:=(aD (o:=2) (.slice al L.length cl) (aD (o:=1) (.int .i64 st) (aD (o:=0) (.int .i64 sn) HG9.out)))
  simp only[List.setIfInBounds_toArray,List.set_cons_zero,List.set_cons_succ] at hF
  have hO:∀q,q≠sb+1→(((W9.setCell ⟨sb+1,0,none⟩ (.int .i64 sn)).setCell ⟨sb+1,1,none⟩ (.int .i64 st)).setCell ⟨sb+1,2,none⟩ (.slice al L.length cl)).heap[q]?=W9.heap[q]?:=(fun q hq=>(Below.heap_setCell _ _ _ _ (by exact hq)).trans ((Below.heap_setCell _ _ _ _ (by exact hq)).trans (Below.heap_setCell _ _ _ _ (by exact hq))))
  have hZ:(((W9.setCell ⟨sb+1,0,none⟩ (.int .i64 sn)).setCell ⟨sb+1,1,none⟩ (.int .i64 st)).setCell ⟨sb+1,2,none⟩ (.slice al L.length cl)).heap.size=W9.heap.size:=by simp[World.setCell]
  have hB2:Below sb w (((W9.setCell ⟨sb+1,0,none⟩ (.int .i64 sn)).setCell ⟨sb+1,1,none⟩ (.int .i64 st)).setCell ⟨sb+1,2,none⟩ (.slice al L.length cl)):=(((HB9.out.setCell (p:=⟨sb+1,0,none⟩) (Nat.le_succ _) _).setCell (p:=⟨sb+1,1,none⟩) (Nat.le_succ _) _).setCell (p:=⟨sb+1,2,none⟩) (Nat.le_succ _) _)
  obtain⟨Wf,hWf⟩:∃Wf,Wf=(((W9.setCell ⟨sb+1,0,none⟩ (.int .i64 sn)).setCell ⟨sb+1,1,none⟩ (.int .i64 st)).setCell ⟨sb+1,2,none⟩ (.slice al L.length cl)):=⟨_,rfl⟩
  rw[←hWf] at hF hO hZ hB2 ⊢
  have hBv:=HB.out
  have hbz:=HSZ.out
  have hsb:=HSB.out
  have hz9:=HZ9.out
  rw[hsb] at hB2
  exact bodyPost_ret (v:=StC.v ⟨sn,st,al,L.length,cl⟩) (by simp[results,Tryz.results19,go_sem,aA hF]) rfl ⟨_,rfl,hB2,⟨HNT.out.1,HNT.out.2.1,HNT.out.2.2.1,HNT.out.2.2.2,by
   rw[show(jY d).l=L from HL.out.symm]
   exact HRL.out.same fun q hq=>⟨⟨by omega,by omega⟩,(hO q (by omega)).trans (HO9.out q (by omega))⟩⟩⟩
end Go.Proofs.YteladbdfiannjaaGreatDoor
