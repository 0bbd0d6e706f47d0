/- A part. -/
import Derived.Test.YteladbdfiannjaaGreatDoorSX33Mrg
import Derived.Test.YteladbdfiannjaaGreatDoorSX34Mrg
namespace Go.Proofs.YteladbdfiannjaaGreatDoor
set_option linter.unusedVariables false
set_option maxRecDepth 100000
set_option maxHeartbeats 64000000
set_option linter.unusedSimpArgs false
open Go Go.RowKit
attribute [-go_sem] Go.Lib.run_max_ints Go.Lib.run_min_ints
@[reducible] def intK:Kit Int Int:=⟨1,8,fun x=>[.int .i64 x],fun _=>rfl,by decide,fun _ _ c d=>c=d∧I64 c,fun _ h=>h⟩
theorem IsInts.cl {S:Nat→Prop} {w:World} {a:Option Addr} {n c:Nat} {xs:List Int} (h:IsInts S w a n c xs) (k:Nat) (hk:k≤n):Cl intK w a k (xs.take k):=by
 have hl:=h.len
 refine⟨by rw[List.length_take];omega,?_⟩
 rcases h.at' with h0 | ⟨b,o,rfl,hb,hx⟩
 ·exact .inl (by rw[h0] at hl;simp at hl;omega)
 ·refine .inr ⟨⟨b,o,none⟩,rfl,fun i u hu=>?_⟩
  have hm:((xs.take k).flatMap intK.cs)=(xs.take k).map (Value.int .i64):=by rw[List.map_eq_flatMap]
  rw[hm] at hu
  simp only[List.getElem?_map,Option.map_eq_some_iff] at hu
  obtain⟨x,hx1,rfl⟩:=hu
  have hi:i<xs.length:=by
   have:=(List.getElem?_eq_some_iff.1 hx1).1
   rw[List.length_take] at this;omega
  have he:xs[i]=x:=by
   have:=(List.getElem?_eq_some_iff.1 hx1).2
   rw[List.getElem_take] at this;exact this
  have:=hx i hi
  rw[he] at this
  rw[show(⟨b,o,none⟩:Addr).add i=⟨b,o+i,none⟩ by unfold Addr.add;split<;>simp_all]
  exact this
theorem qJ {T B:Nat} {w:World} {a:Option Addr} {k cap:Nat} {l:List Int} (h:Kept intK T B w (.slice a k cap) k l) (hk:k≤1000):IsInts (fun b=>B≤b∧b<w.heap.size) w a k cap l:=by
 obtain⟨cs,q1,q2,q3,q4⟩:=h
 have hcs:cs=l:=List.ext_getElem (by omega) fun j h1 h2=>(q4 j h1 h2).1
 subst hcs
 refine⟨q1.symm,?_,by omega,fun x hx=>?_,?_⟩
 ·rcases q3.2 with ⟨e,h0⟩ | ⟨g,cap',cur,e,_,_,h1,_⟩
  ·omega
  ·injection e with e1 e2 e3;omega
 ·obtain⟨j,hj,rfl⟩:=List.getElem_of_mem hx
  exact(q4 j hj hj).2
 ·rcases q3.2 with ⟨e,h0⟩ | ⟨g,cap',cur,e,hb,hg,h1,_⟩
  ·exact .inl (List.eq_nil_of_length_eq_zero (by omega))
  ·injection e with e1 e2 e3
   subst e1 e3
   refine .inr ⟨g,0,rfl,⟨hb,bT hg⟩,fun j hj=>?_⟩
   have:=AtG.ofRow (K:=intK) q3 j hj 0 (by decide)
   simpa using this
def tT (m:Msg):Msg:=⟨⟨m.st.e,m.st.ps.take 6⟩,min (max m.m 0) 1099511627776,m.es.take 6,shV 4 m.b⟩
def ShMPost (w:World) (d:Msg) (e:Ending) (w':World):Prop:=∃c':MC,e=.returned c'.v∧Below w.heap.size w w'∧IsMsg (fun b=>w.heap.size≤b∧b<w'.heap.size) w' c' d
theorem nO:(Tryz.prog.info? 3).map (fun i=>(i.zero,i.size,i.bytes))=some (some (.int .i64 0),1,8):=by kernel_rfl
theorem vO {W:World} {B:Nat} (hB:B≤W.heap.size) {S:Nat→Prop} {a:Option Addr} {n c:Nat} {xs:List Int} (h:IsInts S W a n c xs) (k:Nat) (hk:k≤n) (h6:k≤1000) (ty:TypeId) :
 ∃a' cap' w',(Builtin.append_ #[40,40] ty #[.slice (some ⟨W.heap.size,0,none⟩) 0 0,.slice a k c]).run Tryz.prog (W.alloc (.cells #[] 3))=.ok (.slice a' k cap') w'∧IsInts (fun b=>W.heap.size≤b∧b<w'.heap.size) w' a' k cap' (xs.take k)∧Below W.heap.size W w':=by
 obtain⟨ti,hi,hz0,hz1,hz2⟩:=info_parts nO
 have hx:IsInts S (W.alloc (.cells #[] 3)) a n c xs→True:=fun _=>trivial
 have hkm:Kept intK 3 W.heap.size (W.alloc (.cells #[] 3)) (.slice (some ⟨W.heap.size,0,none⟩) 0 0) 0 []:=Kept.made (K:=intK) #[] 0 lr (by unfold maxLen;omega) (by rfl)
 have hcl:=(h.cl k hk).ext ((Below.refl _ W).alloc lr (.cells #[] 3))
 have hl:=h.len
 obtain⟨a',cap',w',hr,hk',hg,ho⟩:=iT (P:=Tryz.prog) (K:=intK) (ty:=ty) Tryz.underlying40 hi hz0 hz1 (by omega) (by rfl) (by intro x u hu;simp at hu;subst hu;rfl) hkm c (l2:=xs.take k) hcl (by rw[List.length_take];omega) (fun j h1 h2=>⟨rfl,h.rng _ (List.mem_of_mem_take (List.getElem_mem h1))⟩) (by simp) (by omega)
 rw[Nat.zero_add,List.nil_append] at hk'
 rw[Nat.zero_add] at hr
 have hi':=qJ hk' h6
 exact⟨a',cap',w',hr,hi',((Below.refl _ W).alloc lr _).grown hg (by simp) (fun r e=>by cases e;exact Nat.le_refl _)⟩
theorem gX (c:MC) (d:Msg) (w:World) (hd:IsMsg (· < w.heap.size) w c d):Calls Tryz.prog 20 #[c.v] w (ShMPost w (tT d)):=by
 obtain⟨⟨se,sa,sn,sc⟩,mm,ea,en,ec,b⟩:=c
 obtain⟨ti,hi,hz0,hz1,hz2⟩:=info_parts nO
 obtain⟨mb,hmb⟩:∃mb,mb=w.heap.size:=⟨_,rfl⟩
 obtain⟨W,hW⟩:∃W,W=(w.alloc (.cells #[.int .i64 se,.slice sa sn sc,.int .i64 mm,.slice ea en ec,.int .i64 b.k,.int .i64 b.i,.int .i64 b.s,.string b.t,.slice b.la b.ll b.lc,.slice b.fa b.fl b.fc] 68)).alloc (.cells #[.int .i64 0,.slice none 0 0,.int .i64 0,.slice none 0 0,.int .i64 0,.int .i64 0,.int .i64 0,.string ⟨#[]⟩,.slice none 0 0,.slice none 0 0] 68):=⟨_,rfl⟩
 have g1:W.heap[mb]?=some (.cells #[.int .i64 se,.slice sa sn sc,.int .i64 mm,.slice ea en ec,.int .i64 b.k,.int .i64 b.i,.int .i64 b.s,.string b.t,.slice b.la b.ll b.lc,.slice b.fa b.fl b.fc] 68):=by rw[hW,hmb];exact aC _ (heap_alloc_new w _)
 have g2:W.heap[mb+1]?=some (.cells #[.int .i64 0,.slice none 0 0,.int .i64 0,.slice none 0 0,.int .i64 0,.int .i64 0,.int .i64 0,.string ⟨#[]⟩,.slice none 0 0,.slice none 0 0] 68):=by rw[hW,hmb];exact aM _ _ _ (by simp)
 have hbW:Below mb w W:=by rw[hW,hmb];exact((bR w).alloc lr _).alloc (by simp) _
 have zW:W.heap.size=mb+2:=by rw[hW,hmb];simp
 have hst:∀b,b<w.heap.size→b<W.heap.size∧W.heap[b]?=w.heap[b]?:=fun b hb=>⟨by rw[zW,hmb];omega,hbW.block b (by rw[hmb];exact hb)⟩
 have hps:=hd.st.ps.same hst
 have hes:=hd.es.same hst
 have hbv:=hd.b.same hst
 dsimp only at hps hes hbv
 have hsl:=hps.len
 have hel:=hes.len
 have hsc:=hps.cap
 have hec:=hes.cap
 obtain⟨qs,hqs⟩:∃qs,qs=min sn 6:=⟨_,rfl⟩
 obtain⟨qe,hqe⟩:∃qe,qe=min en 6:=⟨_,rfl⟩
 have hq1:(if (6:Int)<(sn:Int) then (6:Int) else (sn:Int))=(qs:Int):=by split<;>omega
 have hq2:(if (6:Int)<(en:Int) then (6:Int) else (en:Int))=(qe:Int):=by split<;>omega
 have htk:∀(xs:List Int) (q:Nat),q=min xs.length 6→xs.take q=xs.take 6:=fun xs q hq=>by
  by_cases h:6≤xs.length
  ·rw[show q=6 by omega]
  ·rw[show q=xs.length by omega,List.take_length,List.take_of_length_le (by omega)]
 obtain⟨a1,cp1,w1,hr1,hi1,hb1⟩:=vO (W:=W) (B:=0) (Nat.zero_le _) hps qs (by omega) (by omega) 40
 rw[htk _ _ (by omega)] at hi1
 have gm1:w1.heap[mb]?=some (.cells #[.int .i64 se,.slice sa sn sc,.int .i64 mm,.slice ea en ec,.int .i64 b.k,.int .i64 b.i,.int .i64 b.s,.string b.t,.slice b.la b.ll b.lc,.slice b.fa b.fl b.fc] 68):=aB hb1 g1
 obtain⟨W2,hW2⟩:∃W2,W2=w1.setCell ⟨mb,1,none⟩ (.slice a1 qs cp1):=⟨_,rfl⟩
 have gm2:W2.heap[mb]?=some (.cells #[.int .i64 se,.slice a1 qs cp1,.int .i64 mm,.slice ea en ec,.int .i64 b.k,.int .i64 b.i,.int .i64 b.s,.string b.t,.slice b.la b.ll b.lc,.slice b.fa b.fl b.fc] 68):=by
  rw[hW2]
  have:=aD (o:=1) (.slice a1 qs cp1) gm1
  simpa only[List.setIfInBounds_toArray,List.set_cons_zero,List.set_cons_succ] using this
 have hk2:∀b,b≠mb→W2.heap[b]?=w1.heap[b]?:=fun b hb=>by rw[hW2];exact Below.heap_setCell _ _ _ _ (by exact hb)
 have hz2':W2.heap.size=w1.heap.size:=by rw[hW2];simp[World.setCell]
 have hb1s:=hb1.size
 obtain⟨a2,cp2,w2,hr2,hi2,hb2⟩:=vO (W:=W2) (B:=0) (Nat.zero_le _) (S:=(· < W2.heap.size)) (hd.es.same (S':=(· < W2.heap.size)) fun b hb=>⟨by rw[hz2'];have:=(hst b hb).1;omega,(hk2 b (by rw[hmb];exact fun e=>by rw[e] at hb;omega)).trans ((hb1.block b (hst b hb).1).trans (hst b hb).2)⟩) qe (by dsimp only;omega) (by omega) 40
 dsimp only at hr2 hi2
 rw[htk _ _ (by omega)] at hi2
 have gm3:w2.heap[mb]?=some (.cells #[.int .i64 se,.slice a1 qs cp1,.int .i64 mm,.slice ea en ec,.int .i64 b.k,.int .i64 b.i,.int .i64 b.s,.string b.t,.slice b.la b.ll b.lc,.slice b.fa b.fl b.fc] 68):=aB hb2 gm2
 obtain⟨W3,hW3⟩:∃W3,W3=w2.setCell ⟨mb,3,none⟩ (.slice a2 qe cp2):=⟨_,rfl⟩
 have gm:W3.heap[mb]?=some (.cells #[.int .i64 se,.slice a1 qs cp1,.int .i64 mm,.slice a2 qe cp2,.int .i64 b.k,.int .i64 b.i,.int .i64 b.s,.string b.t,.slice b.la b.ll b.lc,.slice b.fa b.fl b.fc] 68):=by
  rw[hW3]
  have:=aD (o:=3) (.slice a2 qe cp2) gm3
  simpa only[List.setIfInBounds_toArray,List.set_cons_zero,List.set_cons_succ] using this
 have hk3:∀b,b≠mb→W3.heap[b]?=w2.heap[b]?:=fun b hb=>by rw[hW3];exact Below.heap_setCell _ _ _ _ (by exact hb)
 have hz3:W3.heap.size=w2.heap.size:=by rw[hW3];simp[World.setCell]
 have hb2s:=hb2.size
 have hmbw:mb≠mb+1:=by omega
 have go3:W3.heap[mb+1]?=some (.cells #[.int .i64 0,.slice none 0 0,.int .i64 0,.slice none 0 0,.int .i64 0,.int .i64 0,.int .i64 0,.string ⟨#[]⟩,.slice none 0 0,.slice none 0 0] 68):=(hk3 _ (by omega)).trans (aB hb2 ((hk2 _ (by omega)).trans (aB hb1 g2)))
 have hst3:∀b,b<w.heap.size→b<W3.heap.size∧W3.heap[b]?=w.heap[b]?:=fun b hb=>by
  have h:=hst b hb
  refine⟨by omega,(hk3 b (by omega)).trans ((hb2.block b (by omega)).trans ((hk2 b (by omega)).trans ((hb1.block b h.1).trans h.2)))⟩
 have hbe3:Below mb w W3:=by rw[hW3];exact(((by rw[hW2];exact(hbW.trans (hb1.mono (by omega))).setCell (p:=⟨mb,1,none⟩) lr _):Below mb w W2).trans (hb2.mono (by omega))).setCell (p:=⟨mb,3,none⟩) lr _
 have HSV:Hid (Calls Tryz.prog 78 #[.agg #[.int .i64 b.k,.int .i64 b.i,.int .i64 b.s,.string b.t,.slice b.la b.ll b.lc,.slice b.fa b.fl b.fc],.int .i64 5] W3.drew (dW W3.drew (shV 4 d.b))):=hid (eU 4 (by omega) d.b b W3.drew (hd.b.same (S':=(· < W3.drew.heap.size)) (w':=W3.drew) hst3))
 have HI1:=hid (hi1.same (S':=fun b=>w.heap.size≤b∧b<W3.heap.size∧b≠mb∧b≠mb+1) (w':=W3) fun b hb=>⟨⟨by omega,by omega,by omega,by omega⟩,(hk3 b (by omega)).trans ((hb2.block b (by omega)).trans (hk2 b (by omega)))⟩)
 have HI2:=hid (hi2.same (S':=fun b=>w.heap.size≤b∧b<W3.heap.size∧b≠mb∧b≠mb+1) (w':=W3) fun b hb=>⟨⟨by omega,by omega,by omega,by omega⟩,hk3 b (by omega)⟩)
 have HR1:=hid hr1
 have HR2:=hid hr2
 have HD:=hid (show mm=d.m∧se=d.st.e∧I64 d.st.e∧I64 d.m from⟨hd.m,hd.st.e,hd.st.re,hd.rm⟩)
 have m1:=aA (aC (.cells #[] 3) g1) 1
 have n3:=aA (aC (.cells #[] 3) gm2) 3
 have c1:=aA gm1 1
 have f1:=aE gm1 1
 have c3:=aA gm3 3
 have f3:=aE gm3 3
 (try dsimp only at m1 n3 c1 c3)
 have hqa:(qs:Int)≤(sn:Int):=by omega
 have hqb:(qe:Int)≤(en:Int):=by omega
 have hqc:(qs:Int)≤(sc:Int):=by omega
 have hqd:(qe:Int)≤(ec:Int):=by omega
 have GM:=hid gm;have GO:=hid go3;have HBE:=hid hbe3;have HZ3:=hid (show mb+2≤W3.heap.size by omega)
 have HMB:=hid hmb
 have HW:=hid hW;have HW2:=hid hW2;have HW3:=hid hW3
 clear hd hW hW2 hW3 g1 g2 hbW zW hst hps hes hbv hsl hel hsc hec hqs hqe htk hr1 hr2 hi1 hi2 hb1 hb2 gm1 gm2 gm3 gm hk2 hk3 hz2' hz3 hb1s hb2s hmbw go3 hst3 hbe3 hmb
 dsimp only[MC.v]
 go_enter Tryz.func20,Tryz.ntmps20
 go_upto_region 1 with (fail)
 rw[←HW.out,←HMB.out]
 go_upto_region 2 with (at_builtin;refine wpList_append_run' (by rfl) _ _ _ _ (by rfl) _ _ _ _ (by rfl) (by rfl) HR1.out ?_)
 rw[←HW2.out]
 clear m1 c1 f1
 go_upto_region 3 with (at_builtin;refine wpList_append_run' (by rfl) _ _ _ _ (by rfl) _ _ _ _ (by rfl) (by rfl) HR2.out ?_)
 rw[←HW3.out]
 clear n3 c3 f3 hq1 hq2 hqa hqb hqc hqd
 have gmd:W3.drew.heap[mb]?=some (.cells #[.int .i64 se,.slice a1 qs cp1,.int .i64 mm,.slice a2 qe cp2,.int .i64 b.k,.int .i64 b.i,.int .i64 b.s,.string b.t,.slice b.la b.ll b.lc,.slice b.fa b.fl b.fc] 68):=GM.out
 have k2:=aA gmd 2
 have k4:=aA gmd 4
 have k5:=aA gmd 5
 have k6:=aA gmd 6
 have k7:=aA gmd 7
 have k8:=aA gmd 8
 have k9:=aA gmd 9
 (try dsimp only at k2 k4 k5 k6 k7 k8 k9)
 obtain⟨ma,hma⟩:∃ma,(if mm<0 then (0:Int) else mm)=ma:=⟨_,rfl⟩
 obtain⟨m9,hm9⟩:∃m9,(if (1099511627776:Int)<ma then (1099511627776:Int) else ma)=m9:=⟨_,rfl⟩
 have HM9:=hid (show m9=min (max d.m 0) 1099511627776∧I64 (min (max d.m 0) 1099511627776) from by
  have h1:m9=min (max d.m 0) 1099511627776:=by rw[←HD.out.1];rw[←hm9,←hma];split<;>split<;>omega
  exact⟨h1,by unfold I64;omega⟩)
 clear gmd
 refine wp_region_held_drew (S:=(fun _=>True)) (by kernel_rfl) (trivial) (fun hS=>?_)
 refine tkQ 0 (v:=?_) ?_ hS ?_;rotate_left;· intro w' hw';(try dsimp only at hw');go_simp;(try rfl)
 simp only[Act.put,pq]
 refine tkQ 3 (v:=?_) ?_ hS ?_;rotate_left;· intro w' hw';(try dsimp only at hw');go_simp;(try rfl)
 simp only[Act.put,pq]
 refine ry [1,4] ?_
 refine AllReadyH.cons (o:=_) rfl (fun K hK=>?_) ?_
 ·go_simp
  refine hK.out _ _ (trivial) (fun hS=>?_)
  clear hK K
  (try simp only[Act.put,pq])
  refine ry [2,4] ?_
  refine AllReadyH.cons (o:=_) rfl (fun K hK=>?_) ?_
  ·go_simp;go_at_call 78;refine HSV.out.mono ?_
   rintro e w4 ⟨c4,rfl,hb4,hi4⟩
   have HB4:=hid hb4;have HI4:=hid hi4
   clear hb4 hi4
   refine hK.out _ _ (trivial) (fun hS=>?_)
   clear hK K
   (try simp only[Act.put,pq])
   refine ry [4] ?_
   refine arQ fun K hK=>?_
   have n2:=aA (aB HB4.out GM.out) 2
   (try dsimp only at n2)
   go_simp
   clear n2
   refine hK.out _ _ (trivial) (fun hS=>?_)
   clear hK K
   (try simp only[Act.put,pq])
   refine tkQ 5 (v:=?_) ?_ hS ?_;rotate_left;· intro w' hw';(try dsimp only at hw');go_simp;(try rfl)
   simp only[Act.put,pq]
   refine tkQ 6 (v:=?_) ?_ hS ?_;rotate_left;· intro w' hw';(try dsimp only at hw');go_simp;(try rfl)
   simp only[Act.put,pq]
   refine tkQ 7 (v:=?_) ?_ hS ?_;rotate_left;· intro w' hw';(try dsimp only at hw');go_simp;(try rfl)
   simp only[Act.put,pq]
   refine ry [8] ?_
   refine arQ fun K hK=>?_
   have GM4:=aB HB4.out GM.out
   have y4:=aE GM4 4
   have x4:=aA GM4 4
   have y5:=aE GM4 5
   have x5:=aA GM4 5
   have y6:=aE GM4 6
   have x6:=aA GM4 6
   have y7:=aE GM4 7
   have x7:=aA GM4 7
   have y8:=aE GM4 8
   have x8:=aA GM4 8
   have y9:=aE GM4 9
   have x9:=aA GM4 9
   (try dsimp only at x4 x5 x6 x7 x8 x9)
   go_simp
   clear x4 y4 x5 y5 x6 y6 x7 y7 x8 y8 x9 y9
   refine hK.out _ _ (trivial) (fun hS=>?_)
   clear hK K
   (try simp only[Act.put,pq])
   refine tkQ 9 (v:=?_) ?_ hS ?_;rotate_left;· intro w' hw';(try dsimp only at hw');go_simp;(try rfl)
   simp only[Act.put,pq]
   refine ry [10] ?_
   refine arQ fun K hK=>?_
   have GM8:=(aD (o:=9) (.slice c4.fa c4.fl c4.fc) (aD (o:=8) (.slice c4.la c4.ll c4.lc) (aD (o:=7) (.string c4.t) (aD (o:=6) (.int .i64 c4.s) (aD (o:=5) (.int .i64 c4.i) (aD (o:=4) (.int .i64 c4.k) GM4))))))
   simp only[List.setIfInBounds_toArray,List.set_cons_zero,List.set_cons_succ] at GM8
   have y2:=aE GM8 2
   have x2:=aA GM8 2
   (try dsimp only at x2)
   go_simp
   clear x2 y2
   refine hK.out _ _ (trivial) (fun hS=>?_)
   clear hK K
   (try simp only[Act.put,pq])
   refine wpAnyH_done (by kernel_rfl) ?_ _
   (try dsimp only)
   have hF:=aD (o:=2) (.int .i64 m9) GM8
   simp only[List.setIfInBounds_toArray,List.set_cons_zero,List.set_cons_succ] at hF
   have hO:∀q,q≠mb→(((((((w4.setCell ⟨mb,4,none⟩ (.int .i64 c4.k)).setCell ⟨mb,5,none⟩ (.int .i64 c4.i)).setCell ⟨mb,6,none⟩ (.int .i64 c4.s)).setCell ⟨mb,7,none⟩ (.string c4.t)).setCell ⟨mb,8,none⟩ (.slice c4.la c4.ll c4.lc)).setCell ⟨mb,9,none⟩ (.slice c4.fa c4.fl c4.fc)).setCell ⟨mb,2,none⟩ (.int .i64 m9)).heap[q]?=w4.heap[q]?:=(fun q hq=>(Below.heap_setCell _ _ _ _ (by exact hq)).trans ((Below.heap_setCell _ _ _ _ (by exact hq)).trans ((Below.heap_setCell _ _ _ _ (by exact hq)).trans ((Below.heap_setCell _ _ _ _ (by exact hq)).trans ((Below.heap_setCell _ _ _ _ (by exact hq)).trans ((Below.heap_setCell _ _ _ _ (by exact hq)).trans (Below.heap_setCell _ _ _ _ (by exact hq))))))))
   have hZ:(((((((w4.setCell ⟨mb,4,none⟩ (.int .i64 c4.k)).setCell ⟨mb,5,none⟩ (.int .i64 c4.i)).setCell ⟨mb,6,none⟩ (.int .i64 c4.s)).setCell ⟨mb,7,none⟩ (.string c4.t)).setCell ⟨mb,8,none⟩ (.slice c4.la c4.ll c4.lc)).setCell ⟨mb,9,none⟩ (.slice c4.fa c4.fl c4.fc)).setCell ⟨mb,2,none⟩ (.int .i64 m9)).heap.size=w4.heap.size:=by simp[World.setCell]
   have hb0:Below mb w w4:=HBE.out.drew.trans (HB4.out.mono (by have:=HZ3.out;simp;omega))
   have hB:Below mb w (((((((w4.setCell ⟨mb,4,none⟩ (.int .i64 c4.k)).setCell ⟨mb,5,none⟩ (.int .i64 c4.i)).setCell ⟨mb,6,none⟩ (.int .i64 c4.s)).setCell ⟨mb,7,none⟩ (.string c4.t)).setCell ⟨mb,8,none⟩ (.slice c4.la c4.ll c4.lc)).setCell ⟨mb,9,none⟩ (.slice c4.fa c4.fl c4.fc)).setCell ⟨mb,2,none⟩ (.int .i64 m9)):=(((((((hb0.setCell (p:=⟨mb,4,none⟩) lr _).setCell (p:=⟨mb,5,none⟩) lr _).setCell (p:=⟨mb,6,none⟩) lr _).setCell (p:=⟨mb,7,none⟩) lr _).setCell (p:=⟨mb,8,none⟩) lr _).setCell (p:=⟨mb,9,none⟩) lr _).setCell (p:=⟨mb,2,none⟩) lr _)
   obtain⟨W9,hW9⟩:∃W9,W9=(((((((w4.setCell ⟨mb,4,none⟩ (.int .i64 c4.k)).setCell ⟨mb,5,none⟩ (.int .i64 c4.i)).setCell ⟨mb,6,none⟩ (.int .i64 c4.s)).setCell ⟨mb,7,none⟩ (.string c4.t)).setCell ⟨mb,8,none⟩ (.slice c4.la c4.ll c4.lc)).setCell ⟨mb,9,none⟩ (.slice c4.fa c4.fl c4.fc)).setCell ⟨mb,2,none⟩ (.int .i64 m9)):=⟨_,rfl⟩
   rw[←hW9] at hF hO hZ hB ⊢
   have hne1:mb+1≠mb:=by omega
   have gz:=(hO _ hne1).trans (aB HB4.out (show W3.drew.heap[mb+1]?=some (.cells #[.int .i64 0,.slice none 0 0,.int .i64 0,.slice none 0 0,.int .i64 0,.int .i64 0,.int .i64 0,.string ⟨#[]⟩,.slice none 0 0,.slice none 0 0] 68) from GO.out))
   have HF9:=hid hF;have HO9:=hid hO;have HZ9:=hid hZ;have HB9:=hid hB;have GZ9:=hid gz
   have d0:=aA hF 0
   have d1:=aA hF 1
   have d2:=aA hF 2
   have d3:=aA hF 3
   have d4:=aA hF 4
   have d5:=aA hF 5
   have d6:=aA hF 6
   have d7:=aA hF 7
   have d8:=aA hF 8
   have d9:=aA hF 9
   have z0:=aA gz 0
   have z1:=aA gz 1
   have z2:=aA gz 2
   have z3:=aA gz 3
   have z4:=aA gz 4
   have z5:=aA gz 5
   have z6:=aA gz 6
   have z7:=aA gz 7
   have z8:=aA gz 8
   have z9:=aA gz 9
   have y0:=aE gz 0
   have y1:=aE gz 1
   have y2:=aE gz 2
   have y3:=aE gz 3
   have y4:=aE gz 4
   have y5:=aE gz 5
   have y6:=aE gz 6
   have y7:=aE gz 7
   have y8:=aE gz 8
   have y9:=aE gz 9
   (try dsimp only at d0 z0 d1 z1 d2 z2 d3 z3 d4 z4 d5 z5 d6 z6 d7 z7 d8 z8 d9 z9)
   clear hW9 hF hO hZ hB gz hb0 GM4 GM8 hS k2 k4 k5 k6 k7 k8 k9 hne1
   go_wp2
   clear d0 z0 y0 d1 z1 y1 d2 z2 y2 d3 z3 y3 d4 z4 y4 d5 z5 y5 d6 z6 y6 d7 z7 y7 d8 z8 y8 d9 z9 y9
   have hF:=(aD (o:=9) (.slice c4.fa c4.fl c4.fc) (aD (o:=8) (.slice c4.la c4.ll c4.lc) (aD (o:=7) (.string c4.t) (aD (o:=6) (.int .i64 c4.s) (aD (o:=5) (.int .i64 c4.i) (aD (o:=4) (.int .i64 c4.k) (aD (o:=3) (.slice a2 qe cp2) (aD (o:=2) (.int .i64 m9) (aD (o:=1) (.slice a1 qs cp1) (aD (o:=0) (.int .i64 se) GZ9.out))))))))))
   simp only[List.setIfInBounds_toArray,List.set_cons_zero,List.set_cons_succ] at hF
   have hO:∀q,q≠mb+1→((((((((((W9.setCell ⟨mb+1,0,none⟩ (.int .i64 se)).setCell ⟨mb+1,1,none⟩ (.slice a1 qs cp1)).setCell ⟨mb+1,2,none⟩ (.int .i64 m9)).setCell ⟨mb+1,3,none⟩ (.slice a2 qe cp2)).setCell ⟨mb+1,4,none⟩ (.int .i64 c4.k)).setCell ⟨mb+1,5,none⟩ (.int .i64 c4.i)).setCell ⟨mb+1,6,none⟩ (.int .i64 c4.s)).setCell ⟨mb+1,7,none⟩ (.string c4.t)).setCell ⟨mb+1,8,none⟩ (.slice c4.la c4.ll c4.lc)).setCell ⟨mb+1,9,none⟩ (.slice c4.fa c4.fl c4.fc)).heap[q]?=W9.heap[q]?:=(fun q hq=>(Below.heap_setCell _ _ _ _ (by exact hq)).trans ((Below.heap_setCell _ _ _ _ (by exact hq)).trans ((Below.heap_setCell _ _ _ _ (by exact hq)).trans ((Below.heap_setCell _ _ _ _ (by exact hq)).trans ((Below.heap_setCell _ _ _ _ (by exact hq)).trans ((Below.heap_setCell _ _ _ _ (by exact hq)).trans ((Below.heap_setCell _ _ _ _ (by exact hq)).trans ((Below.heap_setCell _ _ _ _ (by exact hq)).trans ((Below.heap_setCell _ _ _ _ (by exact hq)).trans (Below.heap_setCell _ _ _ _ (by exact hq)))))))))))
   have hZ:((((((((((W9.setCell ⟨mb+1,0,none⟩ (.int .i64 se)).setCell ⟨mb+1,1,none⟩ (.slice a1 qs cp1)).setCell ⟨mb+1,2,none⟩ (.int .i64 m9)).setCell ⟨mb+1,3,none⟩ (.slice a2 qe cp2)).setCell ⟨mb+1,4,none⟩ (.int .i64 c4.k)).setCell ⟨mb+1,5,none⟩ (.int .i64 c4.i)).setCell ⟨mb+1,6,none⟩ (.int .i64 c4.s)).setCell ⟨mb+1,7,none⟩ (.string c4.t)).setCell ⟨mb+1,8,none⟩ (.slice c4.la c4.ll c4.lc)).setCell ⟨mb+1,9,none⟩ (.slice c4.fa c4.fl c4.fc)).heap.size=W9.heap.size:=by simp[World.setCell]
   have hB:Below mb w ((((((((((W9.setCell ⟨mb+1,0,none⟩ (.int .i64 se)).setCell ⟨mb+1,1,none⟩ (.slice a1 qs cp1)).setCell ⟨mb+1,2,none⟩ (.int .i64 m9)).setCell ⟨mb+1,3,none⟩ (.slice a2 qe cp2)).setCell ⟨mb+1,4,none⟩ (.int .i64 c4.k)).setCell ⟨mb+1,5,none⟩ (.int .i64 c4.i)).setCell ⟨mb+1,6,none⟩ (.int .i64 c4.s)).setCell ⟨mb+1,7,none⟩ (.string c4.t)).setCell ⟨mb+1,8,none⟩ (.slice c4.la c4.ll c4.lc)).setCell ⟨mb+1,9,none⟩ (.slice c4.fa c4.fl c4.fc)):=((((((((((HB9.out.setCell (p:=⟨mb+1,0,none⟩) (Nat.le_succ _) _).setCell (p:=⟨mb+1,1,none⟩) (Nat.le_succ _) _).setCell (p:=⟨mb+1,2,none⟩) (Nat.le_succ _) _).setCell (p:=⟨mb+1,3,none⟩) (Nat.le_succ _) _).setCell (p:=⟨mb+1,4,none⟩) (Nat.le_succ _) _).setCell (p:=⟨mb+1,5,none⟩) (Nat.le_succ _) _).setCell (p:=⟨mb+1,6,none⟩) (Nat.le_succ _) _).setCell (p:=⟨mb+1,7,none⟩) (Nat.le_succ _) _).setCell (p:=⟨mb+1,8,none⟩) (Nat.le_succ _) _).setCell (p:=⟨mb+1,9,none⟩) (Nat.le_succ _) _)
   obtain⟨Wf,hWf⟩:∃Wf,Wf=((((((((((W9.setCell ⟨mb+1,0,none⟩ (.int .i64 se)).setCell ⟨mb+1,1,none⟩ (.slice a1 qs cp1)).setCell ⟨mb+1,2,none⟩ (.int .i64 m9)).setCell ⟨mb+1,3,none⟩ (.slice a2 qe cp2)).setCell ⟨mb+1,4,none⟩ (.int .i64 c4.k)).setCell ⟨mb+1,5,none⟩ (.int .i64 c4.i)).setCell ⟨mb+1,6,none⟩ (.int .i64 c4.s)).setCell ⟨mb+1,7,none⟩ (.string c4.t)).setCell ⟨mb+1,8,none⟩ (.slice c4.la c4.ll c4.lc)).setCell ⟨mb+1,9,none⟩ (.slice c4.fa c4.fl c4.fc)):=⟨_,rfl⟩
   rw[←hWf] at hF hO hZ hB ⊢
   have h4s:=HB4.out.size
   have hz9:=HZ9.out;have hz3:=HZ3.out;have hmb:=HMB.out
   simp only[World.size_drew] at h4s
   have hk:∀q,q≠mb→q≠mb+1→Wf.heap[q]?=w4.heap[q]?:=fun q h1 h2=>(hO q h2).trans (HO9.out q h1)
   have hk3:∀q,q<W3.heap.size→q≠mb→q≠mb+1→Wf.heap[q]?=W3.heap[q]?:=fun q h0 h1 h2=>(hk q h1 h2).trans (HB4.out.block q h0)
   rw[hmb] at hB
   exact bodyPost_ret (v:=MC.v ⟨⟨se,a1,qs,cp1⟩,m9,a2,qe,cp2,c4⟩) (by simp[results,Tryz.results20,go_sem,aA hF]) rfl ⟨_,rfl,hB,⟨⟨HD.out.2.1,HD.out.2.2.1,HI1.out.same fun q hq=>⟨⟨hq.1,by omega⟩,hk3 q hq.2.1 hq.2.2.1 hq.2.2.2⟩⟩,HM9.out.1,HM9.out.2,HI2.out.same fun q hq=>⟨⟨hq.1,by omega⟩,hk3 q hq.2.1 hq.2.2.1 hq.2.2.2⟩,HI4.out.same fun q hq=>⟨⟨by have h1:=hq.1;simp only[World.size_drew] at h1;omega,by omega⟩,hk q (by have h1:=hq.1;simp only[World.size_drew] at h1;omega) (by have h1:=hq.1;simp only[World.size_drew] at h1;omega)⟩⟩⟩
  refine arQ fun K hK=>?_
  go_simp
  refine hK.out _ _ (trivial) (fun hS=>?_)
  clear hK K
  (try simp only[Act.put,pq])
  refine tkQ 5 (v:=?_) ?_ hS ?_;rotate_left;· intro w' hw';(try dsimp only at hw');go_simp;(try rfl)
  simp only[Act.put,pq]
  refine tkQ 6 (v:=?_) ?_ hS ?_;rotate_left;· intro w' hw';(try dsimp only at hw');go_simp;(try rfl)
  simp only[Act.put,pq]
  refine ry [2] ?_
  refine arQ fun K hK=>?_
  go_simp;go_at_call 78;refine HSV.out.mono ?_
  rintro e w4 ⟨c4,rfl,hb4,hi4⟩
  have HB4:=hid hb4;have HI4:=hid hi4
  clear hb4 hi4
  refine hK.out _ _ (trivial) (fun hS=>?_)
  clear hK K
  (try simp only[Act.put,pq])
  refine tkQ 7 (v:=?_) ?_ hS ?_;rotate_left;· intro w' hw';(try dsimp only at hw');go_simp;(try rfl)
  simp only[Act.put,pq]
  refine ry [8] ?_
  refine arQ fun K hK=>?_
  have GM4:=aB HB4.out GM.out
  have y4:=aE GM4 4
  have x4:=aA GM4 4
  have y5:=aE GM4 5
  have x5:=aA GM4 5
  have y6:=aE GM4 6
  have x6:=aA GM4 6
  have y7:=aE GM4 7
  have x7:=aA GM4 7
  have y8:=aE GM4 8
  have x8:=aA GM4 8
  have y9:=aE GM4 9
  have x9:=aA GM4 9
  (try dsimp only at x4 x5 x6 x7 x8 x9)
  go_simp
  clear x4 y4 x5 y5 x6 y6 x7 y7 x8 y8 x9 y9
  refine hK.out _ _ (trivial) (fun hS=>?_)
  clear hK K
  (try simp only[Act.put,pq])
  refine tkQ 9 (v:=?_) ?_ hS ?_;rotate_left;· intro w' hw';(try dsimp only at hw');go_simp;(try rfl)
  simp only[Act.put,pq]
  refine ry [10] ?_
  refine arQ fun K hK=>?_
  have GM8:=(aD (o:=9) (.slice c4.fa c4.fl c4.fc) (aD (o:=8) (.slice c4.la c4.ll c4.lc) (aD (o:=7) (.string c4.t) (aD (o:=6) (.int .i64 c4.s) (aD (o:=5) (.int .i64 c4.i) (aD (o:=4) (.int .i64 c4.k) GM4))))))
  simp only[List.setIfInBounds_toArray,List.set_cons_zero,List.set_cons_succ] at GM8
  have y2:=aE GM8 2
  have x2:=aA GM8 2
  (try dsimp only at x2)
  go_simp
  clear x2 y2
  refine hK.out _ _ (trivial) (fun hS=>?_)
  clear hK K
  (try simp only[Act.put,pq])
  refine wpAnyH_done (by kernel_rfl) ?_ _
  (try dsimp only)
  have hF:=aD (o:=2) (.int .i64 m9) GM8
  simp only[List.setIfInBounds_toArray,List.set_cons_zero,List.set_cons_succ] at hF
  have hO:∀q,q≠mb→(((((((w4.setCell ⟨mb,4,none⟩ (.int .i64 c4.k)).setCell ⟨mb,5,none⟩ (.int .i64 c4.i)).setCell ⟨mb,6,none⟩ (.int .i64 c4.s)).setCell ⟨mb,7,none⟩ (.string c4.t)).setCell ⟨mb,8,none⟩ (.slice c4.la c4.ll c4.lc)).setCell ⟨mb,9,none⟩ (.slice c4.fa c4.fl c4.fc)).setCell ⟨mb,2,none⟩ (.int .i64 m9)).heap[q]?=w4.heap[q]?:=(fun q hq=>(Below.heap_setCell _ _ _ _ (by exact hq)).trans ((Below.heap_setCell _ _ _ _ (by exact hq)).trans ((Below.heap_setCell _ _ _ _ (by exact hq)).trans ((Below.heap_setCell _ _ _ _ (by exact hq)).trans ((Below.heap_setCell _ _ _ _ (by exact hq)).trans ((Below.heap_setCell _ _ _ _ (by exact hq)).trans (Below.heap_setCell _ _ _ _ (by exact hq))))))))
  have hZ:(((((((w4.setCell ⟨mb,4,none⟩ (.int .i64 c4.k)).setCell ⟨mb,5,none⟩ (.int .i64 c4.i)).setCell ⟨mb,6,none⟩ (.int .i64 c4.s)).setCell ⟨mb,7,none⟩ (.string c4.t)).setCell ⟨mb,8,none⟩ (.slice c4.la c4.ll c4.lc)).setCell ⟨mb,9,none⟩ (.slice c4.fa c4.fl c4.fc)).setCell ⟨mb,2,none⟩ (.int .i64 m9)).heap.size=w4.heap.size:=by simp[World.setCell]
  have hb0:Below mb w w4:=HBE.out.drew.trans (HB4.out.mono (by have:=HZ3.out;simp;omega))
  have hB:Below mb w (((((((w4.setCell ⟨mb,4,none⟩ (.int .i64 c4.k)).setCell ⟨mb,5,none⟩ (.int .i64 c4.i)).setCell ⟨mb,6,none⟩ (.int .i64 c4.s)).setCell ⟨mb,7,none⟩ (.string c4.t)).setCell ⟨mb,8,none⟩ (.slice c4.la c4.ll c4.lc)).setCell ⟨mb,9,none⟩ (.slice c4.fa c4.fl c4.fc)).setCell ⟨mb,2,none⟩ (.int .i64 m9)):=(((((((hb0.setCell (p:=⟨mb,4,none⟩) lr _).setCell (p:=⟨mb,5,none⟩) lr _).setCell (p:=⟨mb,6,none⟩) lr _).setCell (p:=⟨mb,7,none⟩) lr _).setCell (p:=⟨mb,8,none⟩) lr _).setCell (p:=⟨mb,9,none⟩) lr _).setCell (p:=⟨mb,2,none⟩) lr _)
  obtain⟨W9,hW9⟩:∃W9,W9=(((((((w4.setCell ⟨mb,4,none⟩ (.int .i64 c4.k)).setCell ⟨mb,5,none⟩ (.int .i64 c4.i)).setCell ⟨mb,6,none⟩ (.int .i64 c4.s)).setCell ⟨mb,7,none⟩ (.string c4.t)).setCell ⟨mb,8,none⟩ (.slice c4.la c4.ll c4.lc)).setCell ⟨mb,9,none⟩ (.slice c4.fa c4.fl c4.fc)).setCell ⟨mb,2,none⟩ (.int .i64 m9)):=⟨_,rfl⟩
  rw[←hW9] at hF hO hZ hB ⊢
  have hne1:mb+1≠mb:=by omega
  have gz:=(hO _ hne1).trans (aB HB4.out (show W3.drew.heap[mb+1]?=some (.cells #[.int .i64 0,.slice none 0 0,.int .i64 0,.slice none 0 0,.int .i64 0,.int .i64 0,.int .i64 0,.string ⟨#[]⟩,.slice none 0 0,.slice none 0 0] 68) from GO.out))
  have HF9:=hid hF;have HO9:=hid hO;have HZ9:=hid hZ;have HB9:=hid hB;have GZ9:=hid gz
  have d0:=aA hF 0
  have d1:=aA hF 1
  have d2:=aA hF 2
  have d3:=aA hF 3
  have d4:=aA hF 4
  have d5:=aA hF 5
  have d6:=aA hF 6
  have d7:=aA hF 7
  have d8:=aA hF 8
  have d9:=aA hF 9
  have z0:=aA gz 0
  have z1:=aA gz 1
  have z2:=aA gz 2
  have z3:=aA gz 3
  have z4:=aA gz 4
  have z5:=aA gz 5
  have z6:=aA gz 6
  have z7:=aA gz 7
  have z8:=aA gz 8
  have z9:=aA gz 9
  have y0:=aE gz 0
  have y1:=aE gz 1
  have y2:=aE gz 2
  have y3:=aE gz 3
  have y4:=aE gz 4
  have y5:=aE gz 5
  have y6:=aE gz 6
  have y7:=aE gz 7
  have y8:=aE gz 8
  have y9:=aE gz 9
  (try dsimp only at d0 z0 d1 z1 d2 z2 d3 z3 d4 z4 d5 z5 d6 z6 d7 z7 d8 z8 d9 z9)
  clear hW9 hF hO hZ hB gz hb0 GM4 GM8 hS k2 k4 k5 k6 k7 k8 k9 hne1
  go_wp2
  clear d0 z0 y0 d1 z1 y1 d2 z2 y2 d3 z3 y3 d4 z4 y4 d5 z5 y5 d6 z6 y6 d7 z7 y7 d8 z8 y8 d9 z9 y9
  have hF:=(aD (o:=9) (.slice c4.fa c4.fl c4.fc) (aD (o:=8) (.slice c4.la c4.ll c4.lc) (aD (o:=7) (.string c4.t) (aD (o:=6) (.int .i64 c4.s) (aD (o:=5) (.int .i64 c4.i) (aD (o:=4) (.int .i64 c4.k) (aD (o:=3) (.slice a2 qe cp2) (aD (o:=2) (.int .i64 m9) (aD (o:=1) (.slice a1 qs cp1) (aD (o:=0) (.int .i64 se) GZ9.out))))))))))
  simp only[List.setIfInBounds_toArray,List.set_cons_zero,List.set_cons_succ] at hF
  have hO:∀q,q≠mb+1→((((((((((W9.setCell ⟨mb+1,0,none⟩ (.int .i64 se)).setCell ⟨mb+1,1,none⟩ (.slice a1 qs cp1)).setCell ⟨mb+1,2,none⟩ (.int .i64 m9)).setCell ⟨mb+1,3,none⟩ (.slice a2 qe cp2)).setCell ⟨mb+1,4,none⟩ (.int .i64 c4.k)).setCell ⟨mb+1,5,none⟩ (.int .i64 c4.i)).setCell ⟨mb+1,6,none⟩ (.int .i64 c4.s)).setCell ⟨mb+1,7,none⟩ (.string c4.t)).setCell ⟨mb+1,8,none⟩ (.slice c4.la c4.ll c4.lc)).setCell ⟨mb+1,9,none⟩ (.slice c4.fa c4.fl c4.fc)).heap[q]?=W9.heap[q]?:=(fun q hq=>(Below.heap_setCell _ _ _ _ (by exact hq)).trans ((Below.heap_setCell _ _ _ _ (by exact hq)).trans ((Below.heap_setCell _ _ _ _ (by exact hq)).trans ((Below.heap_setCell _ _ _ _ (by exact hq)).trans ((Below.heap_setCell _ _ _ _ (by exact hq)).trans ((Below.heap_setCell _ _ _ _ (by exact hq)).trans ((Below.heap_setCell _ _ _ _ (by exact hq)).trans ((Below.heap_setCell _ _ _ _ (by exact hq)).trans ((Below.heap_setCell _ _ _ _ (by exact hq)).trans (Below.heap_setCell _ _ _ _ (by exact hq)))))))))))
  have hZ:((((((((((W9.setCell ⟨mb+1,0,none⟩ (.int .i64 se)).setCell ⟨mb+1,1,none⟩ (.slice a1 qs cp1)).setCell ⟨mb+1,2,none⟩ (.int .i64 m9)).setCell ⟨mb+1,3,none⟩ (.slice a2 qe cp2)).setCell ⟨mb+1,4,none⟩ (.int .i64 c4.k)).setCell ⟨mb+1,5,none⟩ (.int .i64 c4.i)).setCell ⟨mb+1,6,none⟩ (.int .i64 c4.s)).setCell ⟨mb+1,7,none⟩ (.string c4.t)).setCell ⟨mb+1,8,none⟩ (.slice c4.la c4.ll c4.lc)).setCell ⟨mb+1,9,none⟩ (.slice c4.fa c4.fl c4.fc)).heap.size=W9.heap.size:=by simp[World.setCell]
  have hB:Below mb w ((((((((((W9.setCell ⟨mb+1,0,none⟩ (.int .i64 se)).setCell ⟨mb+1,1,none⟩ (.slice a1 qs cp1)).setCell ⟨mb+1,2,none⟩ (.int .i64 m9)).setCell ⟨mb+1,3,none⟩ (.slice a2 qe cp2)).setCell ⟨mb+1,4,none⟩ (.int .i64 c4.k)).setCell ⟨mb+1,5,none⟩ (.int .i64 c4.i)).setCell ⟨mb+1,6,none⟩ (.int .i64 c4.s)).setCell ⟨mb+1,7,none⟩ (.string c4.t)).setCell ⟨mb+1,8,none⟩ (.slice c4.la c4.ll c4.lc)).setCell ⟨mb+1,9,none⟩ (.slice c4.fa c4.fl c4.fc)):=((((((((((HB9.out.setCell (p:=⟨mb+1,0,none⟩) (Nat.le_succ _) _).setCell (p:=⟨mb+1,1,none⟩) (Nat.le_succ _) _).setCell (p:=⟨mb+1,2,none⟩) (Nat.le_succ _) _).setCell (p:=⟨mb+1,3,none⟩) (Nat.le_succ _) _).setCell (p:=⟨mb+1,4,none⟩) (Nat.le_succ _) _).setCell (p:=⟨mb+1,5,none⟩) (Nat.le_succ _) _).setCell (p:=⟨mb+1,6,none⟩) (Nat.le_succ _) _).setCell (p:=⟨mb+1,7,none⟩) (Nat.le_succ _) _).setCell (p:=⟨mb+1,8,none⟩) (Nat.le_succ _) _).setCell (p:=⟨mb+1,9,none⟩) (Nat.le_succ _) _)
  obtain⟨Wf,hWf⟩:∃Wf,Wf=((((((((((W9.setCell ⟨mb+1,0,none⟩ (.int .i64 se)).setCell ⟨mb+1,1,none⟩ (.slice a1 qs cp1)).setCell ⟨mb+1,2,none⟩ (.int .i64 m9)).setCell ⟨mb+1,3,none⟩ (.slice a2 qe cp2)).setCell ⟨mb+1,4,none⟩ (.int .i64 c4.k)).setCell ⟨mb+1,5,none⟩ (.int .i64 c4.i)).setCell ⟨mb+1,6,none⟩ (.int .i64 c4.s)).setCell ⟨mb+1,7,none⟩ (.string c4.t)).setCell ⟨mb+1,8,none⟩ (.slice c4.la c4.ll c4.lc)).setCell ⟨mb+1,9,none⟩ (.slice c4.fa c4.fl c4.fc)):=⟨_,rfl⟩
  rw[←hWf] at hF hO hZ hB ⊢
  have h4s:=HB4.out.size
  have hz9:=HZ9.out;have hz3:=HZ3.out;have hmb:=HMB.out
  simp only[World.size_drew] at h4s
  have hk:∀q,q≠mb→q≠mb+1→Wf.heap[q]?=w4.heap[q]?:=fun q h1 h2=>(hO q h2).trans (HO9.out q h1)
  have hk3:∀q,q<W3.heap.size→q≠mb→q≠mb+1→Wf.heap[q]?=W3.heap[q]?:=fun q h0 h1 h2=>(hk q h1 h2).trans (HB4.out.block q h0)
  rw[hmb] at hB
  exact bodyPost_ret (v:=MC.v ⟨⟨se,a1,qs,cp1⟩,m9,a2,qe,cp2,c4⟩) (by simp[results,Tryz.results20,go_sem,aA hF]) rfl ⟨_,rfl,hB,⟨⟨HD.out.2.1,HD.out.2.2.1,HI1.out.same fun q hq=>⟨⟨hq.1,by omega⟩,hk3 q hq.2.1 hq.2.2.1 hq.2.2.2⟩⟩,HM9.out.1,HM9.out.2,HI2.out.same fun q hq=>⟨⟨hq.1,by omega⟩,hk3 q hq.2.1 hq.2.2.1 hq.2.2.2⟩,HI4.out.same fun q hq=>⟨⟨by have h1:=hq.1;simp only[World.size_drew] at h1;omega,by omega⟩,hk q (by have h1:=hq.1;simp only[World.size_drew] at h1;omega) (by have h1:=hq.1;simp only[World.size_drew] at h1;omega)⟩⟩⟩
 refine arQ fun K hK=>?_
 go_simp
 refine hK.out _ _ (trivial) (fun hS=>?_)
 clear hK K
 (try simp only[Act.put,pq])
 refine tkQ 5 (v:=?_) ?_ hS ?_;rotate_left;· intro w' hw';(try dsimp only at hw');go_simp;(try rfl)
 simp only[Act.put,pq]
 refine tkQ 6 (v:=?_) ?_ hS ?_;rotate_left;· intro w' hw';(try dsimp only at hw');go_simp;(try rfl)
 simp only[Act.put,pq]
 refine ry [1] ?_
 refine arQ fun K hK=>?_
 go_simp
 refine hK.out _ _ (trivial) (fun hS=>?_)
 clear hK K
 (try simp only[Act.put,pq])
 refine ry [2] ?_
 refine arQ fun K hK=>?_
 go_simp;go_at_call 78;refine HSV.out.mono ?_
 rintro e w4 ⟨c4,rfl,hb4,hi4⟩
 have HB4:=hid hb4;have HI4:=hid hi4
 clear hb4 hi4
 refine hK.out _ _ (trivial) (fun hS=>?_)
 clear hK K
 (try simp only[Act.put,pq])
 refine tkQ 7 (v:=?_) ?_ hS ?_;rotate_left;· intro w' hw';(try dsimp only at hw');go_simp;(try rfl)
 simp only[Act.put,pq]
 refine ry [8] ?_
 refine arQ fun K hK=>?_
 have GM4:=aB HB4.out GM.out
 have y4:=aE GM4 4
 have x4:=aA GM4 4
 have y5:=aE GM4 5
 have x5:=aA GM4 5
 have y6:=aE GM4 6
 have x6:=aA GM4 6
 have y7:=aE GM4 7
 have x7:=aA GM4 7
 have y8:=aE GM4 8
 have x8:=aA GM4 8
 have y9:=aE GM4 9
 have x9:=aA GM4 9
 (try dsimp only at x4 x5 x6 x7 x8 x9)
 go_simp
 clear x4 y4 x5 y5 x6 y6 x7 y7 x8 y8 x9 y9
 refine hK.out _ _ (trivial) (fun hS=>?_)
 clear hK K
 (try simp only[Act.put,pq])
 refine tkQ 9 (v:=?_) ?_ hS ?_;rotate_left;· intro w' hw';(try dsimp only at hw');go_simp;(try rfl)
 simp only[Act.put,pq]
 refine ry [10] ?_
 refine arQ fun K hK=>?_
 have GM8:=(aD (o:=9) (.slice c4.fa c4.fl c4.fc) (aD (o:=8) (.slice c4.la c4.ll c4.lc) (aD (o:=7) (.string c4.t) (aD (o:=6) (.int .i64 c4.s) (aD (o:=5) (.int .i64 c4.i) (aD (o:=4) (.int .i64 c4.k) GM4))))))
 simp only[List.setIfInBounds_toArray,List.set_cons_zero,List.set_cons_succ] at GM8
 have y2:=aE GM8 2
 have x2:=aA GM8 2
 (try dsimp only at x2)
 go_simp
 clear x2 y2
 refine hK.out _ _ (trivial) (fun hS=>?_)
 clear hK K
 (try simp only[Act.put,pq])
 refine wpAnyH_done (by kernel_rfl) ?_ _
 (try dsimp only)
 have hF:=aD (o:=2) (.int .i64 m9) GM8
 simp only[List.setIfInBounds_toArray,List.set_cons_zero,List.set_cons_succ] at hF
 have hO:∀q,q≠mb→(((((((w4.setCell ⟨mb,4,none⟩ (.int .i64 c4.k)).setCell ⟨mb,5,none⟩ (.int .i64 c4.i)).setCell ⟨mb,6,none⟩ (.int .i64 c4.s)).setCell ⟨mb,7,none⟩ (.string c4.t)).setCell ⟨mb,8,none⟩ (.slice c4.la c4.ll c4.lc)).setCell ⟨mb,9,none⟩ (.slice c4.fa c4.fl c4.fc)).setCell ⟨mb,2,none⟩ (.int .i64 m9)).heap[q]?=w4.heap[q]?:=(fun q hq=>(Below.heap_setCell _ _ _ _ (by exact hq)).trans ((Below.heap_setCell _ _ _ _ (by exact hq)).trans ((Below.heap_setCell _ _ _ _ (by exact hq)).trans ((Below.heap_setCell _ _ _ _ (by exact hq)).trans ((Below.heap_setCell _ _ _ _ (by exact hq)).trans ((Below.heap_setCell _ _ _ _ (by exact hq)).trans (Below.heap_setCell _ _ _ _ (by exact hq))))))))
 have hZ:(((((((w4.setCell ⟨mb,4,none⟩ (.int .i64 c4.k)).setCell ⟨mb,5,none⟩ (.int .i64 c4.i)).setCell ⟨mb,6,none⟩ (.int .i64 c4.s)).setCell ⟨mb,7,none⟩ (.string c4.t)).setCell ⟨mb,8,none⟩ (.slice c4.la c4.ll c4.lc)).setCell ⟨mb,9,none⟩ (.slice c4.fa c4.fl c4.fc)).setCell ⟨mb,2,none⟩ (.int .i64 m9)).heap.size=w4.heap.size:=by simp[World.setCell]
 have hb0:Below mb w w4:=HBE.out.drew.trans (HB4.out.mono (by have:=HZ3.out;simp;omega))
 have hB:Below mb w (((((((w4.setCell ⟨mb,4,none⟩ (.int .i64 c4.k)).setCell ⟨mb,5,none⟩ (.int .i64 c4.i)).setCell ⟨mb,6,none⟩ (.int .i64 c4.s)).setCell ⟨mb,7,none⟩ (.string c4.t)).setCell ⟨mb,8,none⟩ (.slice c4.la c4.ll c4.lc)).setCell ⟨mb,9,none⟩ (.slice c4.fa c4.fl c4.fc)).setCell ⟨mb,2,none⟩ (.int .i64 m9)):=(((((((hb0.setCell (p:=⟨mb,4,none⟩) lr _).setCell (p:=⟨mb,5,none⟩) lr _).setCell (p:=⟨mb,6,none⟩) lr _).setCell (p:=⟨mb,7,none⟩) lr _).setCell (p:=⟨mb,8,none⟩) lr _).setCell (p:=⟨mb,9,none⟩) lr _).setCell (p:=⟨mb,2,none⟩) lr _)
 obtain⟨W9,hW9⟩:∃W9,W9=(((((((w4.setCell ⟨mb,4,none⟩ (.int .i64 c4.k)).setCell ⟨mb,5,none⟩ (.int .i64 c4.i)).setCell ⟨mb,6,none⟩ (.int .i64 c4.s)).setCell ⟨mb,7,none⟩ (.string c4.t)).setCell ⟨mb,8,none⟩ (.slice c4.la c4.ll c4.lc)).setCell ⟨mb,9,none⟩ (.slice c4.fa c4.fl c4.fc)).setCell ⟨mb,2,none⟩ (.int .i64 m9)):=⟨_,rfl⟩
 rw[←hW9] at hF hO hZ hB ⊢
 have hne1:mb+1≠mb:=by omega
 have gz:=(hO _ hne1).trans (aB HB4.out (show W3.drew.heap[mb+1]?=some (.cells #[.int .i64 0,.slice none 0 0,.int .i64 0,.slice none 0 0,.int .i64 0,.int .i64 0,.int .i64 0,.string ⟨#[]⟩,.slice none 0 0,.slice none 0 0] 68) from GO.out))
 have HF9:=hid hF;have HO9:=hid hO;have HZ9:=hid hZ;have HB9:=hid hB;have GZ9:=hid gz
 have d0:=aA hF 0
 have d1:=aA hF 1
 have d2:=aA hF 2
 have d3:=aA hF 3
 have d4:=aA hF 4
 have d5:=aA hF 5
 have d6:=aA hF 6
 have d7:=aA hF 7
 have d8:=aA hF 8
 have d9:=aA hF 9
 have z0:=aA gz 0
 have z1:=aA gz 1
 have z2:=aA gz 2
 have z3:=aA gz 3
 have z4:=aA gz 4
 have z5:=aA gz 5
 have z6:=aA gz 6
 have z7:=aA gz 7
 have z8:=aA gz 8
 have z9:=aA gz 9
 have y0:=aE gz 0
 have y1:=aE gz 1
 have y2:=aE gz 2
 have y3:=aE gz 3
 have y4:=aE gz 4
 have y5:=aE gz 5
 have y6:=aE gz 6
 have y7:=aE gz 7
 have y8:=aE gz 8
 have y9:=aE gz 9
 (try dsimp only at d0 z0 d1 z1 d2 z2 d3 z3 d4 z4 d5 z5 d6 z6 d7 z7 d8 z8 d9 z9)
 clear hW9 hF hO hZ hB gz hb0 GM4 GM8 hS k2 k4 k5 k6 k7 k8 k9 hne1
 go_wp2
 clear d0 z0 y0 d1 z1 y1 d2 z2 y2 d3 z3 y3 d4 z4 y4 d5 z5 y5 d6 z6 y6 d7 z7 y7 d8 z8 y8 d9 z9 y9
 have hF:=(aD (o:=9) (.slice c4.fa c4.fl c4.fc) (aD (o:=8) (.slice c4.la c4.ll c4.lc) (aD (o:=7) (.string c4.t) (aD (o:=6) (.int .i64 c4.s) (aD (o:=5) (.int .i64 c4.i) (aD (o:=4) (.int .i64 c4.k) (aD (o:=3) (.slice a2 qe cp2) (aD (o:=2) (.int .i64 m9) (aD (o:=1) (.slice a1 qs cp1) (aD (o:=0) (.int .i64 se) GZ9.out))))))))))
 simp only[List.setIfInBounds_toArray,List.set_cons_zero,List.set_cons_succ] at hF
 have hO:∀q,q≠mb+1→((((((((((W9.setCell ⟨mb+1,0,none⟩ (.int .i64 se)).setCell ⟨mb+1,1,none⟩ (.slice a1 qs cp1)).setCell ⟨mb+1,2,none⟩ (.int .i64 m9)).setCell ⟨mb+1,3,none⟩ (.slice a2 qe cp2)).setCell ⟨mb+1,4,none⟩ (.int .i64 c4.k)).setCell ⟨mb+1,5,none⟩ (.int .i64 c4.i)).setCell ⟨mb+1,6,none⟩ (.int .i64 c4.s)).setCell ⟨mb+1,7,none⟩ (.string c4.t)).setCell ⟨mb+1,8,none⟩ (.slice c4.la c4.ll c4.lc)).setCell ⟨mb+1,9,none⟩ (.slice c4.fa c4.fl c4.fc)).heap[q]?=W9.heap[q]?:=(fun q hq=>(Below.heap_setCell _ _ _ _ (by exact hq)).trans ((Below.heap_setCell _ _ _ _ (by exact hq)).trans ((Below.heap_setCell _ _ _ _ (by exact hq)).trans ((Below.heap_setCell _ _ _ _ (by exact hq)).trans ((Below.heap_setCell _ _ _ _ (by exact hq)).trans ((Below.heap_setCell _ _ _ _ (by exact hq)).trans ((Below.heap_setCell _ _ _ _ (by exact hq)).trans ((Below.heap_setCell _ _ _ _ (by exact hq)).trans ((Below.heap_setCell _ _ _ _ (by exact hq)).trans (Below.heap_setCell _ _ _ _ (by exact hq)))))))))))
 have hZ:((((((((((W9.setCell ⟨mb+1,0,none⟩ (.int .i64 se)).setCell ⟨mb+1,1,none⟩ (.slice a1 qs cp1)).setCell ⟨mb+1,2,none⟩ (.int .i64 m9)).setCell ⟨mb+1,3,none⟩ (.slice a2 qe cp2)).setCell ⟨mb+1,4,none⟩ (.int .i64 c4.k)).setCell ⟨mb+1,5,none⟩ (.int .i64 c4.i)).setCell ⟨mb+1,6,none⟩ (.int .i64 c4.s)).setCell ⟨mb+1,7,none⟩ (.string c4.t)).setCell ⟨mb+1,8,none⟩ (.slice c4.la c4.ll c4.lc)).setCell ⟨mb+1,9,none⟩ (.slice c4.fa c4.fl c4.fc)).heap.size=W9.heap.size:=by simp[World.setCell]
 have hB:Below mb w ((((((((((W9.setCell ⟨mb+1,0,none⟩ (.int .i64 se)).setCell ⟨mb+1,1,none⟩ (.slice a1 qs cp1)).setCell ⟨mb+1,2,none⟩ (.int .i64 m9)).setCell ⟨mb+1,3,none⟩ (.slice a2 qe cp2)).setCell ⟨mb+1,4,none⟩ (.int .i64 c4.k)).setCell ⟨mb+1,5,none⟩ (.int .i64 c4.i)).setCell ⟨mb+1,6,none⟩ (.int .i64 c4.s)).setCell ⟨mb+1,7,none⟩ (.string c4.t)).setCell ⟨mb+1,8,none⟩ (.slice c4.la c4.ll c4.lc)).setCell ⟨mb+1,9,none⟩ (.slice c4.fa c4.fl c4.fc)):=((((((((((HB9.out.setCell (p:=⟨mb+1,0,none⟩) (Nat.le_succ _) _).setCell (p:=⟨mb+1,1,none⟩) (Nat.le_succ _) _).setCell (p:=⟨mb+1,2,none⟩) (Nat.le_succ _) _).setCell (p:=⟨mb+1,3,none⟩) (Nat.le_succ _) _).setCell (p:=⟨mb+1,4,none⟩) (Nat.le_succ _) _).setCell (p:=⟨mb+1,5,none⟩) (Nat.le_succ _) _).setCell (p:=⟨mb+1,6,none⟩) (Nat.le_succ _) _).setCell (p:=⟨mb+1,7,none⟩) (Nat.le_succ _) _).setCell (p:=⟨mb+1,8,none⟩) (Nat.le_succ _) _).setCell (p:=⟨mb+1,9,none⟩) (Nat.le_succ _) _)
 obtain⟨Wf,hWf⟩:∃Wf,Wf=((((((((((W9.setCell ⟨mb+1,0,none⟩ (.int .i64 se)).setCell ⟨mb+1,1,none⟩ (.slice a1 qs cp1)).setCell ⟨mb+1,2,none⟩ (.int .i64 m9)).setCell ⟨mb+1,3,none⟩ (.slice a2 qe cp2)).setCell ⟨mb+1,4,none⟩ (.int .i64 c4.k)).setCell ⟨mb+1,5,none⟩ (.int .i64 c4.i)).setCell ⟨mb+1,6,none⟩ (.int .i64 c4.s)).setCell ⟨mb+1,7,none⟩ (.string c4.t)).setCell ⟨mb+1,8,none⟩ (.slice c4.la c4.ll c4.lc)).setCell ⟨mb+1,9,none⟩ (.slice c4.fa c4.fl c4.fc)):=⟨_,rfl⟩
 rw[←hWf] at hF hO hZ hB ⊢
 have h4s:=HB4.out.size
 have hz9:=HZ9.out;have hz3:=HZ3.out;have hmb:=HMB.out
 simp only[World.size_drew] at h4s
 have hk:∀q,q≠mb→q≠mb+1→Wf.heap[q]?=w4.heap[q]?:=fun q h1 h2=>(hO q h2).trans (HO9.out q h1)
 have hk3:∀q,q<W3.heap.size→q≠mb→q≠mb+1→Wf.heap[q]?=W3.heap[q]?:=fun q h0 h1 h2=>(hk q h1 h2).trans (HB4.out.block q h0)
 rw[hmb] at hB
 exact bodyPost_ret (v:=MC.v ⟨⟨se,a1,qs,cp1⟩,m9,a2,qe,cp2,c4⟩) (by simp[results,Tryz.results20,go_sem,aA hF]) rfl ⟨_,rfl,hB,⟨⟨HD.out.2.1,HD.out.2.2.1,HI1.out.same fun q hq=>⟨⟨hq.1,by omega⟩,hk3 q hq.2.1 hq.2.2.1 hq.2.2.2⟩⟩,HM9.out.1,HM9.out.2,HI2.out.same fun q hq=>⟨⟨hq.1,by omega⟩,hk3 q hq.2.1 hq.2.2.1 hq.2.2.2⟩,HI4.out.same fun q hq=>⟨⟨by have h1:=hq.1;simp only[World.size_drew] at h1;omega,by omega⟩,hk q (by have h1:=hq.1;simp only[World.size_drew] at h1;omega) (by have h1:=hq.1;simp only[World.size_drew] at h1;omega)⟩⟩⟩
end Go.Proofs.YteladbdfiannjaaGreatDoor
