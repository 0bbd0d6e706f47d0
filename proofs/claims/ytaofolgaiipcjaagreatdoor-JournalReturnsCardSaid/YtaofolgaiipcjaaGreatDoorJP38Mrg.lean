/-
  journal's reader: number and text, as JLaw's JR says. Conditions: the block holds a reader whose place lies in its text.
-/
import Derived.Test.YtaofolgaiipcjaaGreatDoorJP18Mrg
import Derived.Test.YtaofolgaiipcjaaGreatDoorJP28Mrg
import Derived.Test.YtaofolgaiipcjaaGreatDoorJP37Mrg
namespace Go.Proofs.YtaofolgaiipcjaaGreatDoor
set_option linter.unusedVariables false
set_option maxRecDepth 100000
set_option maxHeartbeats 16000000
set_option linter.unusedSimpArgs false
open Go Go.RowKit Go.Shelf
abbrev RT:TypeId:=95
abbrev jrA (s:ByteArray) (a e:Int):Array Value:=#[.string s,.int .i64 a,.int .i64 e]
structure IsJr (b:Nat) (s:ByteArray) (r:JR) (w:World):Prop where
 at_:w.heap[b]?=some (.cells (jrA s r.i r.e) RT)
 ok:r.i≤s.size
theorem IsJr.lt {b:Nat} {s:ByteArray} {r:JR} {w:World} (h:IsJr b s r w):b<w.heap.size:=ltOf h.at_
theorem jnum_ok {s:ByteArray} {r:JR} (h:r.i≤s.size):(r.num s).2.i≤s.size∧r.i≤(r.num s).2.i:=by
 unfold JR.num
 split
 ·exact⟨h,Nat.le_refl _⟩
 ·split
  ·exact⟨h,Nat.le_refl _⟩
  ·rename_i n k hk
   have:=(tkGo_ok 9 0 0 _ n k hk).2
   have hl:(s.data.toList.drop r.i).length=s.size-r.i:=by rw[List.length_drop];rfl
   dsimp only
   omega
theorem jnum_nat {s:ByteArray} {r:JR}:0≤(r.num s).1∧(r.num s).1≤mostN:=by
 unfold JR.num
 split
 ·exact⟨Int.le_refl _,by show(0:Int)≤((4611686018427387903:Nat):Int);decide⟩
 ·split
  ·exact⟨Int.le_refl _,by show(0:Int)≤((4611686018427387903:Nat):Int);decide⟩
  ·rename_i n k hk
   have:=(tkGo_ok 9 0 0 _ n k hk).1
   dsimp only
   omega
theorem set_heapJ {W:World} {b i:Nat} {v:Value} {cur:Array Value} {t:TypeId} {fr:Nat × Nat} (h:W.heap[b]?=some (.cells cur t fr)):(W.setCell ⟨b,i,none⟩ v).heap[b]?=some (.cells (cur.setIfInBounds i v) t fr):=by
 simp[World.setCell,Array.getElem?_modify,h]
theorem grown_set {w w':World} {b i:Nat} {v:Value} (h:w.grownBy w' (some b)):w.grownBy (w'.setCell ⟨b,i,none⟩ v) (some b) :=
 ⟨h.os,h.tape,h.output,by rw[World.size_setCell];exact h.size,fun k hk hne=>(Below.heap_setCell _ _ _ _ (fun e=>hne (by rw[e]))).trans (h.block k hk hne)⟩
theorem grown_below {w w':World} {b:Nat} (h:Below w.heap.size w w'):w.grownBy w' (some b):=⟨h.os,h.tape,h.output,h.size,fun k hk _=>h.block k hk⟩
theorem grown_drew {w w':World} {r:Option Nat} (h:w.grownBy w' r):w.grownBy w'.drew r:=⟨h.os,h.tape,h.output,h.size,h.block⟩
theorem rNum_call (b:Nat) (s:ByteArray) (r:JR) (hs:s.size≤140737488351232) (w:World) (h:IsJr b s r w) :
 Calls Tryz.prog 49 #[.pointer (some ⟨b,0,none⟩)] w fun x w'=>x=.returned (.int .i64 (r.num s).1)∧IsJr b s (r.num s).2 w'∧w.grownBy w' (some b):=by
 have hr:=h.at_
 have c2:=cellOf hr 2
 have hok:=(jnum_ok h.ok).1
 have HR:=hid hr
 have HH:=hid h
 have HOK:=hid hok
 by_cases h0:r.e=0
 ·have q0:(r.e != 0)=false:=by simp[h0]
  have HTK:=hid (tTake_call s r.i h.ok hs)
  have HC:=hid (fun (w':World) (h:w'.heap[b]?=some (.cells (jrA s r.i r.e) RT)∧Below w.heap.size w w')=>(show w'.cell? ⟨b,0,none⟩=some (.string s)∧w'.cell? ⟨b,1,none⟩=some (.int .i64 (r.i:Int)) from⟨cellOf h.1 0,cellOf h.1 1⟩))
  have hnum:r.num s=match tkGo 9 0 0 (s.data.toList.drop r.i) with
   | .inl e=>(0,⟨r.i,e⟩)
   | .inr (n,k)=>(n,⟨r.i+k,0⟩):=by unfold JR.num;rw[if_neg (by simp[h0])];rfl
  unfold takeF at HTK
  rcases hr':tkGo 9 0 0 (s.data.toList.drop r.i) with e | ⟨n,k⟩
  ·rw[hr'] at HTK hnum
   have he:e=3∨e=29:=tkGo_err 9 0 0 _ e hr'
   have q2:(e != 0)=true:=by rcases he with rfl | rfl<;>rfl
   have HNUM:=hid hnum
   clear hr hok h he hr' hnum h0
   go_enter Tryz.func49,Tryz.ntmps49
   go_upto_region 3 with (fail)
   refine wp_region_held_drew (S:=(fun w'=>w'.heap[b]?=some (.cells (jrA s r.i r.e) RT)∧Below w.heap.size w w')) (by kernel_rfl) (⟨HR.out,(Below.refl _ _).drew⟩) (fun hS=>?_)
   refine tkQ 0 (v:=?_) ?_ hS ?_;rotate_left;· intro w' hw';have hcells:=HC.out w' hw';go_simp;(try with_reducible rfl)
   simp only[Act.put,pt1,pt2,pt3,pt4,pt5,pt6]
   refine tkQ 1 (v:=?_) ?_ hS ?_;rotate_left;· intro w' hw';have hcells:=HC.out w' hw';go_simp;(try with_reducible rfl)
   simp only[Act.put,pt1,pt2,pt3,pt4,pt5,pt6]
   refine tkQ 2 (v:=?_) ?_ hS ?_;rotate_left;· intro w' hw';have hcells:=HC.out w' hw';go_simp;(try with_reducible rfl)
   simp only[Act.put,pt1,pt2,pt3,pt4,pt5,pt6]
   refine tkQ 3 (v:=?_) ?_ hS ?_;rotate_left;· intro w' hw';have hcells:=HC.out w' hw';go_simp;(try with_reducible rfl)
   simp only[Act.put,pt1,pt2,pt3,pt4,pt5,pt6]
   refine tkQ 4 (v:=?_) ?_ hS ?_;rotate_left;· intro w' hw';have hcells:=HC.out w' hw';go_simp;(try with_reducible rfl)
   simp only[Act.put,pt1,pt2,pt3,pt4,pt5,pt6]
   refine tkQ 5 (v:=?_) ?_ hS ?_;rotate_left;· intro w' hw';have hcells:=HC.out w' hw';go_simp;(try with_reducible rfl)
   simp only[Act.put,pt1,pt2,pt3,pt4,pt5,pt6]
   refine tkQ 6 (v:=?_) ?_ hS ?_;rotate_left;· intro w' hw';have hcells:=HC.out w' hw';go_simp;(try with_reducible rfl)
   simp only[Act.put,pt1,pt2,pt3,pt4,pt5,pt6]
   refine tkQ 7 (v:=?_) ?_ hS ?_;rotate_left;· intro w' hw';have hcells:=HC.out w' hw';go_simp;(try with_reducible rfl)
   simp only[Act.put,pt1,pt2,pt3,pt4,pt5,pt6]
   refine wpAnyH_ready (rs:=[8]) (by kernel_rfl) (by simp) ?_
   refine AllReadyH.cons (o:=_) rfl (fun K hK=>?_) AllReadyH.nil
   go_simp;go_at_call 154;refine(HTK.out _).mono ?_
   rintro e w3 ⟨rfl,hb3⟩
   try dsimp only
   refine hK.out _ _ (⟨(hb3.block b (ltOf hS.1)).trans hS.1,hS.2.trans (hb3.mono hS.2.size)⟩) (fun hS=>?_)
   clear hK K
   (try simp only[Act.put,pt1,pt2,pt3,pt4,pt5,pt6])
   refine tkQ 9 (v:=?_) ?_ hS ?_;rotate_left;· intro w' hw';have hcells:=HC.out w' hw';go_simp;(try with_reducible rfl)
   simp only[Act.put,pt1,pt2,pt3,pt4,pt5,pt6]
   refine tkQ 10 (v:=?_) ?_ hS ?_;rotate_left;· intro w' hw';have hcells:=HC.out w' hw';go_simp;(try with_reducible rfl)
   simp only[Act.put,pt1,pt2,pt3,pt4,pt5,pt6]
   refine tkQ 11 (v:=?_) ?_ hS ?_;rotate_left;· intro w' hw';have hcells:=HC.out w' hw';go_simp;(try with_reducible rfl)
   simp only[Act.put,pt1,pt2,pt3,pt4,pt5,pt6]
   refine tkQ 12 (v:=?_) ?_ hS ?_;rotate_left;· intro w' hw';have hcells:=HC.out w' hw';go_simp;(try with_reducible rfl)
   simp only[Act.put,pt1,pt2,pt3,pt4,pt5,pt6]
   refine tkQ 13 (v:=?_) ?_ hS ?_;rotate_left;· intro w' hw';have hcells:=HC.out w' hw';go_simp;(try with_reducible rfl)
   simp only[Act.put,pt1,pt2,pt3,pt4,pt5,pt6]
   refine tkQ 14 (v:=?_) ?_ hS ?_;rotate_left;· intro w' hw';have hcells:=HC.out w' hw';go_simp;(try with_reducible rfl)
   simp only[Act.put,pt1,pt2,pt3,pt4,pt5,pt6]
   refine tkQ 15 (v:=?_) ?_ hS ?_;rotate_left;· intro w' hw';have hcells:=HC.out w' hw';go_simp;(try with_reducible rfl)
   simp only[Act.put,pt1,pt2,pt3,pt4,pt5,pt6]
   refine wpAnyH_done (by kernel_rfl) ?_ _
   (try dsimp only)
   have hR:=hS.1
   have f2:=freeOf hR 2
   have d2:=cellOf hR 2
   (try dsimp only at d2)
   have HS:=hid hS
   clear hS hR
   go_wp2
   refine bodyPost_ret (v:=.int .i64 0) (by simp[results,Tryz.results49,go_sem]) rfl ?_
   rw[HNUM.out]
   exact⟨rfl,⟨set_heapJ HS.out.1,HH.out.ok⟩,grown_set (grown_below HS.out.2)⟩
  ·rw[hr'] at HTK hnum
   have HNUM:=hid hnum
   clear hr hok h hr' hnum h0
   go_enter Tryz.func49,Tryz.ntmps49
   go_upto_region 3 with (fail)
   refine wp_region_held_drew (S:=(fun w'=>w'.heap[b]?=some (.cells (jrA s r.i r.e) RT)∧Below w.heap.size w w')) (by kernel_rfl) (⟨HR.out,(Below.refl _ _).drew⟩) (fun hS=>?_)
   refine tkQ 0 (v:=?_) ?_ hS ?_;rotate_left;· intro w' hw';have hcells:=HC.out w' hw';go_simp;(try with_reducible rfl)
   simp only[Act.put,pt1,pt2,pt3,pt4,pt5,pt6]
   refine tkQ 1 (v:=?_) ?_ hS ?_;rotate_left;· intro w' hw';have hcells:=HC.out w' hw';go_simp;(try with_reducible rfl)
   simp only[Act.put,pt1,pt2,pt3,pt4,pt5,pt6]
   refine tkQ 2 (v:=?_) ?_ hS ?_;rotate_left;· intro w' hw';have hcells:=HC.out w' hw';go_simp;(try with_reducible rfl)
   simp only[Act.put,pt1,pt2,pt3,pt4,pt5,pt6]
   refine tkQ 3 (v:=?_) ?_ hS ?_;rotate_left;· intro w' hw';have hcells:=HC.out w' hw';go_simp;(try with_reducible rfl)
   simp only[Act.put,pt1,pt2,pt3,pt4,pt5,pt6]
   refine tkQ 4 (v:=?_) ?_ hS ?_;rotate_left;· intro w' hw';have hcells:=HC.out w' hw';go_simp;(try with_reducible rfl)
   simp only[Act.put,pt1,pt2,pt3,pt4,pt5,pt6]
   refine tkQ 5 (v:=?_) ?_ hS ?_;rotate_left;· intro w' hw';have hcells:=HC.out w' hw';go_simp;(try with_reducible rfl)
   simp only[Act.put,pt1,pt2,pt3,pt4,pt5,pt6]
   refine tkQ 6 (v:=?_) ?_ hS ?_;rotate_left;· intro w' hw';have hcells:=HC.out w' hw';go_simp;(try with_reducible rfl)
   simp only[Act.put,pt1,pt2,pt3,pt4,pt5,pt6]
   refine tkQ 7 (v:=?_) ?_ hS ?_;rotate_left;· intro w' hw';have hcells:=HC.out w' hw';go_simp;(try with_reducible rfl)
   simp only[Act.put,pt1,pt2,pt3,pt4,pt5,pt6]
   refine wpAnyH_ready (rs:=[8]) (by kernel_rfl) (by simp) ?_
   refine AllReadyH.cons (o:=_) rfl (fun K hK=>?_) AllReadyH.nil
   go_simp;go_at_call 154;refine(HTK.out _).mono ?_
   rintro e w3 ⟨rfl,hb3⟩
   try dsimp only
   refine hK.out _ _ (⟨(hb3.block b (ltOf hS.1)).trans hS.1,hS.2.trans (hb3.mono hS.2.size)⟩) (fun hS=>?_)
   clear hK K
   (try simp only[Act.put,pt1,pt2,pt3,pt4,pt5,pt6])
   refine tkQ 9 (v:=?_) ?_ hS ?_;rotate_left;· intro w' hw';have hcells:=HC.out w' hw';go_simp;(try with_reducible rfl)
   simp only[Act.put,pt1,pt2,pt3,pt4,pt5,pt6]
   refine tkQ 10 (v:=?_) ?_ hS ?_;rotate_left;· intro w' hw';have hcells:=HC.out w' hw';go_simp;(try with_reducible rfl)
   simp only[Act.put,pt1,pt2,pt3,pt4,pt5,pt6]
   refine tkQ 11 (v:=?_) ?_ hS ?_;rotate_left;· intro w' hw';have hcells:=HC.out w' hw';go_simp;(try with_reducible rfl)
   simp only[Act.put,pt1,pt2,pt3,pt4,pt5,pt6]
   refine tkQ 12 (v:=?_) ?_ hS ?_;rotate_left;· intro w' hw';have hcells:=HC.out w' hw';go_simp;(try with_reducible rfl)
   simp only[Act.put,pt1,pt2,pt3,pt4,pt5,pt6]
   refine tkQ 13 (v:=?_) ?_ hS ?_;rotate_left;· intro w' hw';have hcells:=HC.out w' hw';go_simp;(try with_reducible rfl)
   simp only[Act.put,pt1,pt2,pt3,pt4,pt5,pt6]
   refine tkQ 14 (v:=?_) ?_ hS ?_;rotate_left;· intro w' hw';have hcells:=HC.out w' hw';go_simp;(try with_reducible rfl)
   simp only[Act.put,pt1,pt2,pt3,pt4,pt5,pt6]
   refine tkQ 15 (v:=?_) ?_ hS ?_;rotate_left;· intro w' hw';have hcells:=HC.out w' hw';go_simp;(try with_reducible rfl)
   simp only[Act.put,pt1,pt2,pt3,pt4,pt5,pt6]
   refine wpAnyH_done (by kernel_rfl) ?_ _
   (try dsimp only)
   have hR:=hS.1
   have f1:=freeOf hR 1
   have d1:=cellOf hR 1
   (try dsimp only at d1)
   have HS:=hid hS
   clear hS hR
   go_wp2
   refine bodyPost_ret (v:=.int .i64 n) (by simp[results,Tryz.results49,go_sem]) rfl ?_
   rw[HNUM.out] at HOK ⊢
   have q0':r.e=0:=by simpa using q0
   have hx:=set_heapJ (i:=1) (v:=.int .i64 ((r.i+k:Nat):Int)) HS.out.1
   rw[q0'] at hx
   exact⟨rfl,⟨hx,HOK.out⟩,grown_set (grown_below HS.out.2)⟩
 ·have q0:(r.e != 0)=true:=by simp[h0]
  have hnum:r.num s=(0,r):=by unfold JR.num;rw[if_pos h0]
  have HNUM:=hid hnum
  clear hr hok h hnum h0
  go_enter Tryz.func49,Tryz.ntmps49
  go_wp2
  refine bodyPost_ret (v:=.int .i64 0) (by simp[results,Tryz.results49,go_sem]) rfl ?_
  rw[HNUM.out]
  exact⟨rfl,HH.out,grown_below (Below.refl _ _)⟩
theorem jtext_ok {s:ByteArray} {r:JR} (h:r.i≤s.size):(r.text s).2.i≤s.size:=by
 have h1:=(jnum_ok h).1
 have h2:=(jnum_nat (s:=s) (r:=r)).1
 unfold JR.text
 split
 ·exact h1
 ·split
  ·exact h1
  ·rename_i h3
   dsimp only
   omega
theorem rText_call (b:Nat) (s:ByteArray) (r:JR) (hs:s.size≤140737488351232) (w:World) (h:IsJr b s r w) :
 Calls Tryz.prog 141 #[.pointer (some ⟨b,0,none⟩)] w fun x w'=>x=.returned (.string (r.text s).1)∧IsJr b s (r.text s).2 w'∧w.grownBy w' (some b):=by
 have HN:=hid (rNum_call b s r hs w h)
 have hok:=jtext_ok h.ok
 have HOK:=hid hok
 have hn0:=(jnum_nat (s:=s) (r:=r)).1
 have hnm:(r.num s).1≤4611686018427387903:=(jnum_nat (s:=s) (r:=r)).2
 have hi:=(jnum_ok h.ok).1
 obtain⟨T,hT⟩:∃T,T=r.text s:=⟨_,rfl⟩
 have hT2:=hT
 unfold JR.text at hT2
 rw[←hT] at HOK ⊢
 obtain⟨q,hq⟩:∃q,q=r.num s:=⟨_,rfl⟩
 rw[←hq] at HN hT2 hn0 hnm hi
 obtain⟨z,m,e⟩:=q
 obtain⟨n,rfl⟩:∃n:Nat,z=n:=⟨z.toNat,by dsimp only at hn0;omega⟩
 dsimp only at HN hT2 hnm hi
 have hm:(m:Int)≤140737488351232:=by omega
 have HTT:=hid hT2
 clear hT hq hn0 hok h hT2
 by_cases h0:e=0
 ·subst h0
  by_cases h1:(s.size:Int)-(m:Int)<(n:Int)
  ·have HT:=hid (show T=(⟨#[]⟩,⟨m,29⟩) by rw[HTT.out,if_neg (by simp),if_pos h1])
   clear HTT
   go_enter Tryz.func141,Tryz.ntmps141
   go_upto_region 2 with (go_at_call 49;refine HN.out.mono ?_;rintro x w1 ⟨rfl,h2,hg2⟩;have H2:=hid h2;have HG2:=hid hg2;have c0:=cellOf h2.at_ 0;have c1:=cellOf h2.at_ 1;have c2:=cellOf h2.at_ 2;have f2:=freeOf h2.at_ 2;clear h2 hg2)
   (try dsimp only at c0 c1 c2)
   go_region
   all_goals (
    go_wp2
    refine bodyPost_ret (v:=.string ⟨#[]⟩) (by simp[results,Tryz.results141,go_sem]) rfl ?_
    rw[HT.out]
    exact⟨rfl,⟨set_heapJ (b:=b) (i:=2) (show w1.drew.heap[b]?=_ from H2.out.at_),H2.out.ok⟩,grown_set (grown_drew HG2.out)⟩)
  ·obtain⟨t,ht⟩:∃t:Nat,t=m+n:=⟨_,rfl⟩
   have HT:=hid (show T=(s.extract m t,⟨t,0⟩) by rw[HTT.out,if_neg (by simp),if_neg h1,ht];rfl)
   have e0:(m:Int)+(n:Int)=(t:Int):=by omega
   have e1:(t:Int)-(n:Int)=(m:Int):=by omega
   have e2:(m:Int)≤(t:Int):=by omega
   have e3:(t:Int)≤(s.size:Int):=by omega
   have e4:m≤t:=by omega
   have e5:t≤s.size:=by omega
   have HS:=hid ht
   clear HTT ht
   go_enter Tryz.func141,Tryz.ntmps141
   go_upto_region 2 with (go_at_call 49;refine HN.out.mono ?_;rintro x w1 ⟨rfl,h2,hg2⟩;have H2:=hid h2;have HG2:=hid hg2;have c0:=cellOf h2.at_ 0;have c1:=cellOf h2.at_ 1;have c2:=cellOf h2.at_ 2;have f1:=freeOf h2.at_ 1;clear h2 hg2)
   (try dsimp only at c0 c1 c2)
   go_region
   all_goals (
    go_upto_region 7 with (fail)
    go_region
    all_goals (
     go_wp2
     refine bodyPost_ret (v:=.string (s.extract m t)) (by simp[results,Tryz.results141,go_sem]) rfl ?_
     rw[HT.out]
     exact⟨rfl,⟨set_heapJ (b:=b) (i:=1) (show w1.heap[b]?=_ from H2.out.at_),e5⟩,grown_drew (grown_drew (grown_set HG2.out))⟩))
 ·have q0:(e==0)=false:=by simp[h0]
  have q1:(e != 0)=true:=by simp[h0]
  have HT:=hid (show T=(⟨#[]⟩,⟨m,e⟩) by rw[HTT.out,if_pos h0])
  clear HTT h0
  go_enter Tryz.func141,Tryz.ntmps141
  go_upto_region 2 with (go_at_call 49;refine HN.out.mono ?_;rintro x w1 ⟨rfl,h2,hg2⟩;have H2:=hid h2;have HG2:=hid hg2;have c0:=cellOf h2.at_ 0;have c1:=cellOf h2.at_ 1;have c2:=cellOf h2.at_ 2;clear h2 hg2)
  (try dsimp only at c0 c1 c2)
  go_region
  all_goals (
   go_wp2
   refine bodyPost_ret (v:=.string ⟨#[]⟩) (by simp[results,Tryz.results141,go_sem]) rfl ?_
   rw[HT.out]
   exact⟨rfl,⟨H2.out.at_,H2.out.ok⟩,(grown_drew HG2.out)⟩)
end Go.Proofs.YtaofolgaiipcjaaGreatDoor
