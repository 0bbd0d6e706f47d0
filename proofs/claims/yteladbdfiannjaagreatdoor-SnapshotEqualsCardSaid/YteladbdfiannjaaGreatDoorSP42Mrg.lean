/-
  manifoldlaw47.SameEffects. Condition: both lists can be read as data.
-/
import Derived.Test.YteladbdfiannjaaGreatDoorSP40Mrg
import Derived.Test.YteladbdfiannjaaGreatDoorSP41Mrg
namespace Go.Proofs.YteladbdfiannjaaGreatDoor
set_option linter.unusedVariables false
set_option maxRecDepth 100000
set_option maxHeartbeats 64000000
set_option linter.unusedSimpArgs false
open Go Go.RowKit Go.Shelf
theorem infoEf18:(Tryz.prog.info? 75).map (fun i=>(i.zero,i.size))=some (some (.agg #[.int .i64 0,.string ByteArray.empty,.int .i64 0,.string ByteArray.empty,.int .i64 0,.slice none 0 0,.int .i64 0,.slice none 0 0,.string ByteArray.empty,.int .i64 0,.bool false,.int .i64 0,.int .i64 0,.int .i64 0,.string ByteArray.empty,.slice none 0 0,.slice none 0 0,.string ByteArray.empty]),18):=by kernel_rfl
section
attribute [-go_sem] loadCellsFrom storeCells
attribute [local go_sem] lcf0 lcf1 lcf2 lcf3 lcf4 lcf5 lcf6 lcf7 lcf8 lcf9 lcf10 lcf11 stc0 stc1
theorem sameEffects_call (a a2:Option Addr) (n c n2 c2:Nat) (l l2:List Ef) (w:World) (hd:IsRow efK (· < w.heap.size) w a n c l) (hd2:IsRow efK (· < w.heap.size) w a2 n2 c2 l2) :
 Calls Tryz.prog 54 #[.slice a n c,.slice a2 n2 c2] w fun e w'=>e=.returned (.bool (eqL efEqS l l2))∧Below w.heap.size w w':=by
 have hbig:=hd.big
 have hbig2:=hd2.big
 have HL:=hid hd.len
 have HL2:=hid hd2.len
 have HD:=hid hd
 have HD2:=hid hd2
 clear hd hd2
 go_enter Tryz.func54,Tryz.ntmps54
 by_cases q2:n=n2
 ·subst q2
  go_wp2
  go_loopw [5] (fun i wr=>∃k:Nat,k≤n∧i=.int .i64 k∧(∀j (h1:j<l.length) (h2:j<l2.length),j<k→efEqS l[j] l2[j]=true)∧Below w.heap.size w wr) (fun i _=>n-(intOf i).toNat)
  case atStart=>exact⟨0,Nat.zero_le _,rfl,fun j _ _ h=>absurd h (Nat.not_lt_zero j),Below.refl _ _⟩
  case round =>
   obtain⟨k,hk,rfl,hall,hbr⟩:=hrel
   obtain⟨wp,rfl⟩:∃w1:World,w1=wr:=⟨_,rfl⟩
   have HBR:=hid hbr
   have hn63:(n:Int)≤9223372036854775807:=by have:n * 248≤140737488351232:=hbig;omega
   by_cases hlt:k<n
   ·have hkl:k<l.length:=by have:=HL.out;omega
    have hkl2:k<l2.length:=by have:=HL2.out;omega
    obtain⟨b,o,rfl,hb,hx⟩:=HD.out.slot (show 0<n by omega)
    obtain⟨b2,o2,rfl,hb2,hy⟩:=HD2.out.slot (show 0<n by omega)
    obtain⟨x,hxa,hxi⟩:=hx k hkl
    obtain⟨y,hya,hyi⟩:=hy k hkl2
    have HNE:Hid (efEqS l[k] l2[k]=false→eqL efEqS l l2=false):=hid (fun h=>eqL_ne k hkl hkl2 h)
    have HTR:Hid (efEqS l[k] l2[k]=true→∀j (h1:j<l.length) (h2:j<l2.length),j<k+1→efEqS l[j] l2[j]=true):=hid (fun hv j h1 h2 h=>by
     by_cases hjk:j<k
     ·exact hall j h1 h2 hjk
     ·obtain rfl:j=k:=by omega
      exact hv)
    obtain⟨dx,hdx⟩:∃dx,dx=l[k]:=⟨_,rfl⟩
    obtain⟨dy,hdy⟩:∃dy,dy=l2[k]:=⟨_,rfl⟩
    rw[←hdx] at hxi HNE HTR
    rw[←hdy] at hyi HNE HTR
    have hlt':(k:Int)<(n:Int):=by omega
    have hk0:(0:Int)≤(k:Int):=by omega
    obtain⟨u,hu⟩:∃u,u=stEqB dx.st dy.st:=⟨_,rfl⟩
    obtain⟨v,hv⟩:∃v,v=reqEqB dx dy:=⟨_,rfl⟩
    have HE:=hid (show efEqS dx dy=(decide (x.k=y.k)&&((x.nm.toList==y.nm.toList)&&(decide (x.nu=y.nu)&&((x.tx.toList==y.tx.toList)&&(u&&(v&&(x.nd.toList==y.nd.toList))))))) by rw[efEqS,hu,hv,hxi.k,hyi.k,hxi.nm,hyi.nm,hxi.nu,hyi.nu,hxi.tx,hyi.tx,hxi.nd,hyi.nd])
    have hq:∀w1,Below wp.heap.size wp w1→∀b,b<w.heap.size→b<w1.heap.size∧w1.heap[b]?=w.heap[b]?:=fun w1 h b hb=>⟨by have h1:=h.size;have h2:=hbr.size;omega,(h.block b (by have h2:=hbr.size;omega)).trans (hbr.block b hb)⟩
    have HSTG:=hid (fun (w1:World) (h:Below wp.heap.size wp w1)=>(show Calls Tryz.prog 45 #[x.st.v,y.st.v] w1 fun e w'=>e=.returned (.bool u)∧Below w1.heap.size w1 w' from by rw[hu];exact stEqual_call _ _ _ _ w1 (hxi.st.same (hq w1 h)) (hyi.st.same (hq w1 h))))
    have HRQG:=hid (fun (w1:World) (h:Below wp.heap.size wp w1)=>(show Calls Tryz.prog 120 #[.slice (some ⟨w1.heap.size,0,none⟩) 1 1,.slice (some ⟨w1.heap.size+1,0,none⟩) 1 1] ((w1.alloc (.cells #[.int .i64 x.rs.e,.slice x.rs.a x.rs.n x.rs.c,.string x.sv,.int .i64 x.ca,.bool x.un,.int .i64 x.bd.k,.int .i64 x.bd.i,.int .i64 x.bd.s,.string x.bd.t,.slice x.bd.la x.bd.ll x.bd.lc,.slice x.bd.fa x.bd.fl x.bd.fc] 73)).alloc (.cells #[.int .i64 y.rs.e,.slice y.rs.a y.rs.n y.rs.c,.string y.sv,.int .i64 y.ca,.bool y.un,.int .i64 y.bd.k,.int .i64 y.bd.i,.int .i64 y.bd.s,.string y.bd.t,.slice y.bd.la y.bd.ll y.bd.lc,.slice y.bd.fa y.bd.fl y.bd.fc] 73)) fun e w'=>e=.returned (.bool v)∧Below ((w1.alloc (.cells #[.int .i64 x.rs.e,.slice x.rs.a x.rs.n x.rs.c,.string x.sv,.int .i64 x.ca,.bool x.un,.int .i64 x.bd.k,.int .i64 x.bd.i,.int .i64 x.bd.s,.string x.bd.t,.slice x.bd.la x.bd.ll x.bd.lc,.slice x.bd.fa x.bd.fl x.bd.fc] 73)).alloc (.cells #[.int .i64 y.rs.e,.slice y.rs.a y.rs.n y.rs.c,.string y.sv,.int .i64 y.ca,.bool y.un,.int .i64 y.bd.k,.int .i64 y.bd.i,.int .i64 y.bd.s,.string y.bd.t,.slice y.bd.la y.bd.ll y.bd.lc,.slice y.bd.fa y.bd.fl y.bd.fc] 73)).heap.size ((w1.alloc (.cells #[.int .i64 x.rs.e,.slice x.rs.a x.rs.n x.rs.c,.string x.sv,.int .i64 x.ca,.bool x.un,.int .i64 x.bd.k,.int .i64 x.bd.i,.int .i64 x.bd.s,.string x.bd.t,.slice x.bd.la x.bd.ll x.bd.lc,.slice x.bd.fa x.bd.fl x.bd.fc] 73)).alloc (.cells #[.int .i64 y.rs.e,.slice y.rs.a y.rs.n y.rs.c,.string y.sv,.int .i64 y.ca,.bool y.un,.int .i64 y.bd.k,.int .i64 y.bd.i,.int .i64 y.bd.s,.string y.bd.t,.slice y.bd.la y.bd.ll y.bd.lc,.slice y.bd.fa y.bd.fl y.bd.fc] 73)) w' from by
     rw[hv]
     have hb2:Below w1.heap.size w1 ((w1.alloc (.cells #[.int .i64 x.rs.e,.slice x.rs.a x.rs.n x.rs.c,.string x.sv,.int .i64 x.ca,.bool x.un,.int .i64 x.bd.k,.int .i64 x.bd.i,.int .i64 x.bd.s,.string x.bd.t,.slice x.bd.la x.bd.ll x.bd.lc,.slice x.bd.fa x.bd.fl x.bd.fc] 73)).alloc (.cells #[.int .i64 y.rs.e,.slice y.rs.a y.rs.n y.rs.c,.string y.sv,.int .i64 y.ca,.bool y.un,.int .i64 y.bd.k,.int .i64 y.bd.i,.int .i64 y.bd.s,.string y.bd.t,.slice y.bd.la y.bd.ll y.bd.lc,.slice y.bd.fa y.bd.fl y.bd.fc] 73)):=((Below.refl _ w1).alloc (Nat.le_refl _) _).alloc (by simp) _
     have h2:=hq _ (h.trans (hb2.mono h.size))
     exact sameReq_call x y dx dy _ _ _ _ _ (hxi.same h2) (hyi.same h2) (heapAlloc _ (heap_alloc_new w1 _)) (heapNewAt _ _ _ (by simp))))
    dsimp only[SC.v] at HSTG
    have HC6:=hid (fun (w':World) (h:Below wp.heap.size wp w')=>(show(loadCellsFrom ⟨b,o+k * 18,none⟩ 0 18 #[]).run Tryz.prog w'=.ok #[.int .i64 x.k,.string x.nm,.int .i64 x.nu,.string x.tx,.int .i64 x.st.e,.slice x.st.a x.st.n x.st.c,.int .i64 x.rs.e,.slice x.rs.a x.rs.n x.rs.c,.string x.sv,.int .i64 x.ca,.bool x.un,.int .i64 x.bd.k,.int .i64 x.bd.i,.int .i64 x.bd.s,.string x.bd.t,.slice x.bd.la x.bd.ll x.bd.lc,.slice x.bd.fa x.bd.fl x.bd.fc,.string x.nd] w'∧(loadCellsFrom ⟨b2,o2+k * 18,none⟩ 0 18 #[]).run Tryz.prog w'=.ok #[.int .i64 y.k,.string y.nm,.int .i64 y.nu,.string y.tx,.int .i64 y.st.e,.slice y.st.a y.st.n y.st.c,.int .i64 y.rs.e,.slice y.rs.a y.rs.n y.rs.c,.string y.sv,.int .i64 y.ca,.bool y.un,.int .i64 y.bd.k,.int .i64 y.bd.i,.int .i64 y.bd.s,.string y.bd.t,.slice y.bd.la y.bd.ll y.bd.lc,.slice y.bd.fa y.bd.fl y.bd.fc,.string y.nd] w' from⟨ld_ef (o:=o+k * 18) (hxa.same (hq w' h b hb).2),ld_ef (o:=o2+k * 18) (hya.same (hq w' h b2 hb2).2)⟩))
    clear hu hv hq hdx hdy hx hy hb hb2 hxa hya hxi hyi hall hbr hkl hkl2
    go_upto_region 6 with (fail)
    go_cut [6,7] (fun v6 v7 wz=>∃p q,v6=.pointer (some ⟨p,0,none⟩)∧v7=.pointer (some ⟨q,0,none⟩)∧wz.heap[p]?=some (.cells #[.int .i64 x.k,.string x.nm,.int .i64 x.nu,.string x.tx,.int .i64 x.st.e,.slice x.st.a x.st.n x.st.c,.int .i64 x.rs.e,.slice x.rs.a x.rs.n x.rs.c,.string x.sv,.int .i64 x.ca,.bool x.un,.int .i64 x.bd.k,.int .i64 x.bd.i,.int .i64 x.bd.s,.string x.bd.t,.slice x.bd.la x.bd.ll x.bd.lc,.slice x.bd.fa x.bd.fl x.bd.fc,.string x.nd] 75)∧wz.heap[q]?=some (.cells #[.int .i64 y.k,.string y.nm,.int .i64 y.nu,.string y.tx,.int .i64 y.st.e,.slice y.st.a y.st.n y.st.c,.int .i64 y.rs.e,.slice y.rs.a y.rs.n y.rs.c,.string y.sv,.int .i64 y.ca,.bool y.un,.int .i64 y.bd.k,.int .i64 y.bd.i,.int .i64 y.bd.s,.string y.bd.t,.slice y.bd.la y.bd.ll y.bd.lc,.slice y.bd.fa y.bd.fl y.bd.fc,.string y.nd] 75)∧Below wp.heap.size wp wz)
    case first =>
     refine wp_region_held_drew (S:=(fun w'=>Below wp.heap.size wp w')) (by kernel_rfl) ((Below.refl _ _).drew) (fun hS=>?_)
     refine tkQ 0 (v:=?_) ?_ hS ?_;rotate_left;· intro w' hw';have hcells:=HC6.out w' hw';go_simp;(try with_reducible rfl)
     simp only[Act.put,pt1,pt2,pt3,pt4,pt5,pt6]
     refine tkQ 1 (v:=?_) ?_ hS ?_;rotate_left;· intro w' hw';have hcells:=HC6.out w' hw';go_simp;(try with_reducible rfl)
     simp only[Act.put,pt1,pt2,pt3,pt4,pt5,pt6]
     refine tkQ 2 (v:=?_) ?_ hS ?_;rotate_left;· intro w' hw';have hcells:=HC6.out w' hw';go_simp;(try with_reducible rfl)
     simp only[Act.put,pt1,pt2,pt3,pt4,pt5,pt6]
     refine tkQ 3 (v:=?_) ?_ hS ?_;rotate_left;· intro w' hw';have hcells:=HC6.out w' hw';go_simp;(try with_reducible rfl)
     simp only[Act.put,pt1,pt2,pt3,pt4,pt5,pt6]
     refine tkQ 4 (v:=?_) ?_ hS ?_;rotate_left;· intro w' hw';have hcells:=HC6.out w' hw';go_simp;(try with_reducible rfl)
     simp only[Act.put,pt1,pt2,pt3,pt4,pt5,pt6]
     refine tkQ 5 (v:=?_) ?_ hS ?_;rotate_left;· intro w' hw';have hcells:=HC6.out w' hw';go_simp;(try with_reducible rfl)
     simp only[Act.put,pt1,pt2,pt3,pt4,pt5,pt6]
     refine tkQ 6 (v:=?_) ?_ hS ?_;rotate_left;· intro w' hw';have hcells:=HC6.out w' hw';go_simp;(try with_reducible rfl)
     simp only[Act.put,pt1,pt2,pt3,pt4,pt5,pt6]
     refine tkQ 7 (v:=?_) ?_ hS ?_;rotate_left;· intro w' hw';have hcells:=HC6.out w' hw';go_simp;(try with_reducible rfl)
     simp only[Act.put,pt1,pt2,pt3,pt4,pt5,pt6]
     refine wpAnyH_ready (rs:=[8,9]) (by kernel_rfl) (by simp) ?_
     refine AllReadyH.cons (o:=_) rfl (fun K hK=>?_) ?_
     ·refine step_alloc_gen (by rfl) _ (by rfl) #[.int .i64 0,.string ByteArray.empty,.int .i64 0,.string ByteArray.empty,.int .i64 0,.slice none 0 0,.int .i64 0,.slice none 0 0,.string ByteArray.empty,.int .i64 0,.bool false,.int .i64 0,.int .i64 0,.int .i64 0,.string ByteArray.empty,.slice none 0 0,.slice none 0 0,.string ByteArray.empty] 18 wp.heap.size (rfl) infoEf18 (by rfl) ?_
      intro V1 hv1 hb1 hz1
      refine hK.out _ _ (hS.trans (hb1.mono (by omega))) (fun hS=>?_)
      clear hK K
      (try simp only[Act.put,pt1,pt2,pt3,pt4,pt5,pt6])
      refine wpAnyH_ready (rs:=[9]) (by kernel_rfl) (by simp) ?_
      refine arQ fun K hK=>?_
      refine step_alloc_gen (by rfl) _ (by rfl) #[.int .i64 0,.string ByteArray.empty,.int .i64 0,.string ByteArray.empty,.int .i64 0,.slice none 0 0,.int .i64 0,.slice none 0 0,.string ByteArray.empty,.int .i64 0,.bool false,.int .i64 0,.int .i64 0,.int .i64 0,.string ByteArray.empty,.slice none 0 0,.slice none 0 0,.string ByteArray.empty] 18 (wp.heap.size+1) (hz1) infoEf18 (by rfl) ?_
      intro V2 hv2 hb2 hz2
      refine hK.out _ _ (hS.trans (hb2.mono (by omega))) (fun hS=>?_)
      clear hK K
      (try simp only[Act.put,pt1,pt2,pt3,pt4,pt5,pt6])
      refine wpAnyH_ready (rs:=[10]) (by kernel_rfl) (by simp) ?_
      refine arQ fun K hK=>?_
      refine step_store_whole (by rfl) _ _ _ (by rfl) wp.heap.size #[.int .i64 0,.string ByteArray.empty,.int .i64 0,.string ByteArray.empty,.int .i64 0,.slice none 0 0,.int .i64 0,.slice none 0 0,.string ByteArray.empty,.int .i64 0,.bool false,.int .i64 0,.int .i64 0,.int .i64 0,.string ByteArray.empty,.slice none 0 0,.slice none 0 0,.string ByteArray.empty] #[.int .i64 x.k,.string x.nm,.int .i64 x.nu,.string x.tx,.int .i64 x.st.e,.slice x.st.a x.st.n x.st.c,.int .i64 x.rs.e,.slice x.rs.a x.rs.n x.rs.c,.string x.sv,.int .i64 x.ca,.bool x.un,.int .i64 x.bd.k,.int .i64 x.bd.i,.int .i64 x.bd.s,.string x.bd.t,.slice x.bd.la x.bd.ll x.bd.lc,.slice x.bd.fa x.bd.fl x.bd.fc,.string x.nd] 75 (by rfl) (by rfl) ((hb2.block _ (by omega)).trans hv1) (size_of_info infoEf18) (by rfl) (by simp[Value.oneCell']) ?_
      intro V3 hv3 ho3 hz3 hb3
      refine hK.out _ _ (hS.trans (hb3.mono (by omega))) (fun hS=>?_)
      clear hK K
      (try simp only[Act.put,pt1,pt2,pt3,pt4,pt5,pt6])
      refine wpAnyH_ready (rs:=[11]) (by kernel_rfl) (by simp) ?_
      refine arQ fun K hK=>?_
      refine step_store_whole (by rfl) _ _ _ (by rfl) (wp.heap.size+1) #[.int .i64 0,.string ByteArray.empty,.int .i64 0,.string ByteArray.empty,.int .i64 0,.slice none 0 0,.int .i64 0,.slice none 0 0,.string ByteArray.empty,.int .i64 0,.bool false,.int .i64 0,.int .i64 0,.int .i64 0,.string ByteArray.empty,.slice none 0 0,.slice none 0 0,.string ByteArray.empty] #[.int .i64 y.k,.string y.nm,.int .i64 y.nu,.string y.tx,.int .i64 y.st.e,.slice y.st.a y.st.n y.st.c,.int .i64 y.rs.e,.slice y.rs.a y.rs.n y.rs.c,.string y.sv,.int .i64 y.ca,.bool y.un,.int .i64 y.bd.k,.int .i64 y.bd.i,.int .i64 y.bd.s,.string y.bd.t,.slice y.bd.la y.bd.ll y.bd.lc,.slice y.bd.fa y.bd.fl y.bd.fc,.string y.nd] 75 (by rfl) (by rfl) ((ho3 _ (by omega)).trans hv2) (size_of_info infoEf18) (by rfl) (by simp[Value.oneCell']) ?_
      intro V4 hv4 ho4 hz4 hb4
      refine hK.out _ _ (hS.trans (hb4.mono (by omega))) (fun hS=>?_)
      clear hK K
      (try simp only[Act.put,pt1,pt2,pt3,pt4,pt5,pt6])
      refine wpAnyH_done (by kernel_rfl) ?_ _
      (try dsimp only)
      have fp4:=(ho4 wp.heap.size (by omega)).trans hv3
      have hS4:=hid hS;have HP4:=hid fp4;have HQ4:=hid hv4
      clear hS hv1 hv2 hv3 hv4 hb1 hb2 hb3 hb4 hz1 hz2 hz3 hz4 ho3 ho4 fp4
      go_wp2
      go_meet
      exact⟨wp.heap.size,(wp.heap.size+1),rfl,rfl,HP4.out,HQ4.out,hS4.out⟩
     refine arQ fun K hK=>?_
     refine step_alloc_gen (by rfl) _ (by rfl) #[.int .i64 0,.string ByteArray.empty,.int .i64 0,.string ByteArray.empty,.int .i64 0,.slice none 0 0,.int .i64 0,.slice none 0 0,.string ByteArray.empty,.int .i64 0,.bool false,.int .i64 0,.int .i64 0,.int .i64 0,.string ByteArray.empty,.slice none 0 0,.slice none 0 0,.string ByteArray.empty] 18 wp.heap.size (rfl) infoEf18 (by rfl) ?_
     intro V1 hv1 hb1 hz1
     refine hK.out _ _ (hS.trans (hb1.mono (by omega))) (fun hS=>?_)
     clear hK K
     (try simp only[Act.put,pt1,pt2,pt3,pt4,pt5,pt6])
     refine wpAnyH_ready (rs:=[8]) (by kernel_rfl) (by simp) ?_
     refine arQ fun K hK=>?_
     refine step_alloc_gen (by rfl) _ (by rfl) #[.int .i64 0,.string ByteArray.empty,.int .i64 0,.string ByteArray.empty,.int .i64 0,.slice none 0 0,.int .i64 0,.slice none 0 0,.string ByteArray.empty,.int .i64 0,.bool false,.int .i64 0,.int .i64 0,.int .i64 0,.string ByteArray.empty,.slice none 0 0,.slice none 0 0,.string ByteArray.empty] 18 (wp.heap.size+1) (hz1) infoEf18 (by rfl) ?_
     intro V2 hv2 hb2 hz2
     refine hK.out _ _ (hS.trans (hb2.mono (by omega))) (fun hS=>?_)
     clear hK K
     (try simp only[Act.put,pt1,pt2,pt3,pt4,pt5,pt6])
     refine wpAnyH_ready (rs:=[10]) (by kernel_rfl) (by simp) ?_
     refine arQ fun K hK=>?_
     refine step_store_whole (by rfl) _ _ _ (by rfl) (wp.heap.size+1) #[.int .i64 0,.string ByteArray.empty,.int .i64 0,.string ByteArray.empty,.int .i64 0,.slice none 0 0,.int .i64 0,.slice none 0 0,.string ByteArray.empty,.int .i64 0,.bool false,.int .i64 0,.int .i64 0,.int .i64 0,.string ByteArray.empty,.slice none 0 0,.slice none 0 0,.string ByteArray.empty] #[.int .i64 x.k,.string x.nm,.int .i64 x.nu,.string x.tx,.int .i64 x.st.e,.slice x.st.a x.st.n x.st.c,.int .i64 x.rs.e,.slice x.rs.a x.rs.n x.rs.c,.string x.sv,.int .i64 x.ca,.bool x.un,.int .i64 x.bd.k,.int .i64 x.bd.i,.int .i64 x.bd.s,.string x.bd.t,.slice x.bd.la x.bd.ll x.bd.lc,.slice x.bd.fa x.bd.fl x.bd.fc,.string x.nd] 75 (by rfl) (by rfl) hv2 (size_of_info infoEf18) (by rfl) (by simp[Value.oneCell']) ?_
     intro V3 hv3 ho3 hz3 hb3
     refine hK.out _ _ (hS.trans (hb3.mono (by omega))) (fun hS=>?_)
     clear hK K
     (try simp only[Act.put,pt1,pt2,pt3,pt4,pt5,pt6])
     refine wpAnyH_ready (rs:=[11]) (by kernel_rfl) (by simp) ?_
     refine arQ fun K hK=>?_
     refine step_store_whole (by rfl) _ _ _ (by rfl) wp.heap.size #[.int .i64 0,.string ByteArray.empty,.int .i64 0,.string ByteArray.empty,.int .i64 0,.slice none 0 0,.int .i64 0,.slice none 0 0,.string ByteArray.empty,.int .i64 0,.bool false,.int .i64 0,.int .i64 0,.int .i64 0,.string ByteArray.empty,.slice none 0 0,.slice none 0 0,.string ByteArray.empty] #[.int .i64 y.k,.string y.nm,.int .i64 y.nu,.string y.tx,.int .i64 y.st.e,.slice y.st.a y.st.n y.st.c,.int .i64 y.rs.e,.slice y.rs.a y.rs.n y.rs.c,.string y.sv,.int .i64 y.ca,.bool y.un,.int .i64 y.bd.k,.int .i64 y.bd.i,.int .i64 y.bd.s,.string y.bd.t,.slice y.bd.la y.bd.ll y.bd.lc,.slice y.bd.fa y.bd.fl y.bd.fc,.string y.nd] 75 (by rfl) (by rfl) ((ho3 _ (by omega)).trans ((hb2.block _ (by omega)).trans hv1)) (size_of_info infoEf18) (by rfl) (by simp[Value.oneCell']) ?_
     intro V4 hv4 ho4 hz4 hb4
     refine hK.out _ _ (hS.trans (hb4.mono (by omega))) (fun hS=>?_)
     clear hK K
     (try simp only[Act.put,pt1,pt2,pt3,pt4,pt5,pt6])
     refine wpAnyH_done (by kernel_rfl) ?_ _
     (try dsimp only)
     have fp4:=(ho4 (wp.heap.size+1) (by omega)).trans hv3
     have hS4:=hid hS;have HP4:=hid fp4;have HQ4:=hid hv4
     clear hS hv1 hv2 hv3 hv4 hb1 hb2 hb3 hb4 hz1 hz2 hz3 hz4 ho3 ho4 fp4
     go_wp2
     go_meet
     exact⟨(wp.heap.size+1),wp.heap.size,rfl,rfl,HP4.out,HQ4.out,hS4.out⟩
    case rest =>
    obtain⟨p,q,rfl,rfl,hx,hy,hbz⟩:=hcut
    obtain⟨W,hW⟩:∃W,W=wc:=⟨_,rfl⟩
    rw[←hW] at hx hy hbz ⊢
    clear hW
    have HST:=hid (HSTG.out W hbz)
    have HRQ:=hid (fun (w1:World) (h:Below W.heap.size W w1)=>HRQG.out w1 (hbz.trans (h.mono hbz.size)))
    have HX:=hid hx;have HY:=hid hy;have HB:=hid hbz
    have a0:=cellOf hx 0;have a1:=cellOf hx 1;have a2:=cellOf hx 2;have a3:=cellOf hx 3;have a4:=cellOf hx 4;have a5:=cellOf hx 5;have a17:=cellOf hx 17;(try dsimp only at a0 a1 a2 a3 a4 a5 a17)
    have b0:=cellOf hy 0;have b1:=cellOf hy 1;have b2:=cellOf hy 2;have b3:=cellOf hy 3;have b4:=cellOf hy 4;have b5:=cellOf hy 5;have b17:=cellOf hy 17;(try dsimp only at b0 b1 b2 b3 b4 b5 b17)
    clear hx hy hbz HSTG HRQG HC6
    by_cases q0:x.k=y.k
    ·cases q1:(x.nm.toList==y.nm.toList)
     ·go_wp2
      go_ret
      exact⟨retB (HNE.out (by rw[HE.out];simp[q0,q1])).symm,HBR.out.trans ((HB.out).mono HBR.out.size)⟩
     ·by_cases q2:x.nu=y.nu
      ·cases q3:(x.tx.toList==y.tx.toList)
       ·go_wp2
        go_ret
        exact⟨retB (HNE.out (by rw[HE.out];simp[q0,q1,q2,q3])).symm,HBR.out.trans ((HB.out).mono HBR.out.size)⟩
       ·cases q4:(x.nd.toList==y.nd.toList)
        ·go_wp2
         go_ret
         exact⟨retB (HNE.out (by rw[HE.out];simp[q0,q1,q2,q3,q4])).symm,HBR.out.trans ((HB.out).mono HBR.out.size)⟩
        ·cases u
         ·go_wp2_with (first | (go_at_call 45;refine HST.out.mono ?_;rintro e w1 ⟨rfl,hb1⟩;have HB1:=hid hb1;have hx1:=heapExt hb1 HX.out;have hy1:=heapAlloc (.cells #[.int .i64 x.rs.e,.slice x.rs.a x.rs.n x.rs.c,.string x.sv,.int .i64 x.ca,.bool x.un,.int .i64 x.bd.k,.int .i64 x.bd.i,.int .i64 x.bd.s,.string x.bd.t,.slice x.bd.la x.bd.ll x.bd.lc,.slice x.bd.fa x.bd.fl x.bd.fc] 73) (heapExt hb1 HY.out);clear a0 b0 a1 b1 a2 b2 a3 b3 a4 b4 a5 b5 a17 b17;have a6:=cellOf hx1 6;have a7:=cellOf hx1 7;have a8:=cellOf hx1 8;have a9:=cellOf hx1 9;have a10:=cellOf hx1 10;have a11:=cellOf hx1 11;have a12:=cellOf hx1 12;have a13:=cellOf hx1 13;have a14:=cellOf hx1 14;have a15:=cellOf hx1 15;have a16:=cellOf hx1 16;(try dsimp only at a6 a7 a8 a9 a10 a11 a12 a13 a14 a15 a16);have b6:=cellOf hy1 6;have b7:=cellOf hy1 7;have b8:=cellOf hy1 8;have b9:=cellOf hy1 9;have b10:=cellOf hy1 10;have b11:=cellOf hy1 11;have b12:=cellOf hy1 12;have b13:=cellOf hy1 13;have b14:=cellOf hy1 14;have b15:=cellOf hy1 15;have b16:=cellOf hy1 16;(try dsimp only at b6 b7 b8 b9 b10 b11 b12 b13 b14 b15 b16);clear hx1 hy1 hb1))
          go_ret
          exact⟨retB (HNE.out (by rw[HE.out];simp[q0,q1,q2,q3,q4])).symm,HBR.out.trans ((HB.out.trans (HB1.out.mono HB.out.size)).mono HBR.out.size)⟩
         ·cases v
          ·go_wp2_with (first | (go_at_call 45;refine HST.out.mono ?_;rintro e w1 ⟨rfl,hb1⟩;have HB1:=hid hb1;have hx1:=heapExt hb1 HX.out;have hy1:=heapAlloc (.cells #[.int .i64 x.rs.e,.slice x.rs.a x.rs.n x.rs.c,.string x.sv,.int .i64 x.ca,.bool x.un,.int .i64 x.bd.k,.int .i64 x.bd.i,.int .i64 x.bd.s,.string x.bd.t,.slice x.bd.la x.bd.ll x.bd.lc,.slice x.bd.fa x.bd.fl x.bd.fc] 73) (heapExt hb1 HY.out);clear a0 b0 a1 b1 a2 b2 a3 b3 a4 b4 a5 b5 a17 b17;have a6:=cellOf hx1 6;have a7:=cellOf hx1 7;have a8:=cellOf hx1 8;have a9:=cellOf hx1 9;have a10:=cellOf hx1 10;have a11:=cellOf hx1 11;have a12:=cellOf hx1 12;have a13:=cellOf hx1 13;have a14:=cellOf hx1 14;have a15:=cellOf hx1 15;have a16:=cellOf hx1 16;(try dsimp only at a6 a7 a8 a9 a10 a11 a12 a13 a14 a15 a16);have b6:=cellOf hy1 6;have b7:=cellOf hy1 7;have b8:=cellOf hy1 8;have b9:=cellOf hy1 9;have b10:=cellOf hy1 10;have b11:=cellOf hy1 11;have b12:=cellOf hy1 12;have b13:=cellOf hy1 13;have b14:=cellOf hy1 14;have b15:=cellOf hy1 15;have b16:=cellOf hy1 16;(try dsimp only at b6 b7 b8 b9 b10 b11 b12 b13 b14 b15 b16);clear hx1 hy1 hb1) | (go_at_call 120;refine(HRQ.out _ HB1.out).mono ?_;rintro e w3 ⟨rfl,hb3⟩;have HB3:=hid hb3;clear hb3))
           go_ret
           exact⟨retB (HNE.out (by rw[HE.out];simp[q0,q1,q2,q3,q4])).symm,HBR.out.trans ((HB.out.trans ((HB1.out.trans (((((Below.refl _ _).alloc (Nat.le_refl _) _).alloc (by simp) _).trans (HB3.out.mono (by simp;omega))).mono HB1.out.size)).mono HB.out.size)).mono HBR.out.size)⟩
          ·have htr:=HTR.out (by rw[HE.out];simp[q0,q1,q2,q3,q4])
           have HTR2:=hid htr
           clear htr
           go_wp2_with (first | (go_at_call 45;refine HST.out.mono ?_;rintro e w1 ⟨rfl,hb1⟩;have HB1:=hid hb1;have hx1:=heapExt hb1 HX.out;have hy1:=heapAlloc (.cells #[.int .i64 x.rs.e,.slice x.rs.a x.rs.n x.rs.c,.string x.sv,.int .i64 x.ca,.bool x.un,.int .i64 x.bd.k,.int .i64 x.bd.i,.int .i64 x.bd.s,.string x.bd.t,.slice x.bd.la x.bd.ll x.bd.lc,.slice x.bd.fa x.bd.fl x.bd.fc] 73) (heapExt hb1 HY.out);clear a0 b0 a1 b1 a2 b2 a3 b3 a4 b4 a5 b5 a17 b17;have a6:=cellOf hx1 6;have a7:=cellOf hx1 7;have a8:=cellOf hx1 8;have a9:=cellOf hx1 9;have a10:=cellOf hx1 10;have a11:=cellOf hx1 11;have a12:=cellOf hx1 12;have a13:=cellOf hx1 13;have a14:=cellOf hx1 14;have a15:=cellOf hx1 15;have a16:=cellOf hx1 16;(try dsimp only at a6 a7 a8 a9 a10 a11 a12 a13 a14 a15 a16);have b6:=cellOf hy1 6;have b7:=cellOf hy1 7;have b8:=cellOf hy1 8;have b9:=cellOf hy1 9;have b10:=cellOf hy1 10;have b11:=cellOf hy1 11;have b12:=cellOf hy1 12;have b13:=cellOf hy1 13;have b14:=cellOf hy1 14;have b15:=cellOf hy1 15;have b16:=cellOf hy1 16;(try dsimp only at b6 b7 b8 b9 b10 b11 b12 b13 b14 b15 b16);clear hx1 hy1 hb1) | (go_at_call 120;refine(HRQ.out _ HB1.out).mono ?_;rintro e w3 ⟨rfl,hb3⟩;have HB3:=hid hb3;clear hb3))
           go_roundw
           case rel=>exact⟨k+1,by omega,by go_num,HTR2.out,HBR.out.trans ((HB.out.trans ((HB1.out.trans (((((Below.refl _ _).alloc (Nat.le_refl _) _).alloc (by simp) _).trans (HB3.out.mono (by simp;omega))).mono HB1.out.size)).mono HB.out.size)).mono HBR.out.size)⟩
           case measure=>simp[intOf];omega
      ·go_wp2
       go_ret
       exact⟨retB (HNE.out (by rw[HE.out];simp[q0,q1,q2])).symm,HBR.out.trans ((HB.out).mono HBR.out.size)⟩
    ·go_wp2
     go_ret
     exact⟨retB (HNE.out (by rw[HE.out];simp[q0])).symm,HBR.out.trans ((HB.out).mono HBR.out.size)⟩
   ·obtain rfl:k=n:=by omega
    have r:=hid (eqL_of (f:=efEqS) (HL.out.symm.trans HL2.out) fun j h1 h2=>hall j h1 h2 (by have:=HL.out;omega))
    clear hall hbr
    go_wp2
    go_ret
    exact⟨retB r.out.symm,HBR.out⟩
 ·have q2':¬ (n:Int)=(n2:Int):=by omega
  go_wp2
  go_ret
  exact⟨retB (eqL_len (by rw[←HL.out,←HL2.out];exact q2)).symm,Below.refl _ _⟩
end
end Go.Proofs.YteladbdfiannjaaGreatDoor
