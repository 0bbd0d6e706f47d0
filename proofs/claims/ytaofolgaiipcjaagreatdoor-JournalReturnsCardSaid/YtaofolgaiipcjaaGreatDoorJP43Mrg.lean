/-
  journal.Decode: the entry of some bytes, as JLaw's decJ says. Conditions: at most 1000000 bytes, the text of a reply's body at most 65536; Tabs, ZTab, NumVars.
-/
import Derived.Test.YtaofolgaiipcjaaGreatDoorJP41Mrg
import Derived.Test.YtaofolgaiipcjaaGreatDoorJP42Mrg
namespace Go.Proofs.YtaofolgaiipcjaaGreatDoor
set_option linter.unusedVariables false
set_option maxRecDepth 100000
set_option maxHeartbeats 16000000
set_option linter.unusedSimpArgs false
section
open Go Go.RowKit Go.Shelf
theorem enZ_is (S:Nat→Prop) (w:World):IsEn S w enZC enZ :=
 have z:I64 0:=by simp[I64]
 ⟨rfl,z,rfl,z,rfl,z,rfl,z,rfl,z,rfl,Nat.zero_le _,rfl,Nat.zero_le _,rfl,Nat.zero_le _,rfl,rfl,leaf_val 0 0 z z,stZ_is _ _⟩
theorem rdJ_small (s:ByteArray) (k ti:Int) (r:JR):(rdJ s { enZ with k:=k,ti:=ti } r).1.nm.size≤s.size∧(rdJ s { enZ with k:=k,ti:=ti } r).1.nd.size≤s.size∧(rdJ s { enZ with k:=k,ti:=ti } r).1.tx.size≤s.size:=by
 have z:(enZ.nm.size≤s.size∧enZ.nd.size≤s.size)∧enZ.tx.size≤s.size:=⟨⟨Nat.zero_le _,Nat.zero_le _⟩,Nat.zero_le _⟩
 unfold rdJ
 dsimp only
 split
 ·exact⟨jtext_size s _,z.1.2,jtext_size s _⟩
 split
 ·exact⟨z.1.1,z.1.2,z.2⟩
 split
 ·exact⟨jtext_size s _,jtext_size s _,z.2⟩
 split
 ·exact⟨z.1.1,z.1.2,z.2⟩
 ·split
  ·split<;>exact⟨z.1.1,z.1.2,z.2⟩
  ·exact⟨z.1.1,z.1.2,z.2⟩
theorem stc2J (a:Addr) (i:Nat) (v u:Value):storeCells a [v,u] i=(do store (a.add i) v;storeCells a [u] (i+1)):=rfl
section
attribute [-go_sem] loadCellsFrom storeCells
attribute [local go_sem] lcf0 lcf1 lcf2 lcf3 lcf4 lcf5 stc0 stc1 stc2J field_form1
theorem jDec_call (s:ByteArray) (w:World) (hs:s.size≤1000000) (hT:Tabs w) (hZT:ZTab w) (hNV:NumVars w) (hbod:(headJ s).1.k=3→(bodT s (headJ s).2).size≤65536) :
 Calls Tryz.prog 18 #[.string s] w fun x w'=>∃c:EnC,x=.returned (.tuple #[c.v,.int .i64 (decJ s).2])∧IsEn (fun i=>w.heap.size≤i∧i<w'.heap.size) w' c (decJ s).1∧Below w.heap.size w w':=by
 obtain⟨N,hN⟩:∃N,N=w.heap.size:=⟨_,rfl⟩
 obtain⟨w0,hw0⟩:∃w0,w0=w.alloc (.cells #[.int .i64 0,.int .i64 0,.int .i64 0,.int .i64 0,.int .i64 0,.string ⟨#[]⟩,.string ⟨#[]⟩,.string ⟨#[]⟩,.bool false,.bool false,.int .i64 0,.int .i64 0,.int .i64 0,.string ⟨#[]⟩,.slice none 0 0,.slice none 0 0,.int .i64 0,.slice none 0 0] 30):=⟨_,rfl⟩
 obtain⟨w1,hw1⟩:∃w1,w1=w0.alloc (.cells (jrA s 0 0) RT):=⟨_,rfl⟩
 obtain⟨w2,hw2⟩:∃w2,w2=w1.alloc (.cells #[.int .i64 0,.int .i64 0,.int .i64 0,.int .i64 0,.int .i64 0,.string ⟨#[]⟩,.string ⟨#[]⟩,.string ⟨#[]⟩,.bool false,.bool false,.int .i64 0,.int .i64 0,.int .i64 0,.string ⟨#[]⟩,.slice none 0 0,.slice none 0 0,.int .i64 0,.slice none 0 0] 30):=⟨_,rfl⟩
 have hs0:w0.heap.size=N+1:=by rw[hw0,World.size_alloc,←hN]
 have hs1:w1.heap.size=N+2:=by rw[hw1,World.size_alloc,hs0]
 have hs2:w2.heap.size=N+3:=by rw[hw2,World.size_alloc,hs1]
 have hn0:w0.heap[N]?=some (.cells #[.int .i64 0,.int .i64 0,.int .i64 0,.int .i64 0,.int .i64 0,.string ⟨#[]⟩,.string ⟨#[]⟩,.string ⟨#[]⟩,.bool false,.bool false,.int .i64 0,.int .i64 0,.int .i64 0,.string ⟨#[]⟩,.slice none 0 0,.slice none 0 0,.int .i64 0,.slice none 0 0] 30):=by rw[hw0,hN];exact heap_alloc_new w _
 have hwb:Below N w w0:=by rw[hw0,hN];exact(Below.refl _ w).alloc (Nat.le_refl _) _
 have hb2:Below (N+1) w0 w2:=by rw[hw2,hw1,←hs0];exact((Below.refl _ w0).alloc (Nat.le_refl _) _).alloc (by simp) _
 have h2:RAt (N+1) (N+1) (N+2) s w0 enZC ⟨0,0⟩ w2 :=
  ⟨⟨by rw[hw2];exact(heap_alloc_old w1 _ _ (by omega)).trans (by rw[hw1,←hs0];exact heap_alloc_new w0 _),Nat.zero_le _⟩,by rw[hw2,←hs1];exact heap_alloc_new w1 _,hb2,Nat.le_refl _,Nat.le_succ _,by omega,by omega⟩
 obtain⟨q1,hq1⟩:∃q,q=JR.num s ⟨0,0⟩:=⟨_,rfl⟩
 obtain⟨q2,hq2⟩:∃q,q=q1.2.num s:=⟨_,rfl⟩
 have hk:I64 q1.1:=by rw[hq1];exact i64_num s _
 have hti:I64 q2.1:=by rw[hq2];exact i64_num s _
 have hhead:headJ s=({ enZ with k:=q1.1,ti:=q2.1 },q2.2):=by unfold headJ;rw[←hq1,←hq2]
 obtain⟨D,hD⟩:∃D,D=decJ s:=⟨_,rfl⟩
 have hdec:=hD
 unfold decJ bodJ at hdec
 rw[hhead] at hdec hbod
 rw[←hD]
 obtain⟨k,q1r⟩:=q1
 obtain⟨ti,ri,re⟩:=q2
 dsimp only at hdec hbod hk hti hq2
 have HQ1:=hid (show(JR.num s ⟨0,0⟩).1=k∧(JR.num s ⟨0,0⟩).2=q1r by rw[←hq1];exact⟨rfl,rfl⟩)
 have HQ2:=hid (show(q1r.num s).1=ti∧(q1r.num s).2=⟨ri,re⟩ by rw[←hq2];exact⟨rfl,rfl⟩)
 have HI:=hid hk
 have HIT:=hid hti
 have HW0:=hid hw0
 have HW1:=hid hw1
 have HW2:=hid hw2
 have HS0:=hid hs0
 have HN0:=hid hn0
 have HN:=hid hN
 have HWB:=hid hwb
 have H2:=hid h2
 have HSZ:=hid (show s.size≤140737488351232 by omega)
 have HSM:=hid hs
 have HTW:=hid (show Tabs w0∧ZTab w0∧NumVars w0 from⟨hT.below (hN▸hwb),hZT.below (hN▸hwb),hNV.below (hN▸hwb)⟩)
 rw[←hN]
 have HDEC:=hid hdec
 have HBOD:=hid hbod
 clear hq1 hq2 hw0 hw1 hw2 hs0 hs1 hs2 hn0 hwb hb2 h2 hhead hD hdec hbod hN hT hZT hNV hk hti hs
 by_cases he:re=0
 rotate_left
 ·have HD:=hid (show D=(enZ,3) by rw[HDEC.out,if_pos (.inl he)])
  have q0:(re != 0)=true:=by simp[he]
  clear he
  by_cases hin:1≤k∧k≤6
  ·obtain⟨F,hF⟩:∃F,F=rNo k:=⟨_,rfl⟩
   have HF:=hid hF
   have HIN:=hid hin
   clear hF hin
   go_enter Tryz.func18,Tryz.ntmps18
   go_upto_region 3 with (fail)
   rw[←HW0.out,←HN.out,←HW1.out,←HW2.out]
   go_upto_region 4 with (first
    | (go_at_call 49;refine(rNum_call (N+1) s q1r HSZ.out _ H3.out.r).mono ?_;rintro x w4 ⟨rfl,hj,hg⟩;rw[HQ2.out.2] at hj;rw[HQ2.out.1];have h4:=H3.out.step hj hg;have c0:=cellOf h4.e 0;have c1:=cellOf h4.e 1;have f0:=freeOf h4.e 0;have f1:=freeOf h4.e 1;(try dsimp only at c0 c1);have H4:=hid h4;clear hj hg h4)
    | (go_at_call 49;refine(rNum_call (N+1) s ⟨0,0⟩ HSZ.out _ H2.out.r).mono ?_;rintro x w3 ⟨rfl,hj,hg⟩;rw[HQ1.out.2] at hj;rw[HQ1.out.1];have H3:=hid (H2.out.step hj hg);clear hj hg))
   obtain⟨w5,hw5⟩:∃w5,w5=(w4.setCell ⟨N+2,0,none⟩ (.int .i64 k)).setCell ⟨N+2,1,none⟩ (.int .i64 ti):=⟨_,rfl⟩
   have h5:RAt (N+1) (N+1) (N+2) s w0 { enZC with k:=k,ti:=ti } ⟨ri,re⟩ w5:=by
    rw[hw5]
    exact(H4.out.set (i:=0) (v:=.int .i64 k) (c':={ enZC with k:=k }) rfl).set (i:=1) (v:=.int .i64 ti) (c':={ enZC with k:=k,ti:=ti }) rfl
   rw[←hw5]
   have HC5:=hid (fun (w':World) (h:Below w5.heap.size w5 w')=>(show w'.cell? ⟨N+2,0,none⟩=some (.int .i64 k) from cellOf (heapExt h h5.e) 0))
   have H5:=hid h5
   clear hw5 h5 c0 c1 f0 f1
   go_cut [6,7] (fun a b wz=>∃ab:Nat,a=.pointer (some ⟨ab,0,none⟩)∧b=.bool true∧wz.heap[ab]?=some (.cells #[.func (.func (wNo k)) #[] #[],.func (.func F) #[] #[]] 83)∧Below w5.heap.size w5 wz)
   case first =>
    refine wp_region_held_drew (S:=(fun w'=>Below w5.heap.size w5 w')) (by kernel_rfl) ((Below.refl _ _).drew) (fun hS=>?_)
    refine tkQ 1 (v:=?_) ?_ hS ?_;rotate_left;· intro w' hw';have hcells:=HC5.out w' hw';go_simp;(try with_reducible rfl)
    simp only[Act.put,pt1,pt2,pt3,pt4,pt5,pt6]
    refine tkQ 2 (v:=?_) ?_ hS ?_;rotate_left;· intro w' hw';have hcells:=HC5.out w' hw';go_simp;(try with_reducible rfl)
    simp only[Act.put,pt1,pt2,pt3,pt4,pt5,pt6]
    refine wpAnyH_ready (rs:=[0,7]) (by kernel_rfl) (by simp) ?_
    refine AllReadyH.cons (o:=_) rfl (fun K hK=>?_) ?_
    ·go_simp;go_at_call 43;refine(forms_call _).mono ?_
     rintro x w6 ⟨bm,rfl,_,hfm,hb6⟩
     have HFM:=hid hfm
     have HB6:=hid (hS.trans (hb6.mono hS.size))
     refine hK.out _ _ (hS.trans (hb6.mono hS.size)) (fun hS=>?_)
     clear hK K
     (try simp only[Act.put,pt1,pt2,pt3,pt4,pt5,pt6])
     refine wpAnyH_ready (rs:=[3,7]) (by kernel_rfl) (by simp) ?_
     refine AllReadyH.cons (o:=_) rfl (fun K hK=>?_) ?_
     ·have hlk:(Instr.lookup 84 (.map (some bm)) (.int .i64 k) true).run Tryz.prog w6=.ok (.tuple #[.agg #[.func (.func (wNo k)) #[] #[],.func (.func F) #[] #[]],.bool true]) w6:=by
       have h1:=FormsAt.ok HFM.out k HI.out (w:=w6)
       rw[if_pos HIN.out,decide_eq_true HIN.out] at h1
       rw[HF.out];exact h1
      go_simp
      refine hK.out _ _ (hS) (fun hS=>?_)
      clear hK K
      (try simp only[Act.put,pt1,pt2,pt3,pt4,pt5,pt6])
      refine tkQ 4 (v:=?_) ?_ hS ?_;rotate_left;· intro w' hw';have hcells:=HC5.out w' hw';go_simp;(try with_reducible rfl)
      simp only[Act.put,pt1,pt2,pt3,pt4,pt5,pt6]
      refine tkQ 5 (v:=?_) ?_ hS ?_;rotate_left;· intro w' hw';have hcells:=HC5.out w' hw';go_simp;(try with_reducible rfl)
      simp only[Act.put,pt1,pt2,pt3,pt4,pt5,pt6]
      refine tkQ 6 (v:=?_) ?_ hS ?_;rotate_left;· intro w' hw';have hcells:=HC5.out w' hw';go_simp;(try with_reducible rfl)
      simp only[Act.put,pt1,pt2,pt3,pt4,pt5,pt6]
      refine wpAnyH_ready (rs:=[7]) (by kernel_rfl) (by simp) ?_
      refine AllReadyH.cons (o:=_) rfl (fun K hK=>?_) AllReadyH.nil
      go_simp
      refine hK.out _ _ (hS.alloc hS.size _) (fun hS=>?_)
      clear hK K
      (try simp only[Act.put,pt1,pt2,pt3,pt4,pt5,pt6])
      refine wpAnyH_ready (rs:=[8]) (by kernel_rfl) (by simp) ?_
      refine AllReadyH.cons (o:=_) rfl (fun K hK=>?_) AllReadyH.nil
      go_simp
      refine hK.out _ _ (HB6.out.alloc HB6.out.size _) (fun hS=>?_)
      clear hK K
      (try simp only[Act.put,pt1,pt2,pt3,pt4,pt5,pt6])
      refine tkQ 9 (v:=?_) ?_ hS ?_;rotate_left;· intro w' hw';have hcells:=HC5.out w' hw';go_simp;(try with_reducible rfl)
      simp only[Act.put,pt1,pt2,pt3,pt4,pt5,pt6]
      refine wpAnyH_done (by kernel_rfl) ?_ _
      (try dsimp only)
      clear hS
      go_wp2
      go_meet
      exact⟨_,rfl,rfl,heap_alloc_new w6 _,HB6.out.alloc HB6.out.size _⟩
     refine AllReadyH.cons (o:=_) rfl (fun K hK=>?_) AllReadyH.nil
     go_simp
     refine hK.out _ _ (hS.alloc hS.size _) (fun hS=>?_)
     clear hK K
     (try simp only[Act.put,pt1,pt2,pt3,pt4,pt5,pt6])
     refine wpAnyH_ready (rs:=[3]) (by kernel_rfl) (by simp) ?_
     refine AllReadyH.cons (o:=_) rfl (fun K hK=>?_) AllReadyH.nil
     have hlk:(Instr.lookup 84 (.map (some bm)) (.int .i64 k) true).run Tryz.prog (w6.alloc (.cells #[.nilFunc,.nilFunc] 83))=.ok (.tuple #[.agg #[.func (.func (wNo k)) #[] #[],.func (.func F) #[] #[]],.bool true]) (w6.alloc (.cells #[.nilFunc,.nilFunc] 83)):=by
      have h1:=FormsAt.ok (HFM.out.alloc _) k HI.out (w:=(w6.alloc (.cells #[.nilFunc,.nilFunc] 83)))
      rw[if_pos HIN.out,decide_eq_true HIN.out] at h1
      rw[HF.out];exact h1
     go_simp
     refine hK.out _ _ (hS) (fun hS=>?_)
     clear hK K
     (try simp only[Act.put,pt1,pt2,pt3,pt4,pt5,pt6])
     refine tkQ 4 (v:=?_) ?_ hS ?_;rotate_left;· intro w' hw';have hcells:=HC5.out w' hw';go_simp;(try with_reducible rfl)
     simp only[Act.put,pt1,pt2,pt3,pt4,pt5,pt6]
     refine tkQ 5 (v:=?_) ?_ hS ?_;rotate_left;· intro w' hw';have hcells:=HC5.out w' hw';go_simp;(try with_reducible rfl)
     simp only[Act.put,pt1,pt2,pt3,pt4,pt5,pt6]
     refine tkQ 6 (v:=?_) ?_ hS ?_;rotate_left;· intro w' hw';have hcells:=HC5.out w' hw';go_simp;(try with_reducible rfl)
     simp only[Act.put,pt1,pt2,pt3,pt4,pt5,pt6]
     refine wpAnyH_ready (rs:=[8]) (by kernel_rfl) (by simp) ?_
     refine AllReadyH.cons (o:=_) rfl (fun K hK=>?_) AllReadyH.nil
     go_simp
     refine hK.out _ _ (HB6.out.alloc HB6.out.size _) (fun hS=>?_)
     clear hK K
     (try simp only[Act.put,pt1,pt2,pt3,pt4,pt5,pt6])
     refine tkQ 9 (v:=?_) ?_ hS ?_;rotate_left;· intro w' hw';have hcells:=HC5.out w' hw';go_simp;(try with_reducible rfl)
     simp only[Act.put,pt1,pt2,pt3,pt4,pt5,pt6]
     refine wpAnyH_done (by kernel_rfl) ?_ _
     (try dsimp only)
     clear hS
     go_wp2
     go_meet
     exact⟨_,rfl,rfl,heap_alloc_new w6 _,HB6.out.alloc HB6.out.size _⟩
    refine AllReadyH.cons (o:=_) rfl (fun K hK=>?_) AllReadyH.nil
    go_simp
    have HAL0:=hid (show((w5.alloc (.cells #[.nilFunc,.nilFunc] 83)).drew).heap[w5.heap.size]?=some (.cells #[.nilFunc,.nilFunc] 83) from heap_alloc_new w5 _)
    refine hK.out _ _ (((Below.refl _ w5).alloc (Nat.le_refl _) _).drew) (fun hS=>?_)
    clear hK K
    (try simp only[Act.put,pt1,pt2,pt3,pt4,pt5,pt6])
    refine wpAnyH_ready (rs:=[0]) (by kernel_rfl) (by simp) ?_
    refine AllReadyH.cons (o:=_) rfl (fun K hK=>?_) AllReadyH.nil
    go_simp;go_at_call 43;refine(forms_call _).mono ?_
    rintro x w6 ⟨bm,rfl,_,hfm,hb6⟩
    have HFM:=hid hfm
    have HB6:=hid (hS.trans (hb6.mono hS.size))
    have HAL:=hid ((hb6.block _ (ltOf HAL0.out)).trans HAL0.out)
    refine hK.out _ _ (hS.trans (hb6.mono hS.size)) (fun hS=>?_)
    clear hK K
    (try simp only[Act.put,pt1,pt2,pt3,pt4,pt5,pt6])
    refine wpAnyH_ready (rs:=[3]) (by kernel_rfl) (by simp) ?_
    refine AllReadyH.cons (o:=_) rfl (fun K hK=>?_) AllReadyH.nil
    have hlk:(Instr.lookup 84 (.map (some bm)) (.int .i64 k) true).run Tryz.prog w6=.ok (.tuple #[.agg #[.func (.func (wNo k)) #[] #[],.func (.func F) #[] #[]],.bool true]) w6:=by
     have h1:=FormsAt.ok HFM.out k HI.out (w:=w6)
     rw[if_pos HIN.out,decide_eq_true HIN.out] at h1
     rw[HF.out];exact h1
    go_simp
    refine hK.out _ _ (hS) (fun hS=>?_)
    clear hK K
    (try simp only[Act.put,pt1,pt2,pt3,pt4,pt5,pt6])
    refine tkQ 4 (v:=?_) ?_ hS ?_;rotate_left;· intro w' hw';have hcells:=HC5.out w' hw';go_simp;(try with_reducible rfl)
    simp only[Act.put,pt1,pt2,pt3,pt4,pt5,pt6]
    refine tkQ 5 (v:=?_) ?_ hS ?_;rotate_left;· intro w' hw';have hcells:=HC5.out w' hw';go_simp;(try with_reducible rfl)
    simp only[Act.put,pt1,pt2,pt3,pt4,pt5,pt6]
    refine tkQ 6 (v:=?_) ?_ hS ?_;rotate_left;· intro w' hw';have hcells:=HC5.out w' hw';go_simp;(try with_reducible rfl)
    simp only[Act.put,pt1,pt2,pt3,pt4,pt5,pt6]
    refine wpAnyH_ready (rs:=[8]) (by kernel_rfl) (by simp) ?_
    refine AllReadyH.cons (o:=_) rfl (fun K hK=>?_) AllReadyH.nil
    have hal:=HAL.out
    have u0:=cellOf hal 0
    have u1:=cellOf hal 1
    have g0:=freeOf hal 0
    have g1:=freeOf hal 1
    (try dsimp only at u0 u1)
    go_simp
    refine hK.out _ _ ((hS.setCell (p:=⟨w5.heap.size,0,none⟩) (Nat.le_refl _) _).setCell (p:=⟨w5.heap.size,1,none⟩) (Nat.le_refl _) _) (fun hS=>?_)
    clear hK K
    (try simp only[Act.put,pt1,pt2,pt3,pt4,pt5,pt6])
    refine tkQ 9 (v:=?_) ?_ hS ?_;rotate_left;· intro w' hw';have hcells:=HC5.out w' hw';go_simp;(try with_reducible rfl)
    simp only[Act.put,pt1,pt2,pt3,pt4,pt5,pt6]
    refine wpAnyH_done (by kernel_rfl) ?_ _
    (try dsimp only)
    have HSS:=hid hS
    clear hS
    go_wp2
    go_meet
    exact⟨_,rfl,rfl,set_heapJ (set_heapJ HAL.out),HSS.out⟩
   case rest =>
   obtain⟨ab,rfl,rfl,hWb,hbW⟩:=hcut
   obtain⟨W,hW⟩:∃W,W=wc:=⟨_,rfl⟩
   rw[←hW] at hWb hbW ⊢
   clear hW
   have h6:=H5.out.ext hbW
   have k1:=cellOf hWb 1
   have y2:=cellOf h6.r.at_ 2
   (try dsimp only at k1 y2)
   have H6:=hid h6
   have HBW:=hid hbW
   clear hWb hbW h6
   have hN6:W.heap[N]?=some (.cells enZC.ar 30):=(H6.out.l.block N (by have:=HS0.out;omega)).trans HN0.out
   have hsz:(storeCells ⟨N,0,none⟩ enZC.cs 0).run Tryz.prog W=.ok () (W.setRow N enZC.ar):=stOld (P:=Tryz.prog) enZC.cs hN6 rfl (EnC.one _)
   have hlz:=ldEn (c:=enZC) (fr:=(0,0)) (setRow_heap W N enZC.ar enZC.ar 30 (0,0) hN6)
   dsimp only[EnC.ar,EnC.cs] at hlz hsz
   clear hN6
   go_wp2
   refine bodyPost_ret (v:=.tuple #[enZC.v,.int .i64 3]) (by simp[results,Tryz.results18,go_sem,hlz]) rfl ?_
   rw[HD.out]
   exact⟨enZC,rfl,enZ_is _ _,HWB.out.trans (((H6.out.l).mono (by have:=HS0.out;omega)).trans (setRow_below W N _))⟩
  ·have HOUT:=hid hin
   clear hin
   go_enter Tryz.func18,Tryz.ntmps18
   go_upto_region 3 with (fail)
   rw[←HW0.out,←HN.out,←HW1.out,←HW2.out]
   go_upto_region 4 with (first
    | (go_at_call 49;refine(rNum_call (N+1) s q1r HSZ.out _ H3.out.r).mono ?_;rintro x w4 ⟨rfl,hj,hg⟩;rw[HQ2.out.2] at hj;rw[HQ2.out.1];have h4:=H3.out.step hj hg;have c0:=cellOf h4.e 0;have c1:=cellOf h4.e 1;have f0:=freeOf h4.e 0;have f1:=freeOf h4.e 1;(try dsimp only at c0 c1);have H4:=hid h4;clear hj hg h4)
    | (go_at_call 49;refine(rNum_call (N+1) s ⟨0,0⟩ HSZ.out _ H2.out.r).mono ?_;rintro x w3 ⟨rfl,hj,hg⟩;rw[HQ1.out.2] at hj;rw[HQ1.out.1];have H3:=hid (H2.out.step hj hg);clear hj hg))
   obtain⟨w5,hw5⟩:∃w5,w5=(w4.setCell ⟨N+2,0,none⟩ (.int .i64 k)).setCell ⟨N+2,1,none⟩ (.int .i64 ti):=⟨_,rfl⟩
   have h5:RAt (N+1) (N+1) (N+2) s w0 { enZC with k:=k,ti:=ti } ⟨ri,re⟩ w5:=by
    rw[hw5]
    exact(H4.out.set (i:=0) (v:=.int .i64 k) (c':={ enZC with k:=k }) rfl).set (i:=1) (v:=.int .i64 ti) (c':={ enZC with k:=k,ti:=ti }) rfl
   rw[←hw5]
   have HC5:=hid (fun (w':World) (h:Below w5.heap.size w5 w')=>(show w'.cell? ⟨N+2,0,none⟩=some (.int .i64 k) from cellOf (heapExt h h5.e) 0))
   have H5:=hid h5
   clear hw5 h5 c0 c1 f0 f1
   go_cut [6,7] (fun a b wz=>∃ab:Nat,a=.pointer (some ⟨ab,0,none⟩)∧b=.bool false∧wz.heap[ab]?=some (.cells #[.nilFunc,.nilFunc] 83)∧Below w5.heap.size w5 wz)
   case first =>
    refine wp_region_held_drew (S:=(fun w'=>Below w5.heap.size w5 w')) (by kernel_rfl) ((Below.refl _ _).drew) (fun hS=>?_)
    refine tkQ 1 (v:=?_) ?_ hS ?_;rotate_left;· intro w' hw';have hcells:=HC5.out w' hw';go_simp;(try with_reducible rfl)
    simp only[Act.put,pt1,pt2,pt3,pt4,pt5,pt6]
    refine tkQ 2 (v:=?_) ?_ hS ?_;rotate_left;· intro w' hw';have hcells:=HC5.out w' hw';go_simp;(try with_reducible rfl)
    simp only[Act.put,pt1,pt2,pt3,pt4,pt5,pt6]
    refine wpAnyH_ready (rs:=[0,7]) (by kernel_rfl) (by simp) ?_
    refine AllReadyH.cons (o:=_) rfl (fun K hK=>?_) ?_
    ·go_simp;go_at_call 43;refine(forms_call _).mono ?_
     rintro x w6 ⟨bm,rfl,_,hfm,hb6⟩
     have HFM:=hid hfm
     have HB6:=hid (hS.trans (hb6.mono hS.size))
     refine hK.out _ _ (hS.trans (hb6.mono hS.size)) (fun hS=>?_)
     clear hK K
     (try simp only[Act.put,pt1,pt2,pt3,pt4,pt5,pt6])
     refine wpAnyH_ready (rs:=[3,7]) (by kernel_rfl) (by simp) ?_
     refine AllReadyH.cons (o:=_) rfl (fun K hK=>?_) ?_
     ·have hlk:(Instr.lookup 84 (.map (some bm)) (.int .i64 k) true).run Tryz.prog w6=.ok (.tuple #[.agg #[.nilFunc,.nilFunc],.bool false]) w6:=by
       have h1:=FormsAt.ok HFM.out k HI.out (w:=w6)
       rw[if_neg HOUT.out,decide_eq_false HOUT.out] at h1
       exact h1
      go_simp
      refine hK.out _ _ (hS) (fun hS=>?_)
      clear hK K
      (try simp only[Act.put,pt1,pt2,pt3,pt4,pt5,pt6])
      refine tkQ 4 (v:=?_) ?_ hS ?_;rotate_left;· intro w' hw';have hcells:=HC5.out w' hw';go_simp;(try with_reducible rfl)
      simp only[Act.put,pt1,pt2,pt3,pt4,pt5,pt6]
      refine tkQ 5 (v:=?_) ?_ hS ?_;rotate_left;· intro w' hw';have hcells:=HC5.out w' hw';go_simp;(try with_reducible rfl)
      simp only[Act.put,pt1,pt2,pt3,pt4,pt5,pt6]
      refine tkQ 6 (v:=?_) ?_ hS ?_;rotate_left;· intro w' hw';have hcells:=HC5.out w' hw';go_simp;(try with_reducible rfl)
      simp only[Act.put,pt1,pt2,pt3,pt4,pt5,pt6]
      refine wpAnyH_ready (rs:=[7]) (by kernel_rfl) (by simp) ?_
      refine AllReadyH.cons (o:=_) rfl (fun K hK=>?_) AllReadyH.nil
      go_simp
      refine hK.out _ _ (hS.alloc hS.size _) (fun hS=>?_)
      clear hK K
      (try simp only[Act.put,pt1,pt2,pt3,pt4,pt5,pt6])
      refine wpAnyH_ready (rs:=[8]) (by kernel_rfl) (by simp) ?_
      refine AllReadyH.cons (o:=_) rfl (fun K hK=>?_) AllReadyH.nil
      go_simp
      refine hK.out _ _ (HB6.out.alloc HB6.out.size _) (fun hS=>?_)
      clear hK K
      (try simp only[Act.put,pt1,pt2,pt3,pt4,pt5,pt6])
      refine tkQ 9 (v:=?_) ?_ hS ?_;rotate_left;· intro w' hw';have hcells:=HC5.out w' hw';go_simp;(try with_reducible rfl)
      simp only[Act.put,pt1,pt2,pt3,pt4,pt5,pt6]
      refine wpAnyH_done (by kernel_rfl) ?_ _
      (try dsimp only)
      clear hS
      go_wp2
      go_meet
      exact⟨_,rfl,rfl,heap_alloc_new w6 _,HB6.out.alloc HB6.out.size _⟩
     refine AllReadyH.cons (o:=_) rfl (fun K hK=>?_) AllReadyH.nil
     go_simp
     refine hK.out _ _ (hS.alloc hS.size _) (fun hS=>?_)
     clear hK K
     (try simp only[Act.put,pt1,pt2,pt3,pt4,pt5,pt6])
     refine wpAnyH_ready (rs:=[3]) (by kernel_rfl) (by simp) ?_
     refine AllReadyH.cons (o:=_) rfl (fun K hK=>?_) AllReadyH.nil
     have hlk:(Instr.lookup 84 (.map (some bm)) (.int .i64 k) true).run Tryz.prog (w6.alloc (.cells #[.nilFunc,.nilFunc] 83))=.ok (.tuple #[.agg #[.nilFunc,.nilFunc],.bool false]) (w6.alloc (.cells #[.nilFunc,.nilFunc] 83)):=by
      have h1:=FormsAt.ok (HFM.out.alloc _) k HI.out (w:=(w6.alloc (.cells #[.nilFunc,.nilFunc] 83)))
      rw[if_neg HOUT.out,decide_eq_false HOUT.out] at h1
      exact h1
     go_simp
     refine hK.out _ _ (hS) (fun hS=>?_)
     clear hK K
     (try simp only[Act.put,pt1,pt2,pt3,pt4,pt5,pt6])
     refine tkQ 4 (v:=?_) ?_ hS ?_;rotate_left;· intro w' hw';have hcells:=HC5.out w' hw';go_simp;(try with_reducible rfl)
     simp only[Act.put,pt1,pt2,pt3,pt4,pt5,pt6]
     refine tkQ 5 (v:=?_) ?_ hS ?_;rotate_left;· intro w' hw';have hcells:=HC5.out w' hw';go_simp;(try with_reducible rfl)
     simp only[Act.put,pt1,pt2,pt3,pt4,pt5,pt6]
     refine tkQ 6 (v:=?_) ?_ hS ?_;rotate_left;· intro w' hw';have hcells:=HC5.out w' hw';go_simp;(try with_reducible rfl)
     simp only[Act.put,pt1,pt2,pt3,pt4,pt5,pt6]
     refine wpAnyH_ready (rs:=[8]) (by kernel_rfl) (by simp) ?_
     refine AllReadyH.cons (o:=_) rfl (fun K hK=>?_) AllReadyH.nil
     go_simp
     refine hK.out _ _ (HB6.out.alloc HB6.out.size _) (fun hS=>?_)
     clear hK K
     (try simp only[Act.put,pt1,pt2,pt3,pt4,pt5,pt6])
     refine tkQ 9 (v:=?_) ?_ hS ?_;rotate_left;· intro w' hw';have hcells:=HC5.out w' hw';go_simp;(try with_reducible rfl)
     simp only[Act.put,pt1,pt2,pt3,pt4,pt5,pt6]
     refine wpAnyH_done (by kernel_rfl) ?_ _
     (try dsimp only)
     clear hS
     go_wp2
     go_meet
     exact⟨_,rfl,rfl,heap_alloc_new w6 _,HB6.out.alloc HB6.out.size _⟩
    refine AllReadyH.cons (o:=_) rfl (fun K hK=>?_) AllReadyH.nil
    go_simp
    have HAL0:=hid (show((w5.alloc (.cells #[.nilFunc,.nilFunc] 83)).drew).heap[w5.heap.size]?=some (.cells #[.nilFunc,.nilFunc] 83) from heap_alloc_new w5 _)
    refine hK.out _ _ (((Below.refl _ w5).alloc (Nat.le_refl _) _).drew) (fun hS=>?_)
    clear hK K
    (try simp only[Act.put,pt1,pt2,pt3,pt4,pt5,pt6])
    refine wpAnyH_ready (rs:=[0]) (by kernel_rfl) (by simp) ?_
    refine AllReadyH.cons (o:=_) rfl (fun K hK=>?_) AllReadyH.nil
    go_simp;go_at_call 43;refine(forms_call _).mono ?_
    rintro x w6 ⟨bm,rfl,_,hfm,hb6⟩
    have HFM:=hid hfm
    have HB6:=hid (hS.trans (hb6.mono hS.size))
    have HAL:=hid ((hb6.block _ (ltOf HAL0.out)).trans HAL0.out)
    refine hK.out _ _ (hS.trans (hb6.mono hS.size)) (fun hS=>?_)
    clear hK K
    (try simp only[Act.put,pt1,pt2,pt3,pt4,pt5,pt6])
    refine wpAnyH_ready (rs:=[3]) (by kernel_rfl) (by simp) ?_
    refine AllReadyH.cons (o:=_) rfl (fun K hK=>?_) AllReadyH.nil
    have hlk:(Instr.lookup 84 (.map (some bm)) (.int .i64 k) true).run Tryz.prog w6=.ok (.tuple #[.agg #[.nilFunc,.nilFunc],.bool false]) w6:=by
     have h1:=FormsAt.ok HFM.out k HI.out (w:=w6)
     rw[if_neg HOUT.out,decide_eq_false HOUT.out] at h1
     exact h1
    go_simp
    refine hK.out _ _ (hS) (fun hS=>?_)
    clear hK K
    (try simp only[Act.put,pt1,pt2,pt3,pt4,pt5,pt6])
    refine tkQ 4 (v:=?_) ?_ hS ?_;rotate_left;· intro w' hw';have hcells:=HC5.out w' hw';go_simp;(try with_reducible rfl)
    simp only[Act.put,pt1,pt2,pt3,pt4,pt5,pt6]
    refine tkQ 5 (v:=?_) ?_ hS ?_;rotate_left;· intro w' hw';have hcells:=HC5.out w' hw';go_simp;(try with_reducible rfl)
    simp only[Act.put,pt1,pt2,pt3,pt4,pt5,pt6]
    refine tkQ 6 (v:=?_) ?_ hS ?_;rotate_left;· intro w' hw';have hcells:=HC5.out w' hw';go_simp;(try with_reducible rfl)
    simp only[Act.put,pt1,pt2,pt3,pt4,pt5,pt6]
    refine wpAnyH_ready (rs:=[8]) (by kernel_rfl) (by simp) ?_
    refine AllReadyH.cons (o:=_) rfl (fun K hK=>?_) AllReadyH.nil
    have hal:=HAL.out
    have u0:=cellOf hal 0
    have u1:=cellOf hal 1
    have g0:=freeOf hal 0
    have g1:=freeOf hal 1
    (try dsimp only at u0 u1)
    go_simp
    refine hK.out _ _ ((hS.setCell (p:=⟨w5.heap.size,0,none⟩) (Nat.le_refl _) _).setCell (p:=⟨w5.heap.size,1,none⟩) (Nat.le_refl _) _) (fun hS=>?_)
    clear hK K
    (try simp only[Act.put,pt1,pt2,pt3,pt4,pt5,pt6])
    refine tkQ 9 (v:=?_) ?_ hS ?_;rotate_left;· intro w' hw';have hcells:=HC5.out w' hw';go_simp;(try with_reducible rfl)
    simp only[Act.put,pt1,pt2,pt3,pt4,pt5,pt6]
    refine wpAnyH_done (by kernel_rfl) ?_ _
    (try dsimp only)
    have HSS:=hid hS
    clear hS
    go_wp2
    go_meet
    exact⟨_,rfl,rfl,set_heapJ (set_heapJ HAL.out),HSS.out⟩
   case rest =>
   obtain⟨ab,rfl,rfl,hWb,hbW⟩:=hcut
   obtain⟨W,hW⟩:∃W,W=wc:=⟨_,rfl⟩
   rw[←hW] at hWb hbW ⊢
   clear hW
   have h6:=H5.out.ext hbW
   have k1:=cellOf hWb 1
   have y2:=cellOf h6.r.at_ 2
   (try dsimp only at k1 y2)
   have H6:=hid h6
   have HBW:=hid hbW
   clear hWb hbW h6
   have hN6:W.heap[N]?=some (.cells enZC.ar 30):=(H6.out.l.block N (by have:=HS0.out;omega)).trans HN0.out
   have hsz:(storeCells ⟨N,0,none⟩ enZC.cs 0).run Tryz.prog W=.ok () (W.setRow N enZC.ar):=stOld (P:=Tryz.prog) enZC.cs hN6 rfl (EnC.one _)
   have hlz:=ldEn (c:=enZC) (fr:=(0,0)) (setRow_heap W N enZC.ar enZC.ar 30 (0,0) hN6)
   dsimp only[EnC.ar,EnC.cs] at hlz hsz
   clear hN6
   go_wp2
   refine bodyPost_ret (v:=.tuple #[enZC.v,.int .i64 3]) (by simp[results,Tryz.results18,go_sem,hlz]) rfl ?_
   rw[HD.out]
   exact⟨enZC,rfl,enZ_is _ _,HWB.out.trans (((H6.out.l).mono (by have:=HS0.out;omega)).trans (setRow_below W N _))⟩
 have q0:(re != 0)=false:=by simp[he]
 have HE:=hid he
 clear he
 by_cases hin:1≤k∧k≤6
 rotate_left
 ·have HD:=hid (show D=(enZ,3) by rw[HDEC.out,if_pos (.inr (by omega))])
  have HOUT:=hid hin
  clear hin
  go_enter Tryz.func18,Tryz.ntmps18
  go_upto_region 3 with (fail)
  rw[←HW0.out,←HN.out,←HW1.out,←HW2.out]
  go_upto_region 4 with (first
   | (go_at_call 49;refine(rNum_call (N+1) s q1r HSZ.out _ H3.out.r).mono ?_;rintro x w4 ⟨rfl,hj,hg⟩;rw[HQ2.out.2] at hj;rw[HQ2.out.1];have h4:=H3.out.step hj hg;have c0:=cellOf h4.e 0;have c1:=cellOf h4.e 1;have f0:=freeOf h4.e 0;have f1:=freeOf h4.e 1;(try dsimp only at c0 c1);have H4:=hid h4;clear hj hg h4)
   | (go_at_call 49;refine(rNum_call (N+1) s ⟨0,0⟩ HSZ.out _ H2.out.r).mono ?_;rintro x w3 ⟨rfl,hj,hg⟩;rw[HQ1.out.2] at hj;rw[HQ1.out.1];have H3:=hid (H2.out.step hj hg);clear hj hg))
  obtain⟨w5,hw5⟩:∃w5,w5=(w4.setCell ⟨N+2,0,none⟩ (.int .i64 k)).setCell ⟨N+2,1,none⟩ (.int .i64 ti):=⟨_,rfl⟩
  have h5:RAt (N+1) (N+1) (N+2) s w0 { enZC with k:=k,ti:=ti } ⟨ri,re⟩ w5:=by
   rw[hw5]
   exact(H4.out.set (i:=0) (v:=.int .i64 k) (c':={ enZC with k:=k }) rfl).set (i:=1) (v:=.int .i64 ti) (c':={ enZC with k:=k,ti:=ti }) rfl
  rw[←hw5]
  have HC5:=hid (fun (w':World) (h:Below w5.heap.size w5 w')=>(show w'.cell? ⟨N+2,0,none⟩=some (.int .i64 k) from cellOf (heapExt h h5.e) 0))
  have H5:=hid h5
  clear hw5 h5 c0 c1 f0 f1
  go_cut [6,7] (fun a b wz=>∃ab:Nat,a=.pointer (some ⟨ab,0,none⟩)∧b=.bool false∧wz.heap[ab]?=some (.cells #[.nilFunc,.nilFunc] 83)∧Below w5.heap.size w5 wz)
  case first =>
   refine wp_region_held_drew (S:=(fun w'=>Below w5.heap.size w5 w')) (by kernel_rfl) ((Below.refl _ _).drew) (fun hS=>?_)
   refine tkQ 1 (v:=?_) ?_ hS ?_;rotate_left;· intro w' hw';have hcells:=HC5.out w' hw';go_simp;(try with_reducible rfl)
   simp only[Act.put,pt1,pt2,pt3,pt4,pt5,pt6]
   refine tkQ 2 (v:=?_) ?_ hS ?_;rotate_left;· intro w' hw';have hcells:=HC5.out w' hw';go_simp;(try with_reducible rfl)
   simp only[Act.put,pt1,pt2,pt3,pt4,pt5,pt6]
   refine wpAnyH_ready (rs:=[0,7]) (by kernel_rfl) (by simp) ?_
   refine AllReadyH.cons (o:=_) rfl (fun K hK=>?_) ?_
   ·go_simp;go_at_call 43;refine(forms_call _).mono ?_
    rintro x w6 ⟨bm,rfl,_,hfm,hb6⟩
    have HFM:=hid hfm
    have HB6:=hid (hS.trans (hb6.mono hS.size))
    refine hK.out _ _ (hS.trans (hb6.mono hS.size)) (fun hS=>?_)
    clear hK K
    (try simp only[Act.put,pt1,pt2,pt3,pt4,pt5,pt6])
    refine wpAnyH_ready (rs:=[3,7]) (by kernel_rfl) (by simp) ?_
    refine AllReadyH.cons (o:=_) rfl (fun K hK=>?_) ?_
    ·have hlk:(Instr.lookup 84 (.map (some bm)) (.int .i64 k) true).run Tryz.prog w6=.ok (.tuple #[.agg #[.nilFunc,.nilFunc],.bool false]) w6:=by
      have h1:=FormsAt.ok HFM.out k HI.out (w:=w6)
      rw[if_neg HOUT.out,decide_eq_false HOUT.out] at h1
      exact h1
     go_simp
     refine hK.out _ _ (hS) (fun hS=>?_)
     clear hK K
     (try simp only[Act.put,pt1,pt2,pt3,pt4,pt5,pt6])
     refine tkQ 4 (v:=?_) ?_ hS ?_;rotate_left;· intro w' hw';have hcells:=HC5.out w' hw';go_simp;(try with_reducible rfl)
     simp only[Act.put,pt1,pt2,pt3,pt4,pt5,pt6]
     refine tkQ 5 (v:=?_) ?_ hS ?_;rotate_left;· intro w' hw';have hcells:=HC5.out w' hw';go_simp;(try with_reducible rfl)
     simp only[Act.put,pt1,pt2,pt3,pt4,pt5,pt6]
     refine tkQ 6 (v:=?_) ?_ hS ?_;rotate_left;· intro w' hw';have hcells:=HC5.out w' hw';go_simp;(try with_reducible rfl)
     simp only[Act.put,pt1,pt2,pt3,pt4,pt5,pt6]
     refine wpAnyH_ready (rs:=[7]) (by kernel_rfl) (by simp) ?_
     refine AllReadyH.cons (o:=_) rfl (fun K hK=>?_) AllReadyH.nil
     go_simp
     refine hK.out _ _ (hS.alloc hS.size _) (fun hS=>?_)
     clear hK K
     (try simp only[Act.put,pt1,pt2,pt3,pt4,pt5,pt6])
     refine wpAnyH_ready (rs:=[8]) (by kernel_rfl) (by simp) ?_
     refine AllReadyH.cons (o:=_) rfl (fun K hK=>?_) AllReadyH.nil
     go_simp
     refine hK.out _ _ (HB6.out.alloc HB6.out.size _) (fun hS=>?_)
     clear hK K
     (try simp only[Act.put,pt1,pt2,pt3,pt4,pt5,pt6])
     refine tkQ 9 (v:=?_) ?_ hS ?_;rotate_left;· intro w' hw';have hcells:=HC5.out w' hw';go_simp;(try with_reducible rfl)
     simp only[Act.put,pt1,pt2,pt3,pt4,pt5,pt6]
     refine wpAnyH_done (by kernel_rfl) ?_ _
     (try dsimp only)
     clear hS
     go_wp2
     go_meet
     exact⟨_,rfl,rfl,heap_alloc_new w6 _,HB6.out.alloc HB6.out.size _⟩
    refine AllReadyH.cons (o:=_) rfl (fun K hK=>?_) AllReadyH.nil
    go_simp
    refine hK.out _ _ (hS.alloc hS.size _) (fun hS=>?_)
    clear hK K
    (try simp only[Act.put,pt1,pt2,pt3,pt4,pt5,pt6])
    refine wpAnyH_ready (rs:=[3]) (by kernel_rfl) (by simp) ?_
    refine AllReadyH.cons (o:=_) rfl (fun K hK=>?_) AllReadyH.nil
    have hlk:(Instr.lookup 84 (.map (some bm)) (.int .i64 k) true).run Tryz.prog (w6.alloc (.cells #[.nilFunc,.nilFunc] 83))=.ok (.tuple #[.agg #[.nilFunc,.nilFunc],.bool false]) (w6.alloc (.cells #[.nilFunc,.nilFunc] 83)):=by
     have h1:=FormsAt.ok (HFM.out.alloc _) k HI.out (w:=(w6.alloc (.cells #[.nilFunc,.nilFunc] 83)))
     rw[if_neg HOUT.out,decide_eq_false HOUT.out] at h1
     exact h1
    go_simp
    refine hK.out _ _ (hS) (fun hS=>?_)
    clear hK K
    (try simp only[Act.put,pt1,pt2,pt3,pt4,pt5,pt6])
    refine tkQ 4 (v:=?_) ?_ hS ?_;rotate_left;· intro w' hw';have hcells:=HC5.out w' hw';go_simp;(try with_reducible rfl)
    simp only[Act.put,pt1,pt2,pt3,pt4,pt5,pt6]
    refine tkQ 5 (v:=?_) ?_ hS ?_;rotate_left;· intro w' hw';have hcells:=HC5.out w' hw';go_simp;(try with_reducible rfl)
    simp only[Act.put,pt1,pt2,pt3,pt4,pt5,pt6]
    refine tkQ 6 (v:=?_) ?_ hS ?_;rotate_left;· intro w' hw';have hcells:=HC5.out w' hw';go_simp;(try with_reducible rfl)
    simp only[Act.put,pt1,pt2,pt3,pt4,pt5,pt6]
    refine wpAnyH_ready (rs:=[8]) (by kernel_rfl) (by simp) ?_
    refine AllReadyH.cons (o:=_) rfl (fun K hK=>?_) AllReadyH.nil
    go_simp
    refine hK.out _ _ (HB6.out.alloc HB6.out.size _) (fun hS=>?_)
    clear hK K
    (try simp only[Act.put,pt1,pt2,pt3,pt4,pt5,pt6])
    refine tkQ 9 (v:=?_) ?_ hS ?_;rotate_left;· intro w' hw';have hcells:=HC5.out w' hw';go_simp;(try with_reducible rfl)
    simp only[Act.put,pt1,pt2,pt3,pt4,pt5,pt6]
    refine wpAnyH_done (by kernel_rfl) ?_ _
    (try dsimp only)
    clear hS
    go_wp2
    go_meet
    exact⟨_,rfl,rfl,heap_alloc_new w6 _,HB6.out.alloc HB6.out.size _⟩
   refine AllReadyH.cons (o:=_) rfl (fun K hK=>?_) AllReadyH.nil
   go_simp
   have HAL0:=hid (show((w5.alloc (.cells #[.nilFunc,.nilFunc] 83)).drew).heap[w5.heap.size]?=some (.cells #[.nilFunc,.nilFunc] 83) from heap_alloc_new w5 _)
   refine hK.out _ _ (((Below.refl _ w5).alloc (Nat.le_refl _) _).drew) (fun hS=>?_)
   clear hK K
   (try simp only[Act.put,pt1,pt2,pt3,pt4,pt5,pt6])
   refine wpAnyH_ready (rs:=[0]) (by kernel_rfl) (by simp) ?_
   refine AllReadyH.cons (o:=_) rfl (fun K hK=>?_) AllReadyH.nil
   go_simp;go_at_call 43;refine(forms_call _).mono ?_
   rintro x w6 ⟨bm,rfl,_,hfm,hb6⟩
   have HFM:=hid hfm
   have HB6:=hid (hS.trans (hb6.mono hS.size))
   have HAL:=hid ((hb6.block _ (ltOf HAL0.out)).trans HAL0.out)
   refine hK.out _ _ (hS.trans (hb6.mono hS.size)) (fun hS=>?_)
   clear hK K
   (try simp only[Act.put,pt1,pt2,pt3,pt4,pt5,pt6])
   refine wpAnyH_ready (rs:=[3]) (by kernel_rfl) (by simp) ?_
   refine AllReadyH.cons (o:=_) rfl (fun K hK=>?_) AllReadyH.nil
   have hlk:(Instr.lookup 84 (.map (some bm)) (.int .i64 k) true).run Tryz.prog w6=.ok (.tuple #[.agg #[.nilFunc,.nilFunc],.bool false]) w6:=by
    have h1:=FormsAt.ok HFM.out k HI.out (w:=w6)
    rw[if_neg HOUT.out,decide_eq_false HOUT.out] at h1
    exact h1
   go_simp
   refine hK.out _ _ (hS) (fun hS=>?_)
   clear hK K
   (try simp only[Act.put,pt1,pt2,pt3,pt4,pt5,pt6])
   refine tkQ 4 (v:=?_) ?_ hS ?_;rotate_left;· intro w' hw';have hcells:=HC5.out w' hw';go_simp;(try with_reducible rfl)
   simp only[Act.put,pt1,pt2,pt3,pt4,pt5,pt6]
   refine tkQ 5 (v:=?_) ?_ hS ?_;rotate_left;· intro w' hw';have hcells:=HC5.out w' hw';go_simp;(try with_reducible rfl)
   simp only[Act.put,pt1,pt2,pt3,pt4,pt5,pt6]
   refine tkQ 6 (v:=?_) ?_ hS ?_;rotate_left;· intro w' hw';have hcells:=HC5.out w' hw';go_simp;(try with_reducible rfl)
   simp only[Act.put,pt1,pt2,pt3,pt4,pt5,pt6]
   refine wpAnyH_ready (rs:=[8]) (by kernel_rfl) (by simp) ?_
   refine AllReadyH.cons (o:=_) rfl (fun K hK=>?_) AllReadyH.nil
   have hal:=HAL.out
   have u0:=cellOf hal 0
   have u1:=cellOf hal 1
   have g0:=freeOf hal 0
   have g1:=freeOf hal 1
   (try dsimp only at u0 u1)
   go_simp
   refine hK.out _ _ ((hS.setCell (p:=⟨w5.heap.size,0,none⟩) (Nat.le_refl _) _).setCell (p:=⟨w5.heap.size,1,none⟩) (Nat.le_refl _) _) (fun hS=>?_)
   clear hK K
   (try simp only[Act.put,pt1,pt2,pt3,pt4,pt5,pt6])
   refine tkQ 9 (v:=?_) ?_ hS ?_;rotate_left;· intro w' hw';have hcells:=HC5.out w' hw';go_simp;(try with_reducible rfl)
   simp only[Act.put,pt1,pt2,pt3,pt4,pt5,pt6]
   refine wpAnyH_done (by kernel_rfl) ?_ _
   (try dsimp only)
   have HSS:=hid hS
   clear hS
   go_wp2
   go_meet
   exact⟨_,rfl,rfl,set_heapJ (set_heapJ HAL.out),HSS.out⟩
  case rest =>
  obtain⟨ab,rfl,rfl,hWb,hbW⟩:=hcut
  obtain⟨W,hW⟩:∃W,W=wc:=⟨_,rfl⟩
  rw[←hW] at hWb hbW ⊢
  clear hW
  have h6:=H5.out.ext hbW
  have k1:=cellOf hWb 1
  have y2:=cellOf h6.r.at_ 2
  (try dsimp only at k1 y2)
  have H6:=hid h6
  have HBW:=hid hbW
  clear hWb hbW h6
  have hN6:W.heap[N]?=some (.cells enZC.ar 30):=(H6.out.l.block N (by have:=HS0.out;omega)).trans HN0.out
  have hsz:(storeCells ⟨N,0,none⟩ enZC.cs 0).run Tryz.prog W=.ok () (W.setRow N enZC.ar):=stOld (P:=Tryz.prog) enZC.cs hN6 rfl (EnC.one _)
  have hlz:=ldEn (c:=enZC) (fr:=(0,0)) (setRow_heap W N enZC.ar enZC.ar 30 (0,0) hN6)
  dsimp only[EnC.ar,EnC.cs] at hlz hsz
  clear hN6
  go_wp2
  refine bodyPost_ret (v:=.tuple #[enZC.v,.int .i64 3]) (by simp[results,Tryz.results18,go_sem,hlz]) rfl ?_
  rw[HD.out]
  exact⟨enZC,rfl,enZ_is _ _,HWB.out.trans (((H6.out.l).mono (by have:=HS0.out;omega)).trans (setRow_below W N _))⟩
 obtain⟨F,hF⟩:∃F,F=rNo k:=⟨_,rfl⟩
 have HF:=hid hF
 have HIN:=hid hin
 have hent:∀args w',(callFunc F args).run Tryz.prog w'=.ok (.enter F args) w':=by rw[hF];exact enters_rNo k
 clear hF hin
 go_enter Tryz.func18,Tryz.ntmps18
 go_upto_region 3 with (fail)
 rw[←HW0.out,←HN.out,←HW1.out,←HW2.out]
 go_upto_region 4 with (first
  | (go_at_call 49;refine(rNum_call (N+1) s q1r HSZ.out _ H3.out.r).mono ?_;rintro x w4 ⟨rfl,hj,hg⟩;rw[HQ2.out.2] at hj;rw[HQ2.out.1];have h4:=H3.out.step hj hg;have c0:=cellOf h4.e 0;have c1:=cellOf h4.e 1;have f0:=freeOf h4.e 0;have f1:=freeOf h4.e 1;(try dsimp only at c0 c1);have H4:=hid h4;clear hj hg h4)
  | (go_at_call 49;refine(rNum_call (N+1) s ⟨0,0⟩ HSZ.out _ H2.out.r).mono ?_;rintro x w3 ⟨rfl,hj,hg⟩;rw[HQ1.out.2] at hj;rw[HQ1.out.1];have H3:=hid (H2.out.step hj hg);clear hj hg))
 obtain⟨w5,hw5⟩:∃w5,w5=(w4.setCell ⟨N+2,0,none⟩ (.int .i64 k)).setCell ⟨N+2,1,none⟩ (.int .i64 ti):=⟨_,rfl⟩
 have h5:RAt (N+1) (N+1) (N+2) s w0 { enZC with k:=k,ti:=ti } ⟨ri,re⟩ w5:=by
  rw[hw5]
  exact(H4.out.set (i:=0) (v:=.int .i64 k) (c':={ enZC with k:=k }) rfl).set (i:=1) (v:=.int .i64 ti) (c':={ enZC with k:=k,ti:=ti }) rfl
 rw[←hw5]
 have HC5:=hid (fun (w':World) (h:Below w5.heap.size w5 w')=>(show w'.cell? ⟨N+2,0,none⟩=some (.int .i64 k) from cellOf (heapExt h h5.e) 0))
 have H5:=hid h5
 clear hw5 h5 c0 c1 f0 f1
 go_cut [6,7] (fun a b wz=>∃ab:Nat,a=.pointer (some ⟨ab,0,none⟩)∧b=.bool true∧wz.heap[ab]?=some (.cells #[.func (.func (wNo k)) #[] #[],.func (.func F) #[] #[]] 83)∧Below w5.heap.size w5 wz)
 case first =>
  refine wp_region_held_drew (S:=(fun w'=>Below w5.heap.size w5 w')) (by kernel_rfl) ((Below.refl _ _).drew) (fun hS=>?_)
  refine tkQ 1 (v:=?_) ?_ hS ?_;rotate_left;· intro w' hw';have hcells:=HC5.out w' hw';go_simp;(try with_reducible rfl)
  simp only[Act.put,pt1,pt2,pt3,pt4,pt5,pt6]
  refine tkQ 2 (v:=?_) ?_ hS ?_;rotate_left;· intro w' hw';have hcells:=HC5.out w' hw';go_simp;(try with_reducible rfl)
  simp only[Act.put,pt1,pt2,pt3,pt4,pt5,pt6]
  refine wpAnyH_ready (rs:=[0,7]) (by kernel_rfl) (by simp) ?_
  refine AllReadyH.cons (o:=_) rfl (fun K hK=>?_) ?_
  ·go_simp;go_at_call 43;refine(forms_call _).mono ?_
   rintro x w6 ⟨bm,rfl,_,hfm,hb6⟩
   have HFM:=hid hfm
   have HB6:=hid (hS.trans (hb6.mono hS.size))
   refine hK.out _ _ (hS.trans (hb6.mono hS.size)) (fun hS=>?_)
   clear hK K
   (try simp only[Act.put,pt1,pt2,pt3,pt4,pt5,pt6])
   refine wpAnyH_ready (rs:=[3,7]) (by kernel_rfl) (by simp) ?_
   refine AllReadyH.cons (o:=_) rfl (fun K hK=>?_) ?_
   ·have hlk:(Instr.lookup 84 (.map (some bm)) (.int .i64 k) true).run Tryz.prog w6=.ok (.tuple #[.agg #[.func (.func (wNo k)) #[] #[],.func (.func F) #[] #[]],.bool true]) w6:=by
     have h1:=FormsAt.ok HFM.out k HI.out (w:=w6)
     rw[if_pos HIN.out,decide_eq_true HIN.out] at h1
     rw[HF.out];exact h1
    go_simp
    refine hK.out _ _ (hS) (fun hS=>?_)
    clear hK K
    (try simp only[Act.put,pt1,pt2,pt3,pt4,pt5,pt6])
    refine tkQ 4 (v:=?_) ?_ hS ?_;rotate_left;· intro w' hw';have hcells:=HC5.out w' hw';go_simp;(try with_reducible rfl)
    simp only[Act.put,pt1,pt2,pt3,pt4,pt5,pt6]
    refine tkQ 5 (v:=?_) ?_ hS ?_;rotate_left;· intro w' hw';have hcells:=HC5.out w' hw';go_simp;(try with_reducible rfl)
    simp only[Act.put,pt1,pt2,pt3,pt4,pt5,pt6]
    refine tkQ 6 (v:=?_) ?_ hS ?_;rotate_left;· intro w' hw';have hcells:=HC5.out w' hw';go_simp;(try with_reducible rfl)
    simp only[Act.put,pt1,pt2,pt3,pt4,pt5,pt6]
    refine wpAnyH_ready (rs:=[7]) (by kernel_rfl) (by simp) ?_
    refine AllReadyH.cons (o:=_) rfl (fun K hK=>?_) AllReadyH.nil
    go_simp
    refine hK.out _ _ (hS.alloc hS.size _) (fun hS=>?_)
    clear hK K
    (try simp only[Act.put,pt1,pt2,pt3,pt4,pt5,pt6])
    refine wpAnyH_ready (rs:=[8]) (by kernel_rfl) (by simp) ?_
    refine AllReadyH.cons (o:=_) rfl (fun K hK=>?_) AllReadyH.nil
    go_simp
    refine hK.out _ _ (HB6.out.alloc HB6.out.size _) (fun hS=>?_)
    clear hK K
    (try simp only[Act.put,pt1,pt2,pt3,pt4,pt5,pt6])
    refine tkQ 9 (v:=?_) ?_ hS ?_;rotate_left;· intro w' hw';have hcells:=HC5.out w' hw';go_simp;(try with_reducible rfl)
    simp only[Act.put,pt1,pt2,pt3,pt4,pt5,pt6]
    refine wpAnyH_done (by kernel_rfl) ?_ _
    (try dsimp only)
    clear hS
    go_wp2
    go_meet
    exact⟨_,rfl,rfl,heap_alloc_new w6 _,HB6.out.alloc HB6.out.size _⟩
   refine AllReadyH.cons (o:=_) rfl (fun K hK=>?_) AllReadyH.nil
   go_simp
   refine hK.out _ _ (hS.alloc hS.size _) (fun hS=>?_)
   clear hK K
   (try simp only[Act.put,pt1,pt2,pt3,pt4,pt5,pt6])
   refine wpAnyH_ready (rs:=[3]) (by kernel_rfl) (by simp) ?_
   refine AllReadyH.cons (o:=_) rfl (fun K hK=>?_) AllReadyH.nil
   have hlk:(Instr.lookup 84 (.map (some bm)) (.int .i64 k) true).run Tryz.prog (w6.alloc (.cells #[.nilFunc,.nilFunc] 83))=.ok (.tuple #[.agg #[.func (.func (wNo k)) #[] #[],.func (.func F) #[] #[]],.bool true]) (w6.alloc (.cells #[.nilFunc,.nilFunc] 83)):=by
    have h1:=FormsAt.ok (HFM.out.alloc _) k HI.out (w:=(w6.alloc (.cells #[.nilFunc,.nilFunc] 83)))
    rw[if_pos HIN.out,decide_eq_true HIN.out] at h1
    rw[HF.out];exact h1
   go_simp
   refine hK.out _ _ (hS) (fun hS=>?_)
   clear hK K
   (try simp only[Act.put,pt1,pt2,pt3,pt4,pt5,pt6])
   refine tkQ 4 (v:=?_) ?_ hS ?_;rotate_left;· intro w' hw';have hcells:=HC5.out w' hw';go_simp;(try with_reducible rfl)
   simp only[Act.put,pt1,pt2,pt3,pt4,pt5,pt6]
   refine tkQ 5 (v:=?_) ?_ hS ?_;rotate_left;· intro w' hw';have hcells:=HC5.out w' hw';go_simp;(try with_reducible rfl)
   simp only[Act.put,pt1,pt2,pt3,pt4,pt5,pt6]
   refine tkQ 6 (v:=?_) ?_ hS ?_;rotate_left;· intro w' hw';have hcells:=HC5.out w' hw';go_simp;(try with_reducible rfl)
   simp only[Act.put,pt1,pt2,pt3,pt4,pt5,pt6]
   refine wpAnyH_ready (rs:=[8]) (by kernel_rfl) (by simp) ?_
   refine AllReadyH.cons (o:=_) rfl (fun K hK=>?_) AllReadyH.nil
   go_simp
   refine hK.out _ _ (HB6.out.alloc HB6.out.size _) (fun hS=>?_)
   clear hK K
   (try simp only[Act.put,pt1,pt2,pt3,pt4,pt5,pt6])
   refine tkQ 9 (v:=?_) ?_ hS ?_;rotate_left;· intro w' hw';have hcells:=HC5.out w' hw';go_simp;(try with_reducible rfl)
   simp only[Act.put,pt1,pt2,pt3,pt4,pt5,pt6]
   refine wpAnyH_done (by kernel_rfl) ?_ _
   (try dsimp only)
   clear hS
   go_wp2
   go_meet
   exact⟨_,rfl,rfl,heap_alloc_new w6 _,HB6.out.alloc HB6.out.size _⟩
  refine AllReadyH.cons (o:=_) rfl (fun K hK=>?_) AllReadyH.nil
  go_simp
  have HAL0:=hid (show((w5.alloc (.cells #[.nilFunc,.nilFunc] 83)).drew).heap[w5.heap.size]?=some (.cells #[.nilFunc,.nilFunc] 83) from heap_alloc_new w5 _)
  refine hK.out _ _ (((Below.refl _ w5).alloc (Nat.le_refl _) _).drew) (fun hS=>?_)
  clear hK K
  (try simp only[Act.put,pt1,pt2,pt3,pt4,pt5,pt6])
  refine wpAnyH_ready (rs:=[0]) (by kernel_rfl) (by simp) ?_
  refine AllReadyH.cons (o:=_) rfl (fun K hK=>?_) AllReadyH.nil
  go_simp;go_at_call 43;refine(forms_call _).mono ?_
  rintro x w6 ⟨bm,rfl,_,hfm,hb6⟩
  have HFM:=hid hfm
  have HB6:=hid (hS.trans (hb6.mono hS.size))
  have HAL:=hid ((hb6.block _ (ltOf HAL0.out)).trans HAL0.out)
  refine hK.out _ _ (hS.trans (hb6.mono hS.size)) (fun hS=>?_)
  clear hK K
  (try simp only[Act.put,pt1,pt2,pt3,pt4,pt5,pt6])
  refine wpAnyH_ready (rs:=[3]) (by kernel_rfl) (by simp) ?_
  refine AllReadyH.cons (o:=_) rfl (fun K hK=>?_) AllReadyH.nil
  have hlk:(Instr.lookup 84 (.map (some bm)) (.int .i64 k) true).run Tryz.prog w6=.ok (.tuple #[.agg #[.func (.func (wNo k)) #[] #[],.func (.func F) #[] #[]],.bool true]) w6:=by
   have h1:=FormsAt.ok HFM.out k HI.out (w:=w6)
   rw[if_pos HIN.out,decide_eq_true HIN.out] at h1
   rw[HF.out];exact h1
  go_simp
  refine hK.out _ _ (hS) (fun hS=>?_)
  clear hK K
  (try simp only[Act.put,pt1,pt2,pt3,pt4,pt5,pt6])
  refine tkQ 4 (v:=?_) ?_ hS ?_;rotate_left;· intro w' hw';have hcells:=HC5.out w' hw';go_simp;(try with_reducible rfl)
  simp only[Act.put,pt1,pt2,pt3,pt4,pt5,pt6]
  refine tkQ 5 (v:=?_) ?_ hS ?_;rotate_left;· intro w' hw';have hcells:=HC5.out w' hw';go_simp;(try with_reducible rfl)
  simp only[Act.put,pt1,pt2,pt3,pt4,pt5,pt6]
  refine tkQ 6 (v:=?_) ?_ hS ?_;rotate_left;· intro w' hw';have hcells:=HC5.out w' hw';go_simp;(try with_reducible rfl)
  simp only[Act.put,pt1,pt2,pt3,pt4,pt5,pt6]
  refine wpAnyH_ready (rs:=[8]) (by kernel_rfl) (by simp) ?_
  refine AllReadyH.cons (o:=_) rfl (fun K hK=>?_) AllReadyH.nil
  have hal:=HAL.out
  have u0:=cellOf hal 0
  have u1:=cellOf hal 1
  have g0:=freeOf hal 0
  have g1:=freeOf hal 1
  (try dsimp only at u0 u1)
  go_simp
  refine hK.out _ _ ((hS.setCell (p:=⟨w5.heap.size,0,none⟩) (Nat.le_refl _) _).setCell (p:=⟨w5.heap.size,1,none⟩) (Nat.le_refl _) _) (fun hS=>?_)
  clear hK K
  (try simp only[Act.put,pt1,pt2,pt3,pt4,pt5,pt6])
  refine tkQ 9 (v:=?_) ?_ hS ?_;rotate_left;· intro w' hw';have hcells:=HC5.out w' hw';go_simp;(try with_reducible rfl)
  simp only[Act.put,pt1,pt2,pt3,pt4,pt5,pt6]
  refine wpAnyH_done (by kernel_rfl) ?_ _
  (try dsimp only)
  have HSS:=hid hS
  clear hS
  go_wp2
  go_meet
  exact⟨_,rfl,rfl,set_heapJ (set_heapJ HAL.out),HSS.out⟩
 case rest =>
 obtain⟨ab,rfl,rfl,hWb,hbW⟩:=hcut
 obtain⟨W,hW⟩:∃W,W=wc:=⟨_,rfl⟩
 rw[←hW] at hWb hbW ⊢
 clear hW
 have h6:=H5.out.ext hbW
 have k1:=cellOf hWb 1
 have y2:=cellOf h6.r.at_ 2
 (try dsimp only at k1 y2)
 have H6:=hid h6
 have HBW:=hid hbW
 clear hWb hbW h6
 clear HBW
 have hrd:=rdK_call (N+1) (N+1) (N+2) s ⟨ri,re⟩ k ti HI.out HIT.out HIN.out.1 HIN.out.2 w0 W HSM.out H6.out HS0.out.symm HTW.out.1 HTW.out.2.2 HBOD.out
 rw[←HF.out] at hrd
 obtain⟨R,hR⟩:∃R,R=rdJ s { enZ with k:=k,ti:=ti } ⟨ri,re⟩:=⟨_,rfl⟩
 rw[←hR] at hrd
 have HRD:=hid hrd
 have HDR:=hid (show D=if R.2.e≠0∨encJ R.1≠(s,0) then (enZ,3) else (R.1,0) by rw[hR,HDEC.out,if_neg (by have h1:=HE.out;have h2:=HIN.out;omega)])
 have HSMR:=hid (show R.1.nm.size≤1000000∧R.1.nd.size≤1000000∧R.1.tx.size≤1000000 by rw[hR];have h1:=rdJ_small s k ti ⟨ri,re⟩;have h2:=HSM.out;exact⟨Nat.le_trans h1.1 h2,Nat.le_trans h1.2.1 h2,Nat.le_trans h1.2.2 h2⟩)
 have HNW:=hid (show N+1≤W.heap.size from H6.out.n.2.2.2)
 clear hrd hR
 go_upto_region 8 with (go_at_fn F;refine HRD.out.mono ?_;rintro x w8 ⟨rfl,c,h8,hd8⟩;have H8:=hid h8;have HD8:=hid hd8;clear h8 hd8)
 have l8:=ldEn H8.out.e
 have hb8:Below w.heap.size w w8:=by rw[←HN.out];exact HWB.out.trans (H8.out.l.mono (Nat.le_succ _))
 have hen:=jEnc_call c R.1 w8 (HD8.out.same fun i hi=>⟨hi.2,rfl⟩) HSMR.out (HTW.out.1.below (HS0.out▸H8.out.l)) (HTW.out.2.1.below (HS0.out▸H8.out.l))
 obtain⟨P,hP⟩:∃P,P=encJ R.1:=⟨_,rfl⟩
 rw[←hP] at hen
 have HEN:=hid hen
 have HP:=hid hP
 clear hb8 hen hP
 dsimp only[EnC.ar,EnC.v,VC.v] at l8
 dsimp only[EnC.v,VC.v] at HEN
 go_upto_region 9 with (go_at_call 16;refine HEN.out.mono ?_;rintro x w9 ⟨rfl,hb9⟩;have h9:=H8.out.ext hb9;have z2:=cellOf h9.r.at_ 2;have l9:=ldEn h9.e;have H9:=hid h9;have HB9:=hid hb9;clear hb9 h9)
 (try dsimp only at z2)
 dsimp only[EnC.ar] at l9
 clear l8 k1 y2
 by_cases r1:R.2.e=0
 rotate_left
 ·have q1:(R.2.e != 0)=true:=by simp[r1]
  have HD:=hid (show D=(enZ,3) by rw[HDR.out,if_pos (.inl r1)])
  clear r1
  have hN6:w9.heap[N]?=some (.cells enZC.ar 30):=(H9.out.l.block N (by have:=HS0.out;omega)).trans HN0.out
  have hsz:(storeCells ⟨N,0,none⟩ enZC.cs 0).run Tryz.prog w9=.ok () (w9.setRow N enZC.ar):=stOld (P:=Tryz.prog) enZC.cs hN6 rfl (EnC.one _)
  have hlz:=ldEn (c:=enZC) (fr:=(0,0)) (setRow_heap w9 N enZC.ar enZC.ar 30 (0,0) hN6)
  dsimp only[EnC.ar,EnC.cs] at hlz hsz
  clear hN6
  go_wp2
  refine bodyPost_ret (v:=.tuple #[enZC.v,.int .i64 3]) (by simp[results,Tryz.results18,go_sem,hlz]) rfl ?_
  rw[HD.out]
  exact⟨enZC,rfl,enZ_is _ _,HWB.out.trans (((H9.out.l).mono (by have:=HS0.out;omega)).trans (setRow_below w9 N _))⟩
 have q1:(R.2.e != 0)=false:=by simp[r1]
 by_cases p1:P.2=0
 rotate_left
 ·have q2:(P.2 != 0)=true:=by simp[p1]
  have HD:=hid (show D=(enZ,3) by rw[HDR.out,if_pos (.inr (by rw[←HP.out];intro h;exact p1 (by rw[h])))])
  clear p1 r1
  have hN6:w9.heap[N]?=some (.cells enZC.ar 30):=(H9.out.l.block N (by have:=HS0.out;omega)).trans HN0.out
  have hsz:(storeCells ⟨N,0,none⟩ enZC.cs 0).run Tryz.prog w9=.ok () (w9.setRow N enZC.ar):=stOld (P:=Tryz.prog) enZC.cs hN6 rfl (EnC.one _)
  have hlz:=ldEn (c:=enZC) (fr:=(0,0)) (setRow_heap w9 N enZC.ar enZC.ar 30 (0,0) hN6)
  dsimp only[EnC.ar,EnC.cs] at hlz hsz
  clear hN6
  go_wp2
  refine bodyPost_ret (v:=.tuple #[enZC.v,.int .i64 3]) (by simp[results,Tryz.results18,go_sem,hlz]) rfl ?_
  rw[HD.out]
  exact⟨enZC,rfl,enZ_is _ _,HWB.out.trans (((H9.out.l).mono (by have:=HS0.out;omega)).trans (setRow_below w9 N _))⟩
 have q2:(P.2 != 0)=false:=by simp[p1]
 by_cases t1:P.1=s
 rotate_left
 ·have q3:(P.1.toList==s.toList)=false:=by rw[bList];simp[t1]
  have q4:(P.1.toList != s.toList)=true:=by rw[bne,q3];rfl
  have HD:=hid (show D=(enZ,3) by rw[HDR.out,if_pos (.inr (by rw[←HP.out];intro h;exact t1 (by rw[h])))])
  clear p1 r1 t1
  have hN6:w9.heap[N]?=some (.cells enZC.ar 30):=(H9.out.l.block N (by have:=HS0.out;omega)).trans HN0.out
  have hsz:(storeCells ⟨N,0,none⟩ enZC.cs 0).run Tryz.prog w9=.ok () (w9.setRow N enZC.ar):=stOld (P:=Tryz.prog) enZC.cs hN6 rfl (EnC.one _)
  have hlz:=ldEn (c:=enZC) (fr:=(0,0)) (setRow_heap w9 N enZC.ar enZC.ar 30 (0,0) hN6)
  dsimp only[EnC.ar,EnC.cs] at hlz hsz
  clear hN6
  go_wp2
  refine bodyPost_ret (v:=.tuple #[enZC.v,.int .i64 3]) (by simp[results,Tryz.results18,go_sem,hlz]) rfl ?_
  rw[HD.out]
  exact⟨enZC,rfl,enZ_is _ _,HWB.out.trans (((H9.out.l).mono (by have:=HS0.out;omega)).trans (setRow_below w9 N _))⟩
 have q3:(P.1.toList==s.toList)=true:=by rw[bList];simp[t1]
 have q4:(P.1.toList != s.toList)=false:=by rw[bne,q3];rfl
 have HD:=hid (show D=(R.1,0) by rw[HDR.out,if_neg (fun h=>h.elim (fun h=>h r1) (fun h=>h (by rw[←HP.out];exact Prod.ext t1 p1)))])
 clear p1 r1 t1
 have hN6:w9.heap[N]?=some (.cells enZC.ar 30):=(H9.out.l.block N (by have:=HS0.out;omega)).trans HN0.out
 have hsz:(storeCells ⟨N,0,none⟩ c.cs 0).run Tryz.prog w9=.ok () (w9.setRow N c.ar):=stOld (P:=Tryz.prog) c.cs hN6 rfl (EnC.one c)
 have hlz:=ldEn (c:=c) (fr:=(0,0)) (setRow_heap w9 N enZC.ar c.ar 30 (0,0) hN6)
 dsimp only[EnC.ar,EnC.cs] at hlz hsz
 have HN6:=hid hN6
 clear hN6
 go_wp2
 refine bodyPost_ret (v:=.tuple #[c.v,.int .i64 0]) (by simp[results,Tryz.results18,go_sem,hlz]) rfl ?_
 rw[HD.out]
 have HWN:=HNW.out
 exact⟨c,rfl,HD8.out.same fun i hi=>⟨⟨by omega,by rw[setRow_size];exact Nat.lt_of_lt_of_le hi.2 HB9.out.size⟩,(setRow_other w9 N i _ (by omega)).trans (HB9.out.block i hi.2)⟩,HWB.out.trans ((H9.out.l.mono (by have:=HS0.out;omega)).trans (setRow_below w9 N _))⟩
end
end
section

end
end Go.Proofs.YtaofolgaiipcjaaGreatDoor
