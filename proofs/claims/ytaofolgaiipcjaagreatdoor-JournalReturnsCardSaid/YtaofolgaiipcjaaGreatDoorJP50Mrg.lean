/-
  manifoldlaw46.JournalReturns returns true for every two entries. Conditions: the entries can be read as data; Tabs, ZTab, NumVars.
-/
import Derived.Test.YtaofolgaiipcjaaGreatDoorJP43Mrg
import Derived.Test.YtaofolgaiipcjaaGreatDoorJP45Mrg
namespace Go.Proofs.YtaofolgaiipcjaaGreatDoor
set_option linter.unusedVariables false
set_option maxRecDepth 100000
set_option maxHeartbeats 16000000
set_option linter.unusedSimpArgs false
open Go Go.RowKit Go.Shelf
theorem enc_size {d:En} (h1:d.nm.size≤300) (h2:d.nd.size≤300) (h3:d.tx.size≤300) (h4:(stampTE d.st).1.size≤20000):(encJ d).1.size≤100000:=by
 have hw:(encW d).b.length≤100000:=by
  unfold encW
  have h0:=nums_len [d.k,d.ti] ⟨[],0⟩
  simp only[List.length_cons,List.length_nil] at h0
  obtain⟨W,hW⟩:∃W,W=JW.nums ⟨[],0⟩ [d.k,d.ti]:=⟨_,rfl⟩
  rw[←hW] at h0 ⊢
  unfold wrJ
  split
  ·have a1:=text_len W d.nm
   have a2:=nums_len [d.nu,d.ve] (W.text d.nm)
   have a3:=text_len ((W.text d.nm).nums [d.nu,d.ve]) d.tx
   simp only[List.length_cons,List.length_nil] at a2
   omega
  split
  ·omega
  split
  ·have hl:=litF_size d.bd
   have e0:(W.fail (litF d.bd).2).b.length=W.b.length:=rfl
   have a1:=text_len (W.fail (litF d.bd).2) d.nm
   have a2:=nums_len [d.nu] ((W.fail (litF d.bd).2).text d.nm)
   have a3:=text_len (((W.fail (litF d.bd).2).text d.nm).nums [d.nu]) d.nd
   have a4:=nums_len [d.ca,flgN d.un d.dn] ((((W.fail (litF d.bd).2).text d.nm).nums [d.nu]).text d.nd)
   have a5:=text_len (((((W.fail (litF d.bd).2).text d.nm).nums [d.nu]).text d.nd).nums [d.ca,flgN d.un d.dn]) (litF d.bd).1
   simp only[List.length_cons,List.length_nil] at a2 a4
   omega
  split
  ·have a1:=nums_len [d.ve] W
   simp only[List.length_cons,List.length_nil] at a1
   omega
  ·have e0:(W.fail (stampTE d.st).2).b.length=W.b.length:=rfl
   have a1:=text_len (W.fail (stampTE d.st).2) (stampTE d.st).1
   omega
 unfold encJ
 split
 ·exact Nat.zero_le _
 split
 ·exact Nat.zero_le _
 ·exact hw
section
attribute [-go_sem] loadCellsFrom storeCells
attribute [local go_sem] lcf0 lcf1 lcf2 lcf3 lcf4 lcf5 stc0 stc1
theorem jrets_call (c c2:EnC) (d d2:En) (w:World) (hd:IsEn (· < w.heap.size) w c d) (hd2:IsEn (· < w.heap.size) w c2 d2) (hT:Tabs w) (hZT:ZTab w) (hNV:NumVars w) :
 Calls Tryz.prog 4 #[c.v,c2.v] w fun e w'=>e=.returned (.bool true)∧Below w.heap.size w w':=by
 obtain⟨N,hN⟩:∃N,N=w.heap.size:=⟨_,rfl⟩
 obtain⟨w0,hw0⟩:∃w0,w0=w.alloc (.cells c.ar 30):=⟨_,rfl⟩
 obtain⟨w1,hw1⟩:∃w1,w1=w0.alloc (.cells c2.ar 30):=⟨_,rfl⟩
 have hs0:w0.heap.size=N+1:=by rw[hw0,World.size_alloc,←hN]
 have h0:w0.heap[N]?=some (.cells c.ar 30):=by rw[hw0,hN];exact heap_alloc_new w _
 have hA:w1.heap[N]?=some (.cells c.ar 30):=by rw[hw1];exact(heap_alloc_old w0 _ _ (by omega)).trans h0
 have hB:w1.heap[N+1]?=some (.cells c2.ar 30):=by rw[hw1,←hs0];exact heap_alloc_new w0 _
 have hb1:Below w.heap.size w w1:=by rw[hw1,hw0];exact((Below.refl _ w).alloc (Nat.le_refl _) _).alloc (by simp) _
 have hD:=fun (w':World) (h:Below w1.heap.size w1 w')=>(show IsEn (· < w'.heap.size) w' c d∧IsEn (· < w'.heap.size) w' c2 d2 from
  have hx:=hb1.trans (h.mono hb1.size)
  ⟨hd.same fun j hj=>⟨Nat.lt_of_lt_of_le hj hx.size,hx.block j hj⟩,hd2.same fun j hj=>⟨Nat.lt_of_lt_of_le hj hx.size,hx.block j hj⟩⟩)
 have hV:=fun (w':World) (h:Below w1.heap.size w1 w')=>(show Tabs w'∧ZTab w'∧NumVars w' from
  have hx:=hb1.trans (h.mono hb1.size)
  ⟨hT.below hx,hZT.below hx,hNV.below hx⟩)
 have hk:=fun (w':World) (h:Below w1.heap.size w1 w')=>known46_call w' (hV w' h).1 (hV w' h).2.1
 have hsa:=fun (w':World) (h:Below w1.heap.size w1 w')=>smallJ_call c d w' (hD w' h).1
 have hsb:=fun (w':World) (h:Below w1.heap.size w1 w')=>smallJ_call c2 d2 w' (hD w' h).2
 have hst1:(stampTE d.st).1.size≤20000:=stampTE_size d.st hd.st.re hd.st.ps.rng
 have HNM:=hid (show Named d.bd∧Named d2.bd from⟨hd.bd.named,hd2.bd.named⟩)
 have HL:=hid (fun (w':World) (h:Below w1.heap.size w1 w')=>(show(loadCellsFrom ⟨N,0,none⟩ 0 18 #[]).run Tryz.prog w'=.ok c.ar w'∧(loadCellsFrom ⟨N+1,0,none⟩ 0 18 #[]).run Tryz.prog w'=.ok c2.ar w' from⟨ldEn (heapExt h hA),ldEn (heapExt h hB)⟩))
 dsimp only[EnC.ar] at HL hw0 hw1
 dsimp only[EnC.v,VC.v] at hsa hsb
 have HD:=hid hD
 have HV:=hid hV
 have HK:=hid hk
 have HSA:=hid hsa
 have HSB:=hid hsb
 have HST:=hid hst1
 have HW0:=hid hw0
 have HW1:=hid hw1
 have HB1:=hid hb1
 have HN:=hid hN
 obtain⟨la,lb⟩:=HL.out w1 (Below.refl _ _)
 dsimp only[EnC.v,VC.v]
 clear hN hw0 hw1 hs0 h0 hA hB hb1 hD hV hk hsa hsb hst1 hd hd2 hT hZT hNV
 have R1:=hid (Below.refl w1.heap.size w1)
 have fin:=fun (w':World) (h:Below w1.heap.size w1 w')=>HB1.out.trans (h.mono HB1.out.size)
 have FIN:=hid fin
 clear fin
 -- known,small of the first and the second entry
 go_enter Tryz.func4,Tryz.ntmps4
 go_upto_region 1 with (fail)
 rw[←HW0.out,←HN.out,←HW1.out]
 have hstn:=fun (W:World) (cc:EnC)=>stEnN W #[.int .i64 0,.int .i64 0,.int .i64 0,.int .i64 0,.int .i64 0,.string ⟨#[]⟩,.string ⟨#[]⟩,.string ⟨#[]⟩,.bool false,.bool false,.int .i64 0,.int .i64 0,.int .i64 0,.string ⟨#[]⟩,.slice none 0 0,.slice none 0 0,.int .i64 0,.slice none 0 0] rfl cc
 dsimp only[EnC.ar,EnC.cs] at hstn
 have HSTN:=hid hstn
 clear hstn
 go_upto_region 3 with (first
  | (go_at_call 14;go_loud (refine(HK.out w4 HB4.out).mono ?_);rintro e w5 ⟨rfl,hb⟩;have HB5:=hid (HB4.out.trans (hb.mono HB4.out.size));clear hb)
  | (go_at_call 14;go_loud (refine(HK.out w3 HB3.out).mono ?_);rintro e w5 ⟨rfl,hb⟩;have HB5:=hid (HB3.out.trans (hb.mono HB3.out.size));clear hb)
  | (go_at_call 15;go_loud (refine(HSB.out w3 HB3.out).mono ?_);rintro e w4 ⟨bb,rfl,hbb,hb⟩;obtain⟨la,lb⟩:=HL.out w4 (HB3.out.trans (hb.mono HB3.out.size));have HB4:=hid (HB3.out.trans (hb.mono HB3.out.size));have HBB:=hid hbb;clear hb hbb;cases bb)
  | (go_at_call 15;go_loud (refine(HSA.out w2 HB2.out).mono ?_);rintro e w3 ⟨ba,rfl,hba,hb⟩;obtain⟨la,lb⟩:=HL.out w3 (HB2.out.trans (hb.mono HB2.out.size));have HB3:=hid (HB2.out.trans (hb.mono HB2.out.size));have HBA:=hid hba;clear hb hba;cases ba)
  | (go_at_call 14;go_loud (refine(HK.out w1 R1.out).mono ?_);rintro e w2 ⟨rfl,hb⟩;obtain⟨la,lb⟩:=HL.out w2 hb;have HB2:=hid hb;clear hb))
 ·go_ret
  exact⟨rfl,FIN.out w5 HB5.out⟩
 ·go_ret
  exact⟨rfl,FIN.out w5 HB5.out⟩
 have hza:=HBA.out trivial
 have hzb:=HBB.out trivial
 have ha:=jEnc_call c d w4 (HD.out w4 HB4.out).1 ⟨by omega,by omega,by omega⟩ (HV.out w4 HB4.out).1 (HV.out w4 HB4.out).2.1
 have hbq:=fun (w':World) (h:Below w1.heap.size w1 w')=>jEnc_call c2 d2 w' (HD.out w' h).2 ⟨by omega,by omega,by omega⟩ (HV.out w' h).1 (HV.out w' h).2.1
 have hps:=enc_size hza.1 hza.2.1 hza.2.2 HST.out
 obtain⟨P,hP⟩:∃P,P=encJ d:=⟨_,rfl⟩
 obtain⟨Q,hQ⟩:∃Q,Q=encJ d2:=⟨_,rfl⟩
 rw[←hP] at ha hps
 simp only[←hQ] at hbq
 dsimp only[EnC.v,VC.v] at ha hbq
 have HA:=hid ha
 have HBQ:=hid hbq
 have HP:=hid hP
 have HQ:=hid hQ
 have HPS:=hid hps
 clear hza hzb ha hbq hP hQ hps
 go_upto_region 5 with (first
  | (go_at_call 16;go_loud (refine(HBQ.out w5 HB5.out).mono ?_);rintro e w6 ⟨rfl,hb⟩;have HB6:=hid (HB5.out.trans (hb.mono HB5.out.size));clear hb)
  | (go_at_call 16;go_loud (refine HA.out.mono ?_);rintro e w5 ⟨rfl,hb⟩;obtain⟨la,lb⟩:=HL.out w5 (HB4.out.trans (hb.mono HB4.out.size));have HB5:=hid (HB4.out.trans (hb.mono HB4.out.size));clear hb))
 by_cases h0:P.2=0
 rotate_left
 ·have q0:(P.2 != 0)=true:=by simp[h0]
  have hs1:P.1=⟨#[]⟩:=by rw[HP.out] at h0 ⊢;exact enc_bad h0
  have q1:P.1.toList.isEmpty=true:=by rw[hs1,ByteArray.toList_eq];rfl
  have q2:(P.1.toList==(⟨#[]⟩:ByteArray).toList)=true:=by rw[hs1,ByteArray.toList_eq];rfl
  clear h0 hs1
  go_wp2
  go_ret
  exact⟨rfl,FIN.out w6 HB6.out⟩
 have q0:(P.2 != 0)=false:=by simp[h0]
 obtain⟨p1,p2⟩:=P
 dsimp only at h0
 subst h0
 have hpe:encJ d=(p1,0):=HP.out.symm
 have hde:=dec_enc hpe HNM.out.1
 have hdc:=jDec_call p1 w6 (by have:=HPS.out;dsimp only at this;omega) (HV.out w6 HB6.out).1 (HV.out w6 HB6.out).2.1 (HV.out w6 HB6.out).2.2 (fun h=>bodT_enc hpe HNM.out.1 h)
 rw[hde] at hdc
 dsimp only[EnC.v,VC.v] at hdc
 have HDC:=hid hdc
 have hst:=HSTN.out
 clear hpe hde hdc
 go_upto_region 8 with (go_at_call 18;go_loud (refine HDC.out.mono ?_);rintro e w7 ⟨c3,rfl,hi,hb⟩;have HI:=hid hi;have HG:=hid hb;have HB7:=hid (HB6.out.trans (hb.mono HB6.out.size));clear hi hb)
 clear hst
 obtain⟨T,hT⟩:∃T,T=w7.heap.size:=⟨_,rfl⟩
 obtain⟨w8,hw8⟩:∃w8,w8=w7.alloc (.cells c3.ar 30):=⟨_,rfl⟩
 have hz8:w8.heap[T]?=some (.cells c3.ar 30):=by rw[hw8,hT];exact heap_alloc_new w7 _
 have hb8:Below w1.heap.size w1 w8:=by rw[hw8];exact HB7.out.alloc HB7.out.size _
 have hi8:IsEn (· < w8.heap.size) w8 c3 d:=by
  rw[hw8]
  exact HI.out.same fun b hb=>⟨by rw[World.size_alloc];omega,heap_alloc_old w7 _ _ hb.2⟩
 have l8:=ldEn hz8
 dsimp only[EnC.ar] at hw8 l8
 rw[←hw8,←hT]
 have hq:=eqEn_call c3 c d d w8 hi8 (HD.out w8 hb8).1
 rw[(enEqB_iff HNM.out.1 HNM.out.1).2 rfl] at hq
 dsimp only[EnC.v,VC.v] at hq
 have HQ1:=hid hq
 have HB8:=hid hb8
 obtain⟨la,lb⟩:=HL.out w8 hb8
 clear hT hw8 hz8 hi8 hq hb8
 by_cases h1:Q.2=0
 rotate_left
 ·have q1:(Q.2 != 0)=true:=by simp[h1]
  clear h1
  go_wp2_with (go_at_call 19;go_loud (refine HQ1.out.mono ?_);rintro e w9 ⟨rfl,hb⟩;have HB9:=hid (HB8.out.trans (hb.mono HB8.out.size));clear hb)
  go_ret
  exact⟨rfl,FIN.out w9 HB9.out⟩
 have q1:(Q.2 != 0)=false:=by simp[h1]
 obtain⟨t1,t2⟩:=Q
 dsimp only at h1
 subst h1
 have hqe:encJ d2=(t1,0):=HQ.out.symm
 have hpe:encJ d=(p1,0):=HP.out.symm
 obtain⟨z,hz⟩:∃z,z=enEqB d d2:=⟨_,rfl⟩
 have hzz:(p1.toList==t1.toList)=z:=by
  rw[bList,hz]
  by_cases he:d=d2
  ·subst he
   rw[(enEqB_iff HNM.out.1 HNM.out.1).2 rfl]
   rw[hpe] at hqe
   injection hqe with hqe _
   simp[hqe]
  ·have hf:enEqB d d2=false:=by
    cases hh:enEqB d d2
    ·rfl
    ·exact absurd ((enEqB_iff HNM.out.1 HNM.out.2).1 hh) he
   rw[hf]
   simp
   intro hpt
   have e1:=dec_enc hpe HNM.out.1
   have e2:=dec_enc hqe HNM.out.2
   rw[hpt,e2] at e1
   injection e1 with e1 _
   exact he e1.symm
 have hq2:=fun (w':World) (h:Below w1.heap.size w1 w')=>eqEn_call c c2 d d2 w' (HD.out w' h).1 (HD.out w' h).2
 simp only[←hz] at hq2
 dsimp only[EnC.v,VC.v] at hq2
 have HQ2:=hid hq2
 have zz:(z==z)=true:=by simp
 clear hqe hpe hz hq2
 go_wp2_with (first
  | (go_at_call 19;go_loud (refine(HQ2.out w9 HB9.out).mono ?_);rintro e w10 ⟨rfl,hb⟩;have HB10:=hid (HB9.out.trans (hb.mono HB9.out.size));clear hb)
  | (go_at_call 19;go_loud (refine HQ1.out.mono ?_);rintro e w9 ⟨rfl,hb⟩;obtain⟨la,lb⟩:=HL.out w9 (HB8.out.trans (hb.mono HB8.out.size));have HB9:=hid (HB8.out.trans (hb.mono HB8.out.size));clear hb))
 go_ret
 exact⟨rfl,FIN.out w10 HB10.out⟩
end
end Go.Proofs.YtaofolgaiipcjaaGreatDoor
