/-
  manifoldlaw46.JournalNone returns true for every entry, number and text. Conditions: the entry can be read as data; Tabs, ZTab, NumVars.
-/
import Derived.Test.YtmgpghoamapfgaaGreatDoorJN35Mrg
import Derived.Test.YtmgpghoamapfgaaGreatDoorJN47Mrg
namespace Go.Proofs.YtmgpghoamapfgaaGreatDoor
set_option linter.unusedVariables false
set_option maxRecDepth 100000
set_option maxHeartbeats 16000000
set_option linter.unusedSimpArgs false
open Go Go.RowKit Go.Shelf
theorem Turn.under {R:Nat→Prop} {N:Nat} {X Y:World} (h:Turn R X Y) (hR:∀k,R k→N≤k) (hN:N≤X.heap.size):Below N X Y :=
 ⟨h.os,h.tape,h.output,h.size,fun k hk=>h.block k (by omega) (fun hr=>by have:=hR k hr;omega)⟩
theorem seenOther:Seen sOther:=by
 unfold Seen
 intro k hk
 have:∀k:Fin 14,33≤(sOther[k.val]'(by have:=k.isLt;show k.val<14;omega)).toNat∧(sOther[k.val]'(by have:=k.isLt;show k.val<14;omega)).toNat≤126:=by decide +kernel
 exact this ⟨k,hk⟩
section
attribute [-go_sem] loadCellsFrom storeCells
attribute [local go_sem] lcf0 lcf1 lcf2 lcf3 lcf4 lcf5 stc0 stc1
theorem jnone_call (c:EnC) (d:En) (n:Int) (other:ByteArray) (w:World) (hd:IsEn (· < w.heap.size) w c d) (hT:Tabs w) (hZT:ZTab w) (hNV:NumVars w) :
 Calls Tryz.prog 4 #[c.v,.int .i64 n,.string other] w fun e w'=>e=.returned (.bool true)∧Below w.heap.size w w':=by
 obtain⟨N,hN⟩:∃N,N=w.heap.size:=⟨_,rfl⟩
 obtain⟨w1,hw1⟩:∃w1,w1=w.alloc (.cells c.ar 41):=⟨_,rfl⟩
 have hA:w1.heap[N]?=some (.cells c.ar 41):=by rw[hw1,hN];exact heap_alloc_new w _
 have hb1:Below w.heap.size w w1:=by rw[hw1];exact(Below.refl _ w).alloc (Nat.le_refl _) _
 have hV:=fun (w':World) (h:Below w.heap.size w w')=>(show Tabs w'∧ZTab w'∧NumVars w' from⟨hT.below h,hZT.below h,hNV.below h⟩)
 have HV:=hid hV
 have HK:=hid (fun (w':World) (h:Below w.heap.size w w')=>known46_call w' (hV w' h).1 (hV w' h).2.1)
 have hs:=fun (w':World) (h:Below w.heap.size w w')=>smallJ_call c d w' (hd.same fun j hj=>⟨Nat.lt_of_lt_of_le hj h.size,h.block j hj⟩)
 have HL:=hid (fun (w':World) (h:Below w1.heap.size w1 w')=>(show(loadCellsFrom ⟨N,0,none⟩ 0 18 #[]).run Tryz.prog w'=.ok c.ar w' from ldEn (heapExt h hA)))
 dsimp only[EnC.ar] at HL hw1
 dsimp only[EnC.v,VC.v] at hs
 have HS:=hid hs
 have HB1:=hid hb1
 have HW1:=hid hw1
 have HN:=hid hN
 have la:=HL.out w1 (Below.refl _ _)
 have hap:=fun w'=>nilAppend_call c w'
 dsimp only[EnC.v,VC.v] at hap
 have HAP:=hid hap
 have hrd:=fun w'=>nilRead_call n w'
 dsimp only[EnC.v,VC.v] at hrd
 have HRD:=hid hrd
 have HF:=hid (nilFrom_call n)
 have HDR:=hid (nilDrop_call n)
 have HO:=hid (nilOpen_call 100)
 dsimp only[EnC.v,VC.v]
 clear hN hw1 hA hb1 hV hs hd hT hZT hNV hap hrd
 have R1:=hid (Below.refl w1.heap.size w1)
 have FIN:=hid (fun (w':World) (h:Below w1.heap.size w1 w')=>HB1.out.trans (h.mono HB1.out.size))
 go_enter Tryz.func4,Tryz.ntmps4
 go_upto_region 1 with (fail)
 rw[←HW1.out,←HN.out]
 by_cases hbig:50<other.size
 ·have hb':(50:Int)<(other.size:Int):=by omega
  clear hbig
  go_upto_region 3 with (first
   | (go_at_call 11;go_loud (refine(HK.out w3 (FIN.out w3 HB3.out)).mono ?_);rintro e w5 ⟨rfl,hb⟩;have HB5:=hid (HB3.out.trans (hb.mono HB3.out.size));clear hb)
   | (go_at_call 12;go_loud (refine(HS.out w2 (FIN.out w2 HB2.out)).mono ?_);rintro e w3 ⟨ba,rfl,hba,hb⟩;have HB3:=hid (HB2.out.trans (hb.mono HB2.out.size));clear hb hba;cases ba)
   | (go_at_call 11;go_loud (refine(HK.out w1 (FIN.out w1 R1.out)).mono ?_);rintro e w2 ⟨rfl,hb⟩;have la:=HL.out w2 (hb.mono (Nat.le_refl _));have HB2:=hid hb;clear hb))
  ·go_ret
   exact⟨rfl,FIN.out w5 HB5.out⟩
  ·go_ret
   exact⟨rfl,FIN.out w5 HB5.out⟩
 ·have hb':¬ (50:Int)<(other.size:Int):=by omega
  have HOZ:=hid (show other.size≤1000 by omega)
  clear hbig
  go_upto_region 4 with (first
   | (go_at_call 11;go_loud (refine(HK.out w3 (FIN.out w3 HB3.out)).mono ?_);rintro e w5 ⟨rfl,hb⟩;have HB5:=hid (HB3.out.trans (hb.mono HB3.out.size));clear hb)
   | (go_at_call 12;go_loud (refine(HS.out w2 (FIN.out w2 HB2.out)).mono ?_);rintro e w3 ⟨ba,rfl,hba,hb⟩;have HB3:=hid (HB2.out.trans (hb.mono HB2.out.size));clear la;have la:=HL.out w3 HB3.out;clear hb hba;cases ba)
   | (go_at_call 11;go_loud (refine(HK.out w1 (FIN.out w1 R1.out)).mono ?_);rintro e w2 ⟨rfl,hb⟩;clear la;have la:=HL.out w2 hb;have HB2:=hid hb;clear hb))
  ·go_ret
   exact⟨rfl,FIN.out w5 HB5.out⟩
  clear hb'
  go_upto_region 5 with (go_at_call 13;refine(HAP.out _).mono ?_;rintro e w4 ⟨rfl,hb⟩;have HB4:=hid (HB3.out.trans (hb.mono HB3.out.size));clear hb)
  clear la
  have hst:=fun (W:World)=>stEnN W #[.int .i64 0,.int .i64 0,.int .i64 0,.int .i64 0,.int .i64 0,.string ⟨#[]⟩,.string ⟨#[]⟩,.string ⟨#[]⟩,.bool false,.bool false,.int .i64 0,.int .i64 0,.int .i64 0,.string ⟨#[]⟩,.slice none 0 0,.slice none 0 0,.int .i64 0,.slice none 0 0] rfl enZC
  dsimp only[EnC.ar,EnC.cs] at hst
  go_upto_region 6 with (go_at_call 14;refine(HRD.out _).mono ?_;rintro e w5 ⟨rfl,hb⟩;have HB5:=hid (HB4.out.trans (hb.mono HB4.out.size));clear hb)
  clear hst
  obtain⟨w6,hw6⟩:∃w6,w6=w5.alloc (.cells enZC.ar 41):=⟨_,rfl⟩
  have HB6:=hid (show Below w1.heap.size w1 w6 by rw[hw6];exact HB5.out.alloc HB5.out.size _)
  dsimp only[EnC.ar] at hw6
  rw[←hw6]
  clear hw6
  go_upto_region 9 with (first
   | (go_at_call 15;refine(HF.out _).mono ?_;rintro e w7 ⟨rfl,hb⟩;have HB7:=hid (HB6.out.trans (hb.mono HB6.out.size));clear hb)
   | (go_at_call 16;refine(HDR.out _).mono ?_;rintro e w8 ⟨rfl,hb⟩;have HB8:=hid (HB7.out.trans (hb.mono HB7.out.size));clear hb)
   | (go_at_call 17;refine(HO.out _).mono ?_;rintro e w9 ⟨rfl,hb⟩;have HB9:=hid (HB8.out.trans (hb.mono HB8.out.size));clear hb))
  go_upto_region 11 with (first
   | (go_at_call 18;refine(nilSync_call _).mono ?_;rintro e w10 ⟨rfl,hb⟩;have HB10:=hid (HB9.out.trans (hb.mono HB9.out.size));clear hb)
   | (go_at_call 19;refine(nilFirst_call _).mono ?_;rintro e w11 ⟨rfl,hb⟩;have HB11:=hid (HB10.out.trans (hb.mono HB10.out.size));clear hb)
   | (go_at_call 20;refine(nilLast_call _).mono ?_;rintro e w12 ⟨rfl,hb⟩;have HB12:=hid (HB11.out.trans (hb.mono HB11.out.size));clear hb)
   | (go_at_call 21;refine(nilDurable_call _).mono ?_;rintro e w13 ⟨rfl,hb⟩;have HB13:=hid (HB12.out.trans (hb.mono HB12.out.size));clear hb)
   | (go_at_call 22;refine(nilTime_call _).mono ?_;rintro e w14 ⟨rfl,hb⟩;have HB14:=hid (HB13.out.trans (hb.mono HB13.out.size));clear hb))
  have HF14:=hid (FIN.out w14 HB14.out)
  have hop:=opened_call w14 (HV.out w14 HF14.out).1 (HV.out w14 HF14.out).2.2
  have HOP:=hid hop
  clear hop
  go_upto_region 12 with (go_at_call 23;refine HOP.out.mono ?_;rintro e w15 ⟨dv,j,m,rfl,ho⟩;have HOO:=hid ho;clear ho)
  obtain⟨⟨l,hj,hl,hb15⟩,hdv,hmv,hdN,hmN⟩:=HOO.out
  have hcr:=dCreate_call dv m 0 (by unfold I64;omega) (by unfold I64;omega) sOther (by decide) (by decide) seenOther w15 hdv hmv
  have HCR:=hid hcr
  have HF15:=hid (HF14.out.trans (hb15.mono HF14.out.size))
  have HGE:=hid (show w.heap.size≤dv∧w.heap.size≤m from⟨Nat.le_trans HF14.out.size hdN,Nat.le_trans HF14.out.size hmN⟩)
  clear hj hl hb15 hdv hmv hdN hmN hcr
  go_upto_region 14 with (first
   | (go_at_call 24;refine HCR.out.mono ?_;rintro e w16 ⟨rfl,f,hd2,ho2,hf2,hfN,hT2⟩;have HT2:=hid (HF15.out.trans (hT2.under (N:=w.heap.size) (fun k hk=>hk.elim (fun h=>h▸HGE.out.1) (fun h=>h▸HGE.out.2)) HF15.out.size));have HAP2:=hid (dAppend_call dv m f (0-1) (by unfold I64;omega) (by unfold I64;omega) sOther other (by decide) HOZ.out w16 hd2 ho2 hf2);have HFN:=hid hfN;clear hd2 ho2 hf2 hfN hT2)
   | (go_at_call 25;refine HAP2.out.mono ?_;rintro e w17 ⟨rfl,hd3,ho3,hT3⟩;have HT3:=hid (HT2.out.trans (hT3.under (N:=w.heap.size) (fun k hk=>hk.elim (fun h=>h▸HGE.out.1) (fun h=>h▸Nat.le_trans HF15.out.size HFN.out)) HT2.out.size));have HD3:=hid hd3;have HO3:=hid ho3;clear hd3 ho3 hT3))
  have hjo:=jOpen_call dv m 1 (0-1-1) (oneFile sOther f) (show(1:Nat)≤1000 by decide) (show(1:Nat)≤1000 by decide) (by intro x hx;have hx':x∈[sOther.data.toList]:=hx;simpa using hx') w17 HD3.out HO3.out (HV.out w17 HT3.out).1 (HV.out w17 HT3.out).2.2
  have HJO:=hid hjo
  clear hjo
  go_upto_region 15 with (go_at_call 17;refine HJO.out.mono ?_;rintro e w18 ⟨j2,rfl,hj2⟩;have HJ2:=hid hj2;clear hj2)
  obtain⟨l2,hq1,hq2,hq3⟩:=HJ2.out
  have HJL:=hid (jLast_call j2 l2 dv w18 hq1 hq2)
  have HB18:=hid (HT3.out.trans (hq3.mono HT3.out.size))
  clear hq1 hq2 hq3
  go_wp2_with (go_at_call 20;refine HJL.out.mono ?_;rintro e w19 ⟨rfl,hw19⟩;obtain rfl:=hw19.symm)
  go_ret
  exact⟨rfl,HB18.out⟩
end
end Go.Proofs.YtmgpghoamapfgaaGreatDoor
