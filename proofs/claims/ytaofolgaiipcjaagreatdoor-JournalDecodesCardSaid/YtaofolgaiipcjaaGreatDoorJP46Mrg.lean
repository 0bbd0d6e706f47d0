/-
  manifoldlaw46.JournalDecodes returns true for every text. Conditions: Tabs, ZTab, NumVars.
-/
import Derived.Test.YtaofolgaiipcjaaGreatDoorJP43Mrg
import Derived.Test.YtaofolgaiipcjaaGreatDoorJP45Mrg
namespace Go.Proofs.YtaofolgaiipcjaaGreatDoor
set_option linter.unusedVariables false
set_option maxRecDepth 100000
set_option maxHeartbeats 16000000
set_option linter.unusedSimpArgs false
open Go Go.RowKit Go.Shelf
section
attribute [-go_sem] loadCellsFrom storeCells
attribute [local go_sem] lcf0 lcf1 lcf2 lcf3 lcf4 lcf5 stc0 stc1
theorem jdecs_call (s:ByteArray) (w:World) (hT:Tabs w) (hZT:ZTab w) (hNV:NumVars w) :
 Calls Tryz.prog 5 #[.string s] w fun e w'=>e=.returned (.bool true)∧Below w.heap.size w w':=by
 obtain⟨m,hm⟩:∃m:Nat,m=min s.size 400:=⟨_,rfl⟩
 have emin:min (s.size:Int) 400=(m:Int):=by omega
 have hms:m≤s.size:=by omega
 have hms':(m:Int)≤(s.size:Int):=by omega
 have hm0:(0:Int)≤(m:Int):=by omega
 obtain⟨t,htt⟩:∃t,s.extract 0 m=t:=⟨_,rfl⟩
 have ht:t.size≤400:=by rw[←htt,ByteArray.size_extract];omega
 have hkn:=known46_call w hT hZT
 have hdc:=fun (w1:World) (h:Below w.heap.size w w1)=>jDec_call t w1 (by omega) (hT.below h) (hZT.below h) (hNV.below h) (fun _=>Nat.le_trans (jtext_size t _) (by omega))
 obtain⟨D,hD⟩:∃D,D=decJ t:=⟨_,rfl⟩
 rw[←hD] at hdc
 have HK:=hid hkn
 have HDC:=hid hdc
 have HV:=hid (And.intro hT hZT)
 have HD:=hid hD
 have HT:=hid ht
 clear hm hms hT hZT hNV ht hkn hdc hD
 have hst:=fun (w0:World) (c:EnC)=>stEnN w0 #[.int .i64 0,.int .i64 0,.int .i64 0,.int .i64 0,.int .i64 0,.string ⟨#[]⟩,.string ⟨#[]⟩,.string ⟨#[]⟩,.bool false,.bool false,.int .i64 0,.int .i64 0,.int .i64 0,.string ⟨#[]⟩,.slice none 0 0,.slice none 0 0,.int .i64 0,.slice none 0 0] rfl c
 dsimp only[EnC.ar,EnC.cs] at hst
 go_enter Tryz.func5,Tryz.ntmps5
 go_upto_region 5 with (first
  | (go_at_call 18;go_loud (refine(HDC.out w1 HB1.out).mono ?_);rintro e w2 ⟨c,rfl,hi,hb2⟩;have HI:=hid hi;have HB2:=hid (HB1.out.trans (hb2.mono HB1.out.size));have HGE:=hid HB1.out.size;clear hi hb2)
  | (go_at_call 14;go_loud (refine HK.out.mono ?_);rintro e w1 ⟨rfl,hb1⟩;have HB1:=hid hb1;clear hb1))
 clear hst emin hms' hm0 htt
 obtain⟨T,hT⟩:∃T,T=w2.heap.size:=⟨_,rfl⟩
 obtain⟨w3,hw3⟩:∃w3,w3=w2.alloc (.cells c.ar 30):=⟨_,rfl⟩
 dsimp only[EnC.ar] at hw3
 rw[←hw3,←hT]
 have hz3:w3.heap[T]?=some (.cells c.ar 30):=by rw[hw3,hT];exact heap_alloc_new w2 _
 have hb3:Below w.heap.size w w3:=by rw[hw3];exact HB2.out.alloc HB2.out.size _
 have hi3:IsEn (· < w3.heap.size) w3 c D.1:=by
  rw[hw3]
  exact HI.out.same fun b hb=>⟨by rw[World.size_alloc];omega,heap_alloc_old w2 _ _ hb.2⟩
 have HL:=hid (fun (w':World) (h:Below w3.heap.size w3 w')=>(show(loadCellsFrom ⟨T,0,none⟩ 0 18 #[]).run Tryz.prog w'=.ok c.ar w'∧IsEn (· < w'.heap.size) w' c D.1∧Below w.heap.size w w' from⟨ldEn (heapExt h hz3),hi3.same fun j hj=>⟨Nat.lt_of_lt_of_le hj h.size,h.block j hj⟩,hb3.trans (h.mono hb3.size)⟩))
 obtain⟨l3,i3,b3⟩:=HL.out w3 (Below.refl _ _)
 have hq:=eqEn_call c enZC D.1 enZ w3 i3 (enZ_is _ _)
 dsimp only[EnC.ar] at l3
 dsimp only[EnC.v,VC.v] at hq
 have HQ:=hid hq
 have HI3:=hid i3
 have HB3:=hid b3
 have HH:=hid (show True from trivial)
 clear hT hw3 hz3 hb3 hi3 i3 b3 hq
 by_cases h0:D.2=0
 rotate_left
 ·have q0:(D.2 != 0)=true:=by simp[h0]
  have hDD:D=(enZ,3):=by rw[HD.out] at h0 ⊢;exact dec_bad h0
  have q1:(D.2==3)=true:=by rw[hDD];rfl
  have HEQ:=hid (show enEqB D.1 enZ=true by rw[hDD];exact(enEqB_iff named_nul named_nul).2 rfl)
  clear h0 hDD
  rw[HEQ.out] at HQ
  go_wp2_with (go_at_call 19;go_loud (refine HQ.out.mono ?_);rintro e w4 ⟨rfl,hb4⟩;have HB4:=hid hb4;clear hb4)
  go_ret
  exact⟨rfl,HB3.out.trans (HB4.out.mono HB3.out.size)⟩
 have q0:(D.2 != 0)=false:=by simp[h0]
 have hen:encJ D.1=(t,0):=by rw[HD.out] at h0 ⊢;exact dec_ok h0
 have hck:chkEn D.1=0:=enc_chk hen
 have hsz:D.1.nm.size≤1000000∧D.1.nd.size≤1000000∧D.1.tx.size≤1000000:=by
  have h2:=HT.out
  rw[HD.out] at h0 ⊢
  unfold decJ at h0 ⊢
  split
  ·exact⟨Nat.zero_le _,Nat.zero_le _,Nat.zero_le _⟩
  ·split
   ·exact⟨Nat.zero_le _,Nat.zero_le _,Nat.zero_le _⟩
   ·have h1:=rdJ_small t (JR.num t ⟨0,0⟩).1 ((JR.num t ⟨0,0⟩).2.num t).1 (headJ t).2
    exact⟨Nat.le_trans h1.1 (by omega),Nat.le_trans h1.2.1 (by omega),Nat.le_trans h1.2.2 (by omega)⟩
 have he:=jEnc_call c D.1 w3 HI3.out hsz (HV.out.1.below HB3.out) (HV.out.2.below HB3.out)
 rw[hen] at he
 dsimp only[EnC.v,VC.v] at he
 have hch:=fun (w':World) (h:Below w3.heap.size w3 w')=>chkEn_call c D.1 w' (HL.out w' h).2.1 (HV.out.1.below (HL.out w' h).2.2)
 rw[hck] at hch
 dsimp only[EnC.v,VC.v] at hch
 have HE:=hid he
 have HCH:=hid hch
 clear h0 hen hck hsz he hch
 have stt:(t.toList==t.toList)=true:=by simp
 go_wp2_with (first
  | (go_at_call 20;go_loud (refine(HCH.out w4 HB4.out).mono ?_);rintro e w5 ⟨rfl,hb5⟩;have HB5:=hid (HB4.out.trans (hb5.mono HB4.out.size));clear hb5)
  | (go_at_call 16;go_loud (refine HE.out.mono ?_);rintro e w4 ⟨rfl,hb4⟩;have l4:=(HL.out w4 hb4).1;dsimp only[EnC.ar] at l4;have HB4:=hid hb4;clear hb4))
 go_ret
 exact⟨rfl,HB3.out.trans (HB5.out.mono HB3.out.size)⟩
end
end Go.Proofs.YtaofolgaiipcjaaGreatDoor
