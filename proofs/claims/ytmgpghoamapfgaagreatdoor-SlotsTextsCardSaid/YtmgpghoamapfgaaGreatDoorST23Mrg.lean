/- A part. -/
import Derived.Test.YtmgpghoamapfgaaGreatDoorST21Mrg
import Derived.Test.YtmgpghoamapfgaaGreatDoorST22Mrg
namespace Go.Proofs.YtmgpghoamapfgaaGreatDoor
set_option linter.unusedVariables false
set_option maxRecDepth 100000
set_option maxHeartbeats 16000000
set_option linter.unusedSimpArgs false
section
open Go Go.RowKit Go.Shelf
attribute [local go_sem] cJ eW cK dF bP bW
theorem zG (w:World) (r:Rd):(loadCellsFrom ⟨w.heap.size,0,none⟩ 0 8 #[]).run Tryz.prog (w.alloc (tokO r))=.ok (tokA r) (w.alloc (tokO r)) :=
 run_loadCellsFrom_new w 223 (tokA r) 8 rfl
section
attribute [-go_sem] loadCellsFrom storeCells
attribute [local go_sem] aBr aBq aBp aBo aBn aBm lcf6 lcf7 aAt aAs
theorem aJp (b:Nat) (s:ByteArray) (r:Rd) (w:World) (h:IsRd w b s r) (hf:r.Fit s) (hs:s.size<=100000) (hTB:TB w b) :
 CP 295 #[.pointer (some ⟨b,0,none⟩)] w fun x w'=>x=.returned (.string (fS r 1).t)/\IsRd w' b s (r.name s)/\w.grownBy w' (some b):=by
 have HT:=hid (rE b s r 1 w h hs hTB);obtain⟨tk,htk⟩:=ez (fS r 1)
 obtain⟨r1,hr1⟩:=ez (r.take s 1)
 rw[<-htk,<-hr1] at HT;rw[<-htk];have HTK:=hid htk;have HR1:=hid hr1;have htt:tk.t.size<=100000:=by
  rw[htk];unfold fS;split
  ·have:=hf.t;omega
  ·exact Nat.zero_le _
 clear htk hr1;have HSN:=hid (fun w2=>lB w2 #[I6 0,I6 0,.string ⟨#[]⟩,.string ⟨#[]⟩,I6 0,I6 0,.bool false,.bool false] rfl tk);have HPC:=hid (fun (w2:World) (h2:IsRd w2 b s r1)=>(aA h2.at_ 10:Ce w2 b 10 (I6 r1.e)));have HIN:=hid (fun w'=>fZ tk.t w' ga);by_cases he:r1.e=0
 ·have HE:=hid he;have hk:r.e=0/\r.k=1:=by
   have h1:=HR1.out;unfold Rd.take at h1;split at h1
   ·rename_i hx;rw[h1] at he;exact absurd he hx
   split at h1
   ·rename_i hx hy;rw[h1] at he;exact absurd he (Rd.fail_e _ _ _ gc)
   ·rename_i hx hy;exact⟨Decidable.not_not.1 hx,Decidable.not_not.1 hy⟩
  have HTE:=hid (show tk=r by rw[HTK.out,fS,if_pos hk]);have qe:(r1.e==0)=true:=by simp[he]
  have qe':(r1.e != 0)=false:=by simp[he]
  obtain⟨q,hq⟩:=ez (aL tk.t)
  rw[<-hq] at HIN;have HM:=hid (show r.name s=if q=false then r1.fail r.p 12 else r1 by
   unfold Rd.name;dsimp only;rw[<-HR1.out,hq,HTE.out];simp only[HE.out,true_and])
  clear hq he hk;cases q
  ·have HM2:=hid (show r.name s=r1.fail r.p 12 from HM.out.trans (by first | exact if_pos rfl | exact if_pos trivial));have HFL:=hid (fun (w':World) (h':IsRd w' b s r1)=>bC b s r1 tk.p 12 w' h');go_enter Tryz.func295,Tryz.ntmps295
   go_upto_region 3 with (first
    | (go_at_call 204;refine(HIN.out _).mono ?_;rintro e w3 ⟨rfl,hb3⟩;have HB3:=hid hb3;clear hb3)
    | (go_at_call 332;refine HT.out.mono ?_;rintro e w2 ⟨rfl,h2,hg2⟩;have H2R:=hid h2;have HG2:=hid hg2;have hpc:=HPC.out w2 h2;have hsn:=HSN.out w2;have hbl:=h2.lt;clear h2 hg2))
   have hbb:=World.grownBy_alloc w2 (tokO tk) (some b);have HR3:=hid (bK (H2R.out.alloc (tokO tk)) HB3.out (by rw[World.size_alloc];omega));have HG3:=hid (HG2.out.trans (hbb.trans (aQ HB3.out (some b))));have hT3:w3.heap[w2.heap.size]?=some (tokO tk):=aB HB3.out (heap_alloc_new w2 _);have hcp:Ce w3 w2.heap.size 1 (I6 (tk.p:Int)):=aA hT3 1;have HTL:=hid (show w2.heap.size<w3.heap.size/\w2.heap.size≠b/\w3.heap[w2.heap.size]?=some (tokO tk) from⟨ltOf hT3,by omega,hT3⟩);clear hbb hT3
   go_wp2_with (go_at_call 232;refine(HFL.out w3 HR3.out).mono ?_;rintro e w4 ⟨rfl,h4,hg4⟩;have H4R:=hid h4;have HG4:=hid hg4;have hct:=(aA ((hg4.block w2.heap.size HTL.out.1 (by simp[HTL.out.2.1])).trans HTL.out.2.2) 2:Ce w4 w2.heap.size 2 (.string tk.t));clear h4 hg4)
   go_ret;rw[HM2.out,<-HTE.out];exact⟨rfl,H4R.out,HG3.out.trans HG4.out⟩
  ·go_enter Tryz.func295,Tryz.ntmps295
   go_upto_region 4 with (first
    | (go_at_call 204;refine(HIN.out _).mono ?_;rintro e w3 ⟨rfl,hb3⟩;have HB3:=hid hb3;clear hb3)
    | (go_at_call 332;refine HT.out.mono ?_;rintro e w2 ⟨rfl,h2,hg2⟩;have H2R:=hid h2;have HG2:=hid hg2;have hpc:=HPC.out w2 h2;have hsn:=HSN.out w2;have hbl:=h2.lt;clear h2 hg2))
   have hbb:=World.grownBy_alloc w2 (tokO tk) (some b);have HR3:=hid (bK (H2R.out.alloc (tokO tk)) HB3.out (by rw[World.size_alloc];omega));have HG3:=hid (HG2.out.trans (hbb.trans (aQ HB3.out (some b))));have hT3:w3.heap[w2.heap.size]?=some (tokO tk):=aB HB3.out (heap_alloc_new w2 _);have hct:Ce w3 w2.heap.size 2 (.string tk.t):=aA hT3 2;clear hbb hT3;go_wp2;go_ret;rw[HM.out,if_neg gc];exact⟨rfl,HR3.out,HG3.out⟩
 ·have HE:=hid he;have qe:(r1.e==0)=false:=by simp[he]
  have qe':(r1.e != 0)=true:=by simp[he]
  clear he;go_enter Tryz.func295,Tryz.ntmps295
  go_wp2_with (go_at_call 332;refine HT.out.mono ?_;rintro e w2 ⟨rfl,h2,hg2⟩;have H2R:=hid h2;have HG2:=hid hg2;have hpc:=HPC.out w2 h2;have hsn:=HSN.out w2;have hbl:=h2.lt;clear h2 hg2)
  go_ret;have HM:r.name s=r1:=by
   unfold Rd.name;dsimp only;rw[<-HR1.out,if_neg (fun h=>HE.out h.1)]
  rw[HM];exact⟨rfl,H2R.out.alloc _,HG2.out.trans (World.grownBy_alloc _ _ _)⟩
theorem aDi (b:Nat) (s:ByteArray) (r:Rd) (w:World) (h:IsRd w b s r) (hf:r.Fit s) (hs:s.size<=100000) (hTB:TB w b) :
 CP 301 #[.pointer (some ⟨b,0,none⟩),.func (.func 302) #[] #[]] w fun x w'=>x=.returned (I6 (r.moment s gM).1)/\IsRd w' b s (r.moment s gM).2/\w.grownBy w' (some b):=by
 have HT:=hid (rE b s r 3 w h hs hTB);obtain⟨tk,htk⟩:=ez (fS r 3)
 obtain⟨r1,hr1⟩:=ez (r.take s 3)
 rw[<-htk,<-hr1] at HT;have HTK:=hid htk;have HR1:=hid hr1;have HLT:=hid h.lt;have htb:tk.b.size<=400000:=by
  rw[htk];unfold fS;split
  ·have:=hf.b;omega
  ·exact Nat.zero_le _
 clear htk hr1;have HLN:=hid (fun w2=>zG w2 tk);have HSN:=hid (fun w2=>lB w2 #[I6 0,I6 0,.string ⟨#[]⟩,.string ⟨#[]⟩,I6 0,I6 0,.bool false,.bool false] rfl tk);have HPC:=hid (fun (w2:World) (h2:IsRd w2 b s r1)=>(aA h2.at_ 10:Ce w2 b 10 (I6 r1.e)));by_cases he:r1.e=0
 ·have HE:=hid he;have hk:r.e=0/\r.k=3:=by
   have h1:=HR1.out;unfold Rd.take at h1;split at h1
   ·rename_i hx;rw[h1] at he;exact absurd he hx
   split at h1
   ·rename_i hx hy;rw[h1] at he;exact absurd he (Rd.fail_e _ _ _ gc)
   ·rename_i hx hy;exact⟨Decidable.not_not.1 hx,Decidable.not_not.1 hy⟩
  have HTE:=hid (show tk=r by rw[HTK.out,fS,if_pos hk]);have qe:(r1.e==0)=true:=by simp[he]
  have qe':(r1.e != 0)=false:=by simp[he]
  have HCAL:=hid (fun w'=>xW tk.b ga w');obtain⟨n,hn⟩:=ez ((gM tk.b.data.toList).1)
  obtain⟨e,hee⟩:=ez ((gM tk.b.data.toList).2)
  rw[<-hn,<-hee] at HCAL;have HM:=hid (show r.moment s gM=(n,if e≠0 then r1.fail r.p e else r1) by
   unfold Rd.moment;dsimp only;rw[<-HR1.out,if_neg (by simp[HE.out]),hn,hee,HTE.out])
  clear hn hee he hk;by_cases hez:e=0
  ·have qz:(e==0)=true:=by simp[hez]
   have qz':(e != 0)=false:=by simp[hez]
   have HEZ:=hid hez;clear hez;go_enter Tryz.func301,Tryz.ntmps301
   go_wp2_with (first
    | (go_at_call 302;refine(HCAL.out _).mono ?_;rintro e w3 ⟨rfl,hb3⟩;have HB3:=hid hb3;clear hb3)
    | (go_at_call 332;refine HT.out.mono ?_;rintro e w2 ⟨rfl,h2,hg2⟩;have H2R:=hid h2;have HG2:=hid hg2;have hpc:=HPC.out w2 h2;have hsn:=HSN.out w2;have hbl:=h2.lt;clear h2 hg2))
   go_ret;rw[HM.out,if_neg (by simp[HEZ.out])];have hbb:=World.grownBy_alloc w2 (tokO tk) (some b);exact⟨rfl,bK (H2R.out.alloc _) HB3.out (by rw[World.size_alloc];omega),HG2.out.trans (hbb.trans (aQ HB3.out (some b)))⟩
  ·have qz:(e==0)=false:=by simp[hez]
   have qz':(e != 0)=true:=by simp[hez]
   have HEZ:=hid hez;have HFL:=hid (fun (w':World) (h':IsRd w' b s r1)=>bC b s r1 tk.p e w' h');clear hez;go_enter Tryz.func301,Tryz.ntmps301
   go_upto_region 5 with (first
    | (go_at_call 302;refine(HCAL.out _).mono ?_;rintro e w3 ⟨rfl,hb3⟩;have HB3:=hid hb3;clear hb3)
    | (go_at_call 332;refine HT.out.mono ?_;rintro e w2 ⟨rfl,h2,hg2⟩;have H2R:=hid h2;have HG2:=hid hg2;have hpc:=HPC.out w2 h2;have hsn:=HSN.out w2;have hbl:=h2.lt;clear h2 hg2))
   have hbb:=World.grownBy_alloc w2 (tokO tk) (some b);have HR3:=hid (bK (H2R.out.alloc (tokO tk)) HB3.out (by rw[World.size_alloc];omega));have HG3:=hid (HG2.out.trans (hbb.trans (aQ HB3.out (some b))));have hT3:w3.heap[w2.heap.size]?=some (tokO tk):=aB HB3.out (heap_alloc_new w2 _);have hcp:Ce w3 w2.heap.size 1 (I6 (tk.p:Int)):=aA hT3 1;clear hbb hT3;go_wp2_with (go_at_call 232;refine(HFL.out w3 HR3.out).mono ?_;rintro e w4 ⟨rfl,h4,hg4⟩;have H4R:=hid h4;have HG4:=hid hg4;clear h4 hg4)
   go_ret;rw[HM.out,if_pos HEZ.out,<-HTE.out];exact⟨rfl,H4R.out,HG3.out.trans HG4.out⟩
 ·have HE:=hid he;have qe:(r1.e==0)=false:=by simp[he]
  have qe':(r1.e != 0)=true:=by simp[he]
  clear he;go_enter Tryz.func301,Tryz.ntmps301
  go_wp2_with (go_at_call 332;refine HT.out.mono ?_;rintro e w2 ⟨rfl,h2,hg2⟩;have H2R:=hid h2;have HG2:=hid hg2;have hpc:=HPC.out w2 h2;have hsn:=HSN.out w2;have hbl:=h2.lt;clear h2 hg2)
  go_ret;have HM:r.moment s gM=(0,r1):=by
   unfold Rd.moment;dsimp only;rw[<-HR1.out,if_pos HE.out]
  rw[HM];exact⟨rfl,H2R.out.alloc _,HG2.out.trans (World.grownBy_alloc _ _ _)⟩
theorem aDh (b:Nat) (s:ByteArray) (r:Rd) (w:World) (h:IsRd w b s r) (hf:r.Fit s) (hs:s.size<=100000) (hTB:TB w b) :
 CP 301 #[.pointer (some ⟨b,0,none⟩),.func (.func 304) #[] #[]] w fun x w'=>x=.returned (I6 (r.moment s iV).1)/\IsRd w' b s (r.moment s iV).2/\w.grownBy w' (some b):=by
 have HT:=hid (rE b s r 3 w h hs hTB);obtain⟨tk,htk⟩:=ez (fS r 3)
 obtain⟨r1,hr1⟩:=ez (r.take s 3)
 rw[<-htk,<-hr1] at HT;have HTK:=hid htk;have HR1:=hid hr1;have HLT:=hid h.lt;have htb:tk.b.size<=400000:=by
  rw[htk];unfold fS;split
  ·have:=hf.b;omega
  ·exact Nat.zero_le _
 clear htk hr1;have HLN:=hid (fun w2=>zG w2 tk);have HSN:=hid (fun w2=>lB w2 #[I6 0,I6 0,.string ⟨#[]⟩,.string ⟨#[]⟩,I6 0,I6 0,.bool false,.bool false] rfl tk);have HPC:=hid (fun (w2:World) (h2:IsRd w2 b s r1)=>(aA h2.at_ 10:Ce w2 b 10 (I6 r1.e)));by_cases he:r1.e=0
 ·have HE:=hid he;have hk:r.e=0/\r.k=3:=by
   have h1:=HR1.out;unfold Rd.take at h1;split at h1
   ·rename_i hx;rw[h1] at he;exact absurd he hx
   split at h1
   ·rename_i hx hy;rw[h1] at he;exact absurd he (Rd.fail_e _ _ _ gc)
   ·rename_i hx hy;exact⟨Decidable.not_not.1 hx,Decidable.not_not.1 hy⟩
  have HTE:=hid (show tk=r by rw[HTK.out,fS,if_pos hk]);have qe:(r1.e==0)=true:=by simp[he]
  have qe':(r1.e != 0)=false:=by simp[he]
  have HCAL:=hid (fun w'=>aCa tk.b ga w');obtain⟨n,hn⟩:=ez ((iV tk.b.data.toList).1)
  obtain⟨e,hee⟩:=ez ((iV tk.b.data.toList).2)
  rw[<-hn,<-hee] at HCAL;have HM:=hid (show r.moment s iV=(n,if e≠0 then r1.fail r.p e else r1) by
   unfold Rd.moment;dsimp only;rw[<-HR1.out,if_neg (by simp[HE.out]),hn,hee,HTE.out])
  clear hn hee he hk;by_cases hez:e=0
  ·have qz:(e==0)=true:=by simp[hez]
   have qz':(e != 0)=false:=by simp[hez]
   have HEZ:=hid hez;clear hez;go_enter Tryz.func301,Tryz.ntmps301
   go_wp2_with (first
    | (go_at_call 304;refine(HCAL.out _).mono ?_;rintro e w3 ⟨rfl,hb3⟩;have HB3:=hid hb3;clear hb3)
    | (go_at_call 332;refine HT.out.mono ?_;rintro e w2 ⟨rfl,h2,hg2⟩;have H2R:=hid h2;have HG2:=hid hg2;have hpc:=HPC.out w2 h2;have hsn:=HSN.out w2;have hbl:=h2.lt;clear h2 hg2))
   go_ret;rw[HM.out,if_neg (by simp[HEZ.out])];have hbb:=World.grownBy_alloc w2 (tokO tk) (some b);exact⟨rfl,bK (H2R.out.alloc _) HB3.out (by rw[World.size_alloc];omega),HG2.out.trans (hbb.trans (aQ HB3.out (some b)))⟩
  ·have qz:(e==0)=false:=by simp[hez]
   have qz':(e != 0)=true:=by simp[hez]
   have HEZ:=hid hez;have HFL:=hid (fun (w':World) (h':IsRd w' b s r1)=>bC b s r1 tk.p e w' h');clear hez;go_enter Tryz.func301,Tryz.ntmps301
   go_upto_region 5 with (first
    | (go_at_call 304;refine(HCAL.out _).mono ?_;rintro e w3 ⟨rfl,hb3⟩;have HB3:=hid hb3;clear hb3)
    | (go_at_call 332;refine HT.out.mono ?_;rintro e w2 ⟨rfl,h2,hg2⟩;have H2R:=hid h2;have HG2:=hid hg2;have hpc:=HPC.out w2 h2;have hsn:=HSN.out w2;have hbl:=h2.lt;clear h2 hg2))
   have hbb:=World.grownBy_alloc w2 (tokO tk) (some b);have HR3:=hid (bK (H2R.out.alloc (tokO tk)) HB3.out (by rw[World.size_alloc];omega));have HG3:=hid (HG2.out.trans (hbb.trans (aQ HB3.out (some b))));have hT3:w3.heap[w2.heap.size]?=some (tokO tk):=aB HB3.out (heap_alloc_new w2 _);have hcp:Ce w3 w2.heap.size 1 (I6 (tk.p:Int)):=aA hT3 1;clear hbb hT3;go_wp2_with (go_at_call 232;refine(HFL.out w3 HR3.out).mono ?_;rintro e w4 ⟨rfl,h4,hg4⟩;have H4R:=hid h4;have HG4:=hid hg4;clear h4 hg4)
   go_ret;rw[HM.out,if_pos HEZ.out,<-HTE.out];exact⟨rfl,H4R.out,HG3.out.trans HG4.out⟩
 ·have HE:=hid he;have qe:(r1.e==0)=false:=by simp[he]
  have qe':(r1.e != 0)=true:=by simp[he]
  clear he;go_enter Tryz.func301,Tryz.ntmps301
  go_wp2_with (go_at_call 332;refine HT.out.mono ?_;rintro e w2 ⟨rfl,h2,hg2⟩;have H2R:=hid h2;have HG2:=hid hg2;have hpc:=HPC.out w2 h2;have hsn:=HSN.out w2;have hbl:=h2.lt;clear h2 hg2)
  go_ret;have HM:r.moment s iV=(0,r1):=by
   unfold Rd.moment;dsimp only;rw[<-HR1.out,if_pos HE.out]
  rw[HM];exact⟨rfl,H2R.out.alloc _,HG2.out.trans (World.grownBy_alloc _ _ _)⟩
end
end
section
open Go Go.RowKit Go.Shelf
structure RdI (s:ByteArray) (r:Rd):Prop where
 t0:r.e=0->r.k=0->r.t=⟨#[]⟩
 fit:r.Fit s
 k5:r.k<=5
theorem pJ (r:Rd) (p:Nat) (e:Int):(r.fail p e).k=r.k:=by unfold Rd.fail;split<;>rfl
theorem mid_k (s:ByteArray) (a o:Nat) (c:UInt8):(jZ s a o c).k<=5:=by
 unfold jZ;split
 ·unfold gQ;split
  ·dsimp only;omega
  ·rw[pJ];exact Nat.zero_le _
  ·rw[pJ];exact Nat.zero_le _
 split
 ·unfold iZ;split
  ·dsimp only;omega
  ·rw[pJ];exact Nat.zero_le _
  ·rw[pJ];exact Nat.zero_le _
 split
 ·dsimp only;omega
 split
 ·unfold iN
  extract_lets fq tq
  split
  ·rw[pJ];exact Nat.zero_le _
  ·exact(by decide:2<=5)
 split
 ·exact Nat.le_refl _
 split
 ·exact Nat.le_refl _
 ·rw[pJ];exact Nat.zero_le _
theorem adv_k {s:ByteArray} {r:Rd} (h:r.k<=5):(r.adv s).k<=5:=by
 by_cases he:r.e=0
 ·cases hc:s.data.toList[bL s.data.toList r.nx spC]? with
  | none=>rw[oI he hc];exact Nat.zero_le _
  | some c =>
    rw[oH he hc];have hm:=mid_k s (bL s.data.toList r.nx spC) r.o c;unfold kX;split<;>exact hm
 ·unfold Rd.adv;rw[if_pos he];exact h
theorem aBh (s:ByteArray) (a o:Nat) (c:UInt8) (hc:s.data.toList[a]?=some c):(jZ s a o c).e=0->(jZ s a o c).k≠0/\a<(jZ s a o c).nx:=by
 unfold jZ;split
 ·intro he;refine⟨(aI5 s a o).2 he,?_⟩;revert he;unfold gQ;split
  ·rename_i i b h;intro _;have:=pS _ _ _ _ _ _ h;dsimp only;omega
  ·rename_i i e h;intro he;exact absurd he (Rd.fail_e _ _ _ (nU _ _ _ _ _ _ h))
  ·intro he;exact absurd he (Rd.fail_e _ _ _ gc)
 split
 ·intro he;refine⟨(aI7 s a o).2 he,?_⟩;revert he;unfold iZ;split
  ·rename_i i b h;intro _;have:=(qX _ _ _ _ _ _ h).1;dsimp only;omega
  ·intro he;exact absurd he (Rd.fail_e _ _ _ gc)
  ·intro he;exact absurd he (Rd.fail_e _ _ _ gc)
 split
 ·rename_i hl;intro _;refine⟨by simp,?_⟩;exact runI_gt _ _ _ c hc (by unfold lN;rw[hl];rfl)
 split
 ·intro he;refine⟨(aI6 s a o).2 he,?_⟩;revert he;unfold iN;dsimp only;have h1:a<=(if s.data.toList[a]?=some 45 then a+1 else a):=by split<;>omega
  obtain⟨f,hf⟩:=ez ((if s.data.toList[a]?=some 45 then a+1 else a))
  rw[<-hf] at h1 ⊢;have h2:=jD s.data.toList f bD;obtain⟨tq,htq⟩:=ez (bL s.data.toList f bD)
  rw[<-htq] at h2 ⊢;have h3:=jD s.data.toList (tq+1) bD;split
  ·intro he;exact absurd he (Rd.fail_e _ _ _ gc)
  ·rename_i hne;obtain⟨q,hq⟩:=ez ((if s.data.toList[tq]?=some 46/\(s.data.toList[tq+1]?.any bD)=true then (bL s.data.toList (tq+1) bD,true,false) else if s.data.toList[tq]?=some 100 then (tq+1,true,true) else (tq,false,false)))
   rw[<-hq];have h4:tq<=q.1:=by
    rw[hq];split
    ·dsimp only;omega
    ·split<;>dsimp only<;>omega
   intro _;dsimp only;split
   ·rw[mF];dsimp only;omega
   ·dsimp only;omega
 split
 ·intro _;exact⟨by simp,by dsimp only;omega⟩
 split
 ·intro _;exact⟨by simp,by dsimp only;omega⟩
 ·intro he;exact absurd he (Rd.fail_e _ _ _ gc)
theorem pW {s:ByteArray} {r:Rd} (h:RdI s r) (p:Nat) (e:Int) (he:e≠0):RdI s (r.fail p e):=⟨fun h1=>absurd h1 (Rd.fail_e _ _ _ he),gI h.fit _ _,by rw[pJ];exact h.k5⟩
theorem lU {s:ByteArray} {r:Rd} (h:RdI s r):RdI s (r.adv s):=by
 refine⟨?_,fit_adv h.fit,adv_k h.k5⟩;by_cases he:r.e=0
 ·cases hc:s.data.toList[bL s.data.toList r.nx spC]? with
  | none=>rw[oI he hc];intro _ _;rfl
  | some c =>
    rw[oH he hc];intro h1 h2;have hm:=aBh s _ r.o c hc;unfold kX at h1 h2;split at h2
    ·rename_i h3;exact absurd h2 (hm h3).1
    ·rename_i h3;rw[if_neg h3] at h1;exact absurd h1 h3
 ·unfold Rd.adv;rw[if_pos he];exact h.t0
theorem oA {s:ByteArray} {r:Rd} (he:r.e=0):r.mu s=1+2 * (s.size-r.nx)+(if r.k=0 then 0 else 1):=by unfold Rd.mu;rw[if_neg (by simp[he])]
theorem rW {s:ByteArray} {r:Rd}:(r.adv s).mu s<=r.mu s:=by
 by_cases he:r.e=0
 ·rw[oA he];cases hc:s.data.toList[bL s.data.toList r.nx spC]? with
  | none =>
    rw[oI he hc,oA (r:=r1F _ _) rfl,if_pos (show(r1F (bL s.data.toList r.nx spC) r.o).k=0 from rfl)];have:=jD s.data.toList r.nx spC;simp only[r1F];omega
  | some c =>
    rw[oH he hc];have hm:=aBh s _ r.o c hc;have hg:=jD s.data.toList r.nx spC;have hlt:bL s.data.toList r.nx spC<s.size:=(List.getElem?_eq_some_iff.1 hc).1;unfold kX;by_cases h3:(jZ s (bL s.data.toList r.nx spC) r.o c).e=0
    ·rw[if_pos h3,oA (r:={ jZ s (bL s.data.toList r.nx spC) r.o c with t:=s.extract (bL s.data.toList r.nx spC) (jZ s (bL s.data.toList r.nx spC) r.o c).nx }) h3];have:=(hm h3).2;dsimp only;split<;>split<;>omega
    ·rw[if_neg h3,Rd.mu_bad h3];exact Nat.zero_le _
 ·unfold Rd.adv;rw[if_pos he];exact Nat.le_refl _
theorem aLa {s:ByteArray} {r:Rd} (he:r.e=0) (hk:r.k≠0):(r.adv s).mu s<r.mu s:=by
 rw[oA he,if_neg hk];cases hc:s.data.toList[bL s.data.toList r.nx spC]? with
 | none =>
   rw[oI he hc,oA (r:=r1F _ _) rfl,if_pos (show(r1F (bL s.data.toList r.nx spC) r.o).k=0 from rfl)];have:=jD s.data.toList r.nx spC;simp only[r1F];omega
 | some c =>
   rw[oH he hc];have hm:=aBh s _ r.o c hc;have hg:=jD s.data.toList r.nx spC;have hlt:bL s.data.toList r.nx spC<s.size:=(List.getElem?_eq_some_iff.1 hc).1;unfold kX;by_cases h3:(jZ s (bL s.data.toList r.nx spC) r.o c).e=0
   ·rw[if_pos h3,oA (r:={ jZ s (bL s.data.toList r.nx spC) r.o c with t:=s.extract (bL s.data.toList r.nx spC) (jZ s (bL s.data.toList r.nx spC) r.o c).nx }) h3];have:=(hm h3).2;dsimp only;split<;>omega
   ·rw[if_neg h3,Rd.mu_bad h3];omega
theorem kD {s:ByteArray} (r:Rd) (p:Nat) (e:Int) (he:e≠0):(r.fail p e).mu s<=r.mu s:=by rw[Rd.fail_mu r p e he];exact Nat.zero_le _
theorem gT {s:ByteArray} {r:Rd} (h:RdI s r) (t:ByteArray):RdI s (r.expect s t):=by
 unfold Rd.expect;split;· exact h
 split;· exact lU h
 exact pW h _ _ gc
theorem jR {s:ByteArray} {r:Rd} (t:ByteArray):(r.expect s t).mu s<=r.mu s:=by
 unfold Rd.expect;split;· exact Nat.le_refl _
 split;· exact rW
 exact kD _ _ _ gc
theorem mY {s:ByteArray} {r:Rd} (h:RdI s r) (k:Nat):RdI s (r.take s k):=by
 unfold Rd.take;split;· exact h
 split;· exact pW h _ _ gc
 exact lU h
theorem aAq {s:ByteArray} {r:Rd} (k:Nat):(r.take s k).mu s<=r.mu s:=by
 unfold Rd.take;split;· exact Nat.le_refl _
 split;· exact kD _ _ _ gc
 exact rW
theorem aM3 {s:ByteArray} {r:Rd} (h:RdI s r):RdI s (r.name s):=by
 unfold Rd.name;dsimp only;split
 ·exact pW (mY h 1) _ _ gc
 ·exact mY h 1
theorem name_mu {s:ByteArray} {r:Rd}:(r.name s).mu s<=r.mu s:=by
 unfold Rd.name;dsimp only;split
 ·rw[Rd.fail_mu _ _ _ gc];exact Nat.zero_le _
 ·exact aAq 1
theorem uM {s:ByteArray} {r:Rd} (h:RdI s r) (f:List UInt8->Int × Int):RdI s (r.moment s f).2:=by
 unfold Rd.moment;dsimp only;split
 ·exact mY h 3
 ·dsimp only;split
  ·rename_i h1;exact pW (mY h 3) _ _ h1
  ·exact mY h 3
theorem zC {s:ByteArray} {r:Rd} (f:List UInt8->Int × Int):(r.moment s f).2.mu s<=r.mu s:=by
 unfold Rd.moment;dsimp only;split
 ·exact aAq 3
 ·dsimp only;split
  ·rename_i h1;rw[Rd.fail_mu _ _ _ h1];exact Nat.zero_le _
  ·exact aAq 3
def aO1 (s:ByteArray) (rd:Rd->Val × Rd):Prop:=∀r,RdI s r->RdI s (rd r).2/\(rd r).2.mu s<=r.mu s/\(r.e=0->(rd r).2.mu s<r.mu s)/\((rd r).2.e=0->r.e=0)
theorem iR {s:ByteArray} {r:Rd} {t:ByteArray} (h:(r.expect s t).e=0):r.e=0:=by
 unfold Rd.expect at h;split at h
 ·rename_i h1;exact absurd h h1
 ·rename_i h1;exact Decidable.not_not.1 h1
theorem take_e {s:ByteArray} {r:Rd} {k:Nat} (h:(r.take s k).e=0):r.e=0:=by
 unfold Rd.take at h;split at h
 ·rename_i h1;exact absurd h h1
 ·rename_i h1;exact Decidable.not_not.1 h1
theorem name_e {s:ByteArray} {r:Rd} (h:(r.name s).e=0):r.e=0:=by
 unfold Rd.name at h;dsimp only at h;split at h
 ·exact absurd h (Rd.fail_e _ _ _ gc)
 ·exact take_e h
theorem fail_e0 {r:Rd} {p:Nat} {e:Int} (h:(r.fail p e).e=0):r.e=0:=by
 unfold Rd.fail at h;split at h
 ·rename_i h1;exact h1
 ·rename_i h1;exact absurd h h1
theorem vA {s:ByteArray} {rd:Rd->Val × Rd} (hrd:aO1 s rd) {r:Rd} (h:RdI s r) (he:r.e=0) (first:Bool) (t:ByteArray) :
 RdI s (rd (if first then r else r.expect s t)).2/\(rd (if first then r else r.expect s t)).2.mu s<r.mu s:=by
 cases first
 ·simp only[Bool.false_eq_true,if_false];have h1:=gT h t;have h2:=jR (s:=s) (r:=r) t;obtain⟨a,b,c,d⟩:=hrd _ h1;refine⟨a,?_⟩;by_cases hx:(r.expect s t).e=0
  ·exact Nat.lt_of_lt_of_le (c hx) h2
  ·rw[Rd.mu_bad hx] at b;have:=Rd.mu_pos (s:=s) he;omega
 ·simp only[if_true];obtain⟨a,b,c,d⟩:=hrd _ h;exact⟨a,c he⟩
theorem zE {s:ByteArray} {rd:Rd->Val × Rd} (hrd:aO1 s rd):∀(F:Nat) (first:Bool) (r:Rd) (acc:List Val),RdI s r->RdI s (dL s rd F first r acc).2/\(dL s rd F first r acc).2.mu s<=r.mu s/\((dL s rd F first r acc).2.e=0->r.e=0)
 | 0,_,r,_,h=>⟨h,Nat.le_refl _,fun h=>h⟩
 | F+1,first,r,acc,h=>by
   rw[dL];split
   ·exact⟨h,Nat.le_refl _,fun h=>h⟩
   ·rename_i hc;have he:r.e=0:=Decidable.not_not.1 fun h=>hc (.inl h);obtain⟨a,b⟩:=vA hrd h he first ⟨#[44]⟩
    obtain⟨c,d,e⟩:=zE hrd F false _ (acc++[(rd (if first then r else r.expect s ⟨#[44]⟩)).1]) a;exact⟨c,by dsimp only;omega,fun _=>he⟩
def pU (s:ByteArray) (first:Bool) (r:Rd) (acc:List (ByteArray × Val)):Rd :=
 let r1:=if first then r else r.expect s ⟨#[44]⟩
 let r2:=r1.name s
 let nm:ByteArray:=if r1.e=0/\r1.k=1 then r1.t else ⟨#[]⟩
 (if r2.e=0/\acc.any (fun x=>decide (x.1=nm))=true then r2.fail r1.p 7 else r2).expect s ⟨#[58]⟩
def aJb (s:ByteArray) (first:Bool) (r:Rd):ByteArray :=
 let r1:=if first then r else r.expect s ⟨#[44]⟩
 if r1.e=0/\r1.k=1 then r1.t else ⟨#[]⟩
theorem pV (s:ByteArray) (rd:Rd->Val × Rd) (f:Nat) (first:Bool) (r:Rd) (acc:List (ByteArray × Val)):fW s rd (f+1) first r acc=if r.e≠0\/r.is ⟨#[125]⟩=true then (acc,r) else
 fW s rd f false (rd (pU s first r acc)).2 (acc++[(aJb s first r,(rd (pU s first r acc)).1)]):=by
 rw[fW];rfl
theorem aI3 {s:ByteArray} {r:Rd} (h:RdI s r) (first:Bool) (acc:List (ByteArray × Val)):RdI s (pU s first r acc)/\(pU s first r acc).mu s<=r.mu s/\((pU s first r acc).e=0->r.e=0):=by
 have h1:RdI s (if first then r else r.expect s ⟨#[44]⟩)/\(if first then r else r.expect s ⟨#[44]⟩).mu s<=r.mu s/\((if first then r else r.expect s ⟨#[44]⟩).e=0->r.e=0):=by
  split
  ·exact⟨h,Nat.le_refl _,fun h=>h⟩
  ·exact⟨gT h _,jR _,iR⟩
 unfold pU;dsimp only;obtain⟨r1,hr1⟩:=ez ((if first then r else r.expect s ⟨#[44]⟩))
 rw[<-hr1] at h1 ⊢;obtain⟨a,b,c⟩:=h1;have h2:=aM3 a;have h3:=name_mu (s:=s) (r:=r1);obtain⟨nm,hnm⟩:=ez ((if r1.e=0/\r1.k=1 then r1.t else ⟨#[]⟩):ByteArray)
 rw[<-hnm];have h4:RdI s (if (r1.name s).e=0/\acc.any (fun x=>decide (x.1=nm))=true then (r1.name s).fail r1.p 7 else r1.name s)/\(if (r1.name s).e=0/\acc.any (fun x=>decide (x.1=nm))=true then (r1.name s).fail r1.p 7 else r1.name s).mu s<=(r1.name s).mu s/\((if (r1.name s).e=0/\acc.any (fun x=>decide (x.1=nm))=true then (r1.name s).fail r1.p 7 else r1.name s).e=0->(r1.name s).e=0):=by
  split
  ·exact⟨pW h2 _ _ gc,kD _ _ _ gc,fail_e0⟩
  ·exact⟨h2,Nat.le_refl _,fun h=>h⟩
 obtain⟨d,e,f⟩:=h4;refine⟨gT d _,?_,fun hx=>c (name_e (f (iR hx)))⟩;have:=jR (s:=s) (r:=(if (r1.name s).e=0/\acc.any (fun x=>decide (x.1=nm))=true then (r1.name s).fail r1.p 7 else r1.name s)) ⟨#[58]⟩;omega
theorem yT {s:ByteArray} {rd:Rd->Val × Rd} (hrd:aO1 s rd) {r:Rd} (h:RdI s r) (he:r.e=0) (first:Bool) (acc:List (ByteArray × Val)) :
 RdI s (rd (pU s first r acc)).2/\(rd (pU s first r acc)).2.mu s<r.mu s:=by
 obtain⟨h1,h2,h3⟩:=aI3 h first acc
 obtain⟨a,b,c,d⟩:=hrd _ h1;refine⟨a,?_⟩;by_cases hx:(pU s first r acc).e=0
 ·have:=c hx;omega
 ·rw[Rd.mu_bad hx] at b;have:=Rd.mu_pos (s:=s) he;omega
theorem aD4 {s:ByteArray} {rd:Rd->Val × Rd} (hrd:aO1 s rd):∀(F:Nat) (first:Bool) (r:Rd) (acc:List (ByteArray × Val)),RdI s r->RdI s (fW s rd F first r acc).2/\(fW s rd F first r acc).2.mu s<=r.mu s/\((fW s rd F first r acc).2.e=0->r.e=0)
 | 0,_,r,_,h=>⟨h,Nat.le_refl _,fun h=>h⟩
 | F+1,first,r,acc,h=>by
   rw[pV];split
   ·exact⟨h,Nat.le_refl _,fun h=>h⟩
   ·rename_i hc;have he:r.e=0:=Decidable.not_not.1 fun h=>hc (.inl h);obtain⟨a,b⟩:=yT hrd h he first acc
    obtain⟨c,d,e⟩:=aD4 hrd F false _ (acc++[(aJb s first r,(rd (pU s first r acc)).1)]) a;exact⟨c,by omega,fun _=>he⟩
theorem aBb (s:ByteArray) (f:Nat) (r:Rd) (he:r.e≠0):rdV s f r=(dA,r):=by unfold rdV;rw[if_pos he]
theorem aBa (s:ByteArray):∀f,aO1 s (rdV s f):=by
 intro f
 induction f with
 | zero =>
   intro r h;by_cases he:r.e=0
   ·have hp:=Rd.mu_pos (s:=s) he;unfold rdV;rw[if_neg (by simp[he])];by_cases hk:(r.k=0\/r.k=5)/\r.t≠⟨#[91]⟩/\r.t≠⟨#[123]⟩
    ·rw[if_pos hk];exact⟨pW h _ _ gc,kD _ _ _ gc,fun _=>by dsimp only;rw[Rd.fail_mu _ _ _ gc];exact hp,fun _=>he⟩
    ·rw[if_neg hk];exact⟨pW h _ _ gc,kD _ _ _ gc,fun _=>by dsimp only;rw[Rd.fail_mu _ _ _ gc];exact hp,fun _=>he⟩
   ·rw[aBb s 0 r he];exact⟨h,Nat.le_refl _,fun h1=>absurd h1 he,fun h1=>h1⟩
 | succ f ih =>
   intro r h;by_cases he:r.e=0
   ·have hp:=Rd.mu_pos (s:=s) he;have hF:∀(x:Rd) (p:Nat) (e:Int),RdI s x->e≠0->RdI s (dA,x.fail p e).2/\(dA,x.fail p e).2.mu s<=r.mu s/\(r.e=0->(dA,x.fail p e).2.mu s<r.mu s)/\((dA,x.fail p e).2.e=0->r.e=0):=fun x p e hx hne=>⟨pW hx _ _ hne,by dsimp only;rw[Rd.fail_mu _ _ _ hne];exact Nat.zero_le _,fun _=>by dsimp only;rw[Rd.fail_mu _ _ _ hne];exact hp,fun _=>he⟩
    have hL:∀(v:Val) (x:Rd),RdI s x->x.mu s<r.mu s->RdI s (v,x).2/\(v,x).2.mu s<=r.mu s/\(r.e=0->(v,x).2.mu s<r.mu s)/\((v,x).2.e=0->r.e=0):=fun v x hx hm=>⟨hx,by dsimp only;omega,fun _=>hm,fun _=>he⟩
    unfold rdV;rw[if_neg (by simp[he])];by_cases hk:(r.k=0\/r.k=5)/\r.t≠⟨#[91]⟩/\r.t≠⟨#[123]⟩
    ·rw[if_pos hk];exact hF _ _ _ h gc
    ·rw[if_neg hk];have hk0:r.k≠0:=by
      intro h0;refine hk ⟨.inl h0,?_⟩;rw[h.t0 he h0];exact⟨by simp,by simp⟩
     dsimp only;have a1:=lU h;have a2:=aLa (s:=s) he hk0;obtain⟨r1,hr1⟩:=ez (r.adv s)
     rw[<-hr1] at a1 a2 ⊢;by_cases c0:r.k=2
     ·rw[if_pos c0];exact hL _ _ a1 a2
     rw[if_neg c0];by_cases c1:r.k=3
     ·rw[if_pos c1];exact hL _ _ a1 a2
     rw[if_neg c1];by_cases c2:r.k=4
     ·rw[if_pos c2];exact hL _ _ a1 a2
     rw[if_neg c2];by_cases c3:r.t=⟨#[91]⟩
     ·rw[if_pos c3];obtain⟨b1,b2,_⟩:=zE ih (r1.mu s+1) true r1 [] a1;have b3:=jR (s:=s) (r:=(dL s (rdV s f) (r1.mu s+1) true r1 []).2) ⟨#[93]⟩;exact hL _ _ (gT b1 _) ga
     rw[if_neg c3];by_cases c4:r.t=⟨#[123]⟩
     ·rw[if_pos c4];obtain⟨b1,b2,_⟩:=aD4 ih (r1.mu s+1) true r1 [] a1;have b3:=jR (s:=s) (r:=(fW s (rdV s f) (r1.mu s+1) true r1 []).2) ⟨#[125]⟩;exact hL _ _ (gT b1 _) ga
     rw[if_neg c4];by_cases c5:r1.e≠0
     ·rw[if_pos c5];exact hL _ _ a1 a2
     rw[if_neg c5];by_cases c6:r1.is ⟨#[40]⟩=true
     ·rw[if_pos c6];by_cases cn:aL r.t=false
      ·rw[if_pos cn];exact hF _ _ _ a1 gc
      ·rw[if_neg cn];obtain⟨c1,c2,_,_⟩:=ih _ (lU a1);have c3:=rW (s:=s) (r:=r1);have b3:=jR (s:=s) (r:=(rdV s f (r1.adv s)).2) ⟨#[41]⟩;exact hL _ _ (gT c1 _) ga
     rw[if_neg c6];by_cases c7:r.t=⟨#[116,114,117,101]⟩
     ·rw[if_pos c7];exact hL _ _ a1 a2
     rw[if_neg c7];by_cases c8:r.t=⟨#[102,97,108,115,101]⟩
     ·rw[if_pos c8];exact hL _ _ a1 a2
     rw[if_neg c8];by_cases c9:r.t=⟨#[100,97,116,101]⟩
     ·rw[if_pos c9];exact hL _ _ (uM a1 _) (Nat.lt_of_le_of_lt (zC _) a2)
     rw[if_neg c9];by_cases c10:r.t=⟨#[116,105,109,101]⟩
     ·rw[if_pos c10];exact hL _ _ (uM a1 _) (Nat.lt_of_le_of_lt (zC _) a2)
     rw[if_neg c10];by_cases c11:r.t=⟨#[110,117,108,108]⟩/\f=7
     ·rw[if_pos c11];exact hL _ _ a1 a2
     ·rw[if_neg c11];exact hF _ _ _ a1 gc
   ·rw[aBb s (f+1) r he];exact⟨h,Nat.le_refl _,fun h1=>absurd h1 he,fun h1=>h1⟩
end
section
open Go Go.RowKit Go.Shelf
theorem aGs (n:Int) (w:World):CP 27 #[I6 n] w fun x w'=>x=.returned (.agg #[I6 2,I6 n,I6 0,.string ⟨#[]⟩,.slice none 0 0,.slice none 0 0])/\BB w w':=by
 go_enter Tryz.func27,Tryz.ntmps27
 go_wp2;refine bodyPost_ret (v:=.agg #[I6 2,I6 n,I6 0,.string ⟨#[]⟩,.slice none 0 0,.slice none 0 0]) (by simp[results,Tryz.results27,go_sem]) rfl ?_;exact⟨rfl,(bR w).alloc lr _⟩
theorem aGt (n m:Int) (w:World):CP 234 #[I6 n,I6 m] w fun x w'=>x=.returned (.agg #[I6 3,I6 n,I6 m,.string ⟨#[]⟩,.slice none 0 0,.slice none 0 0])/\BB w w':=by
 go_enter Tryz.func234,Tryz.ntmps234
 go_wp2;refine bodyPost_ret (v:=.agg #[I6 3,I6 n,I6 m,.string ⟨#[]⟩,.slice none 0 0,.slice none 0 0]) (by simp[results,Tryz.results234,go_sem]) rfl ?_;exact⟨rfl,(bR w).alloc lr _⟩
theorem aDl (z:ByteArray) (w:World):CP 26 #[.string z] w fun x w'=>x=.returned (.agg #[I6 4,I6 0,I6 0,.string z,.slice none 0 0,.slice none 0 0])/\BB w w':=by
 go_enter Tryz.func26,Tryz.ntmps26
 go_wp2;refine bodyPost_ret (v:=.agg #[I6 4,I6 0,I6 0,.string z,.slice none 0 0,.slice none 0 0]) (by simp[results,Tryz.results26,go_sem]) rfl ?_;exact⟨rfl,(bR w).alloc lr _⟩
theorem aBg (z:ByteArray) (w:World):CP 235 #[.string z] w fun x w'=>x=.returned (.agg #[I6 5,I6 0,I6 0,.string z,.slice none 0 0,.slice none 0 0])/\BB w w':=by
 go_enter Tryz.func235,Tryz.ntmps235
 go_wp2;refine bodyPost_ret (v:=.agg #[I6 5,I6 0,I6 0,.string z,.slice none 0 0,.slice none 0 0]) (by simp[results,Tryz.results235,go_sem]) rfl ?_;exact⟨rfl,(bR w).alloc lr _⟩
theorem aDm (n:Int) (w:World):CP 300 #[I6 n] w fun x w'=>x=.returned (.agg #[I6 6,I6 n,I6 0,.string ⟨#[]⟩,.slice none 0 0,.slice none 0 0])/\BB w w':=by
 go_enter Tryz.func300,Tryz.ntmps300
 go_wp2;refine bodyPost_ret (v:=.agg #[I6 6,I6 n,I6 0,.string ⟨#[]⟩,.slice none 0 0,.slice none 0 0]) (by simp[results,Tryz.results300,go_sem]) rfl ?_;exact⟨rfl,(bR w).alloc lr _⟩
theorem aDk (n:Int) (w:World):CP 303 #[I6 n] w fun x w'=>x=.returned (.agg #[I6 7,I6 n,I6 0,.string ⟨#[]⟩,.slice none 0 0,.slice none 0 0])/\BB w w':=by
 go_enter Tryz.func303,Tryz.ntmps303
 go_wp2;refine bodyPost_ret (v:=.agg #[I6 7,I6 n,I6 0,.string ⟨#[]⟩,.slice none 0 0,.slice none 0 0]) (by simp[results,Tryz.results303,go_sem]) rfl ?_;exact⟨rfl,(bR w).alloc lr _⟩
theorem aDj (w:World):CP 299 #[.bool true] w fun x w'=>x=.returned (.agg #[I6 1,I6 1,I6 0,.string ⟨#[]⟩,.slice none 0 0,.slice none 0 0])/\BB w w':=by
 go_enter Tryz.func299,Tryz.ntmps299
 go_wp2;refine bodyPost_ret (v:=.agg #[I6 1,I6 1,I6 0,.string ⟨#[]⟩,.slice none 0 0,.slice none 0 0]) (by simp[results,Tryz.results299,go_sem]) rfl ?_;exact⟨rfl,(bR w).alloc lr _⟩
theorem aBf (w:World):CP 299 #[.bool false] w fun x w'=>x=.returned (.agg #[I6 1,I6 0,I6 0,.string ⟨#[]⟩,.slice none 0 0,.slice none 0 0])/\BB w w':=by
 go_enter Tryz.func299,Tryz.ntmps299
 go_wp2;refine bodyPost_ret (v:=.agg #[I6 1,I6 0,I6 0,.string ⟨#[]⟩,.slice none 0 0,.slice none 0 0]) (by simp[results,Tryz.results299,go_sem]) rfl ?_;exact⟨rfl,(bR w).alloc lr _⟩
theorem ld6 {w:World} {N:Nat} {x0 x1 x2 x3 x4 x5:Value} {t:TypeId} {fr:Nat × Nat} (h:w.heap[N]?=some (.cells #[x0,x1,x2,x3,x4,x5] t fr)):(loadCellsFrom ⟨N,0,none⟩ 0 6 #[]).run Tryz.prog w=.ok #[x0,x1,x2,x3,x4,x5] w:=by
 have:=run_loadCells_list (P:=Tryz.prog) w ⟨N,0,none⟩ [x0,x1,x2,x3,x4,x5] (fun j v hv=>by
  rw[aCe,Nat.zero_add,aA h j];simpa using hv)
 exact this
theorem st6 {w:World} {N:Nat} {cur:Array Value} (h:w.heap[N]?=some (.cells cur 36 (0,0))) (hc:cur.size=6) (x0 x1 x2 x3 x4 x5:Value) (h1:∀v∈[x0,x1,x2,x3,x4,x5],v.oneCell'=true) :
 (storeCells ⟨N,0,none⟩ [x0,x1,x2,x3,x4,x5] 0).run Tryz.prog w=.ok () (w.setRow N #[x0,x1,x2,x3,x4,x5]):=by
 have:=run_storeCells_from (P:=Tryz.prog) N 36 [x0,x1,x2,x3,x4,x5] 0 cur w h (by rw[hc];rfl) h1
 simpa using this
theorem infoVal:(Tryz.prog.info? 36).map (·.size)=some 6:=by kernel_rfl
theorem aAw (w:World) (z:Array Value) (hz:z.size=6) (x0 x1 x2 x3 x4 x5:Value) (h1:∀v∈[x0,x1,x2,x3,x4,x5],v.oneCell'=true) :
 (storeCells ⟨w.heap.size,0,none⟩ [x0,x1,x2,x3,x4,x5] 0).run Tryz.prog (w.alloc (.cells z 36))=.ok () (w.alloc (.cells #[x0,x1,x2,x3,x4,x5] 36)):=by
 have:=run_storeCells_new (P:=Tryz.prog) w 36 z #[x0,x1,x2,x3,x4,x5] (by rw[infoVal];rfl) (by rw[hz];rfl) (by
  rw[Array.all_eq_true_iff_forall_mem];intro v hv;exact h1 v (by simpa using hv))
 exact this
abbrev valZ:Obj:=.cells #[I6 0,I6 0,I6 0,.string ⟨#[]⟩,.slice none 0 0,.slice none 0 0] 36
theorem BuiltV.grownB {T B b:Nat} {w w':World} {v:Value} {k:Nat} {l:List Val} (h:BuiltV T B w v k l) (hg:w.grownBy w' (some b)) (hb:b<B):BuiltV T B w' v k l:=by
 have ho:=h.own;obtain⟨cs,h1,h2,h3⟩:=h;refine⟨cs,h1,h2.kept hg ?_,fun j hj hj'=>(h3 j hj hj').same fun i hi=>⟨⟨hi.1,by have:=hg.size;omega,hi.2.2⟩,hg.block i hi.2.1 (by have:=hi.1;simp;omega)⟩⟩;cases hv:v.ownBlock with
 | none=>exact .inl rfl
 | some g=>right;intro e;have:=(ho g hv).1;cases e;omega
theorem aV {w w':World} {b N:Nat} {o:Obj} (hg:w.grownBy w' (some b)) (h:w.heap[N]?=some o) (hne:N≠b):w'.heap[N]?=some o:=(hg.block N (ltOf h) (by simp[hne])).trans h
def muW (w:World) (b:Nat) (s:ByteArray):Nat:=if intOf ((w.cell? ⟨b,10,none⟩).getD undef)≠0 then 0 else 1+2 * (s.size-(intOf ((w.cell? ⟨b,1,none⟩).getD undef)).toNat)+(if intOf ((w.cell? ⟨b,2,none⟩).getD undef)=0 then 0 else 1)
theorem aBd {w:World} {b:Nat} {s:ByteArray} {r:Rd} (h:IsRd w b s r):muW w b s=r.mu s:=by
 unfold muW Rd.mu;rw[show Ce w b 10 (I6 r.e) from aA h.at_ 10,show Ce w b 1 (I6 (r.nx:Int)) from aA h.at_ 1,show Ce w b 2 (I6 (r.k:Int)) from aA h.at_ 2];simp only[Option.getD_some,intOf,Int.toNat_natCast];congr 2;have:((r.k:Int)=0)=(r.k=0):=by rw[eq_iff_iff];omega
 simp only[this]
theorem uW (t:ByteArray) (ht:t.size<=140737488351232) (c:VC) (d:Val) (w:World) (hd:IsVal (· < w.heap.size) w c d) :
 CP 298 #[.string t,c.v] w fun x w'=>(∃c':VC,x=.returned c'.v/\IsVal (fun b=>w.heap.size<=b/\b<w'.heap.size) w' c' (.mk 10 0 0 t [d] [] []))/\BB w w':=by
 have hw1:∀o1 o2 o3:Obj,BB w (((w.alloc o1).alloc o2).alloc o3):=fun o1 o2 o3=>(((bR w).alloc lr _).alloc gd _).alloc gj _;obtain⟨wq,hwq⟩:=ez (((w.alloc (vObj c)).alloc valZ).alloc (vObj c))
 have hbq:BB w wq:=by rw[hwq];exact hw1 _ _ _
 have hd2:IsVal (· < wq.heap.size) wq c d:=hd.same fun b hb=>⟨by have:=hbq.size;omega,hbq.block b hb⟩
 have hN:wq.heap[w.heap.size+2]?=some (vObj c):=by rw[hwq];exact aS _ _ _ gd
 have hsz:wq.heap.size=w.heap.size+3:=by rw[hwq];simp
 have hz2:wq.heap[w.heap.size+1]?=some valZ:=by rw[hwq];exact aD _ (aS _ _ _ gd)
 have hIV:IsVal (· < wq.heap.size) wq ⟨10,0,0,t,some ⟨w.heap.size+2,0,none⟩,1,1,none,0,0⟩ (.mk 10 0 0 t [d] [] []):=by
  refine⟨⟨rfl,rfl,rfl,rfl,⟨by simp[I64],by simp[I64],by simp[I64],ht,(show 1 * 88<=140737488351232 by decide),(show 0 * 104<=140737488351232 by decide),Nat.le_refl _,Nat.le_refl _⟩,rfl,rfl,rfl⟩,.inr ⟨w.heap.size+2,0,rfl,by omega,⟨⟨c,⟨aA hN 0,aA hN 1,aA hN 2,aA hN 3,aA hN 4,aA hN 5⟩,hd2⟩,trivial⟩⟩,.inl rfl⟩
 have HCL:=hid (mJ hIV);have HBQ:=hid hbq;have HSZ:=hid hsz;have HZ2:=hid hz2;rw[hwq] at HCL;clear hw1 hbq hd2 hN hsz hz2 hIV hd;dsimp only[VC.v] at HCL;go_enter Tryz.func298,Tryz.ntmps298
 go_wp2_with (go_at_call 117;refine HCL.out.mono ?_;rintro e w1 ⟨c1,rfl,hb1,hv1⟩;rw[<-hwq] at hb1 hv1;have HB1:=hid hb1;have HV1:=hid hv1;have hz1:=aB hb1 HZ2.out;have k0:=aA hz1 0;have k1:=aA hz1 1;have k2:=aA hz1 2;have k3:=aA hz1 3;have k4:=aA hz1 4;have k5:=aA hz1 5;have f0:=aC hz1 0;have f1:=aC hz1 1;have f2:=aC hz1 2;have f3:=aC hz1 3;have f4:=aC hz1 4;have f5:=aC hz1 5;(try dsimp only at k0 k1 k2 k3 k4 k5);clear hb1 hv1 hz1)
 refine bodyPost_ret (v:=c1.v) (by simp[results,Tryz.results298,go_sem,k0,k1,k2,k3,k4,k5]) rfl ?_;have hs:=HSZ.out;have hs1:=HB1.out.size;refine⟨⟨c1,rfl,?_⟩,?_⟩
 ·refine HV1.out.same fun i hi=>⟨⟨by omega,by simp[World.setCell];exact hi.2⟩,?_⟩
  iterate 6 (refine(Below.heap_setCell _ _ _ _ gi).trans ?_)
  rfl
 ·have hbb:=HBQ.out.trans (HB1.out.mono HBQ.out.size);exact(((((hbb.setCell gd _).setCell gd _).setCell gd _).setCell gd _).setCell gd _).setCell gd _
end
section
open Go Go.RowKit Go.Shelf
def rA (w:World) (b:Nat) (s:ByteArray) (q:Val × Rd) (x:Ending) (w':World):Prop:=∃(c:VC) (d:Val),x=.returned c.v/\IsVal (fun i=>w.heap.size<=i/\i<w'.heap.size) w' c d/\(q.2.e=0->d=q.1)/\IsRd w' b s q.2/\w.grownBy w' (some b)
def aIs (f:Nat):Prop:=∀(b:Nat) (s:ByteArray) (r:Rd) (dep:Int) (w:World),IsRd w b s r->RdI s r->s.size<=100000->TB w b->dep+f=8->CP 150 #[.pointer (some ⟨b,0,none⟩),I6 dep] w (rA w b s (rdV s f r))
def ListRel (w:World) (b N:Nat) (s:ByteArray) (f:Nat) (r0:Rd) (first:Bool) (wr:World):Prop :=
 ∃(r:Rd) (acc accd:List Val) (v:Value) (F:Nat),IsRd wr b s r/\RdI s r/\accd.length=acc.length/\(r.e=0->accd=acc)/\dL s (rdV s f) (r0.mu s+1) true r0 []=dL s (rdV s f) F first r acc/\r.mu s<F/\acc.length+r.mu s<=r0.mu s /\
  wr.heap[N]?=some valZ/\wr.heap[N+1]?=some (.cells #[I6 8,I6 0,I6 0,.string ⟨#[]⟩,v,.slice none 0 0] 36)/\BuiltV 36 (N+2) wr v accd.length accd/\w.grownBy wr (some b)
theorem aMe (s:ByteArray) (r:Rd):r.mu s<=2 * s.size+2:=by unfold Rd.mu;split<;>(try split)<;>omega
section
attribute [-go_sem] loadCellsFrom storeCells
attribute [local go_sem] aBr aBq aBp aBo aBn aBm aAt aAs
theorem aJz (f:Nat) (IH:aIs f) (b:Nat) (s:ByteArray) (r0:Rd) (dep:Int) (w:World) (h:IsRd w b s r0) (hI:RdI s r0) (hs:s.size<=100000) (hTB:TB w b) (hdep:dep+1+f=8) (hd0:0<=dep) :
 CP 236 #[.pointer (some ⟨b,0,none⟩),I6 dep] w
  (rA w b s (.mk 8 0 0 ⟨#[]⟩ (dL s (rdV s f) (r0.mu s+1) true r0 []).1 [] [],(dL s (rdV s f) (r0.mu s+1) true r0 []).2.expect s ⟨#[93]⟩)):=by
 obtain⟨ti,hi,hz0,hz1,hz2⟩:=info_parts lE;have HTB:=hid hTB;have hmx:=aMe s r0;obtain⟨Q,hQ⟩:=ez (dL s (rdV s f) (r0.mu s+1) true r0 [])
 rw[<-hQ];have HQ:=hid hQ;clear hQ;have hst1:=aAw (w.alloc valZ) #[I6 0,I6 0,I6 0,.string ⟨#[]⟩,.slice none 0 0,.slice none 0 0] rfl (I6 8) (I6 0) (I6 0) (.string ⟨#[]⟩) (.slice none 0 0) (.slice none 0 0) gm;simp only[World.size_alloc] at hst1;have HR0:=hid h;have HI0:=hid hI;have hbl:=h.lt;clear h hI hTB;go_enter Tryz.func236,Tryz.ntmps236
 go_wp2;clear hst1;obtain⟨N,hN⟩:=ez w.heap.size
 have HNB:=hid (show N≠b/\N+1≠b by omega);have hbN:b<N:=by omega
 rw[<-hN];have HNN:=hid hN;clear hN
 go_loopw [6] (fun fv wr=>∃first:Bool,fv=.bool first/\ListRel w b N s f r0 first wr) (fun _ wr=>muW wr b s)
 case atStart =>
  refine⟨true,rfl,r0,[],[],.slice none 0 0,r0.mu s+1,(HR0.out.alloc _).alloc _,HI0.out,rfl,fun _=>rfl,rfl,Nat.lt_succ_self _,by simp,?_,?_,BuiltV.nil _ _ _ _,(World.grownBy_alloc _ _ _).trans (World.grownBy_alloc _ _ _)⟩
  ·rw[HNN.out];exact aD _ (heap_alloc_new w _)
  ·rw[HNN.out,<-World.size_alloc w valZ];exact heap_alloc_new (w.alloc valZ) _
 case round =>
  obtain⟨first,rfl,r,acc,accd,v,F,hr,hI,hlen,hac,heq,hF,hmu,hn0,hn1,hbu,hg⟩:=hrel;have HR:=hid hr;have HI:=hid hI;have HAC:=hid hac;have HLN:=hid hlen;have hak:accd.length<=200010:=by rw[hlen];omega
  have HEQ:=hid heq;have HN0:=hid hn0;have HN1:=hid hn1;have HG:=hid hg;have HTBr:=hid (HTB.out.grown hg (.inr rfl));have HMW:=hid (aBd hr);have HIS:=hid (tE b s r ⟨#[93]⟩ wr hr);have qe10:Ce wr b 10 (I6 r.e):=aA hr.at_ 10;obtain⟨F,rfl⟩:∃F',F=F'+1:=⟨F-1,by omega⟩
  obtain⟨q,hq⟩:=ez (r.is ⟨#[93]⟩:Bool)
  rw[<-hq] at HIS;have HQq:=hid hq;clear hlen hac heq hn0 hn1 hg hr hI hq;by_cases he:r.e=0
  ·have HE:=hid he;have qe:(r.e==0)=true:=by simp[he]
   clear he;cases q
   ·have hnd:¬ (r.e≠0\/r.is ⟨#[93]⟩=true):=by rw[<-HQq.out];simp[HE.out]
    have HEQ2:=hid (show Q=dL s (rdV s f) F false (rdV s f (if first=true then r else r.expect s ⟨#[44]⟩)).2 (acc++[(rdV s f (if first=true then r else r.expect s ⟨#[44]⟩)).1]) by
     rw[HQ.out,HEQ.out,dL,if_neg hnd])
    have HRND:=hid (vA (aBa s f) HI.out HE.out first ⟨#[44]⟩);have HEXI:=hid (gT HI.out ⟨#[44]⟩);have HEXC:=hid (dX b s r ⟨#[44]⟩ wr HR.out hs HTBr.out);obtain⟨r2,hr2⟩:=ez ((if first=true then r else r.expect s ⟨#[44]⟩))
    rw[<-hr2] at HEQ2 HRND;have HR2:=hid hr2;clear hr2 hnd
    go_upto_if 19 with (go_at_call 293;refine HIS.out.mono ?_;rintro e w2 ⟨rfl,hw2⟩;obtain rfl:=hw2.symm)
    go_cut [] (fun wz=>IsRd wz b s r2/\RdI s r2/\wr.grownBy wz (some b))
    case first =>
     cases first
     ·have h2:r2=r.expect s ⟨#[44]⟩:=HR2.out;go_wp2_with (go_at_call 294;refine HEXC.out.mono ?_;rintro e w2 ⟨rfl,h2,hg2⟩;have H2R:=hid h2;have HG2:=hid hg2;clear h2 hg2)
      go_meet
      have h2:r2=r.expect s ⟨#[44]⟩:=HR2.out;rw[h2];exact⟨H2R.out,HEXI.out,HG2.out⟩
     ·go_wp2
      go_meet
      have h2:r2=r:=HR2.out;rw[h2];exact⟨HR.out,HI.out,⟨rfl,rfl,rfl,Nat.le_refl _,fun _ _ _=>rfl⟩⟩
    case rest =>
     obtain⟨hr2z,hI2,hg2⟩:=hcut;obtain⟨wb,hwb⟩:=ez wc
     rw[<-hwb] at hr2z hg2 ⊢;clear hwb;obtain⟨k,hk⟩:=ez accd.length
     have hbu2:=hbu.grownB hg2 (show b<N+2 by omega);have hbu3:BuiltV 36 (N+2) wb.drew v k accd:=hk▸hbu2.ext (Below.refl _ _).drew;have HP0:=hid (aV hg2 HN0.out HNB.out.1);have p1:wb.drew.heap[N+1]?=some (.cells #[I6 8,I6 0,I6 0,.string ⟨#[]⟩,v,.slice none 0 0] 36):=(aV hg2 HN1.out HNB.out.2:wb.heap[N+1]?=some (.cells #[I6 8,I6 0,I6 0,.string ⟨#[]⟩,v,.slice none 0 0] 36))
     have P1:Hid (wb.drew.heap[N+1]?=some (.cells #[I6 8,I6 0,I6 0,.string ⟨#[]⟩,v,.slice none 0 0] 36)):=hid p1;have P2:Hid (IsRd wb.drew b s r2):=hid (hr2z.grown (row:=none) ⟨rfl,rfl,rfl,Nat.le_refl _,fun _ _ _=>rfl⟩ gd);have HGZ:=hid hg2;have HTBz:=hid ((HTBr.out.grown hg2 (.inr rfl)).grown (row:=none) ⟨rfl,rfl,rfl,Nat.le_refl _,fun _ _ _=>rfl⟩ (.inl rfl):TB wb.drew b);have HI2:=hid hI2;have HIH:=hid (fun (h':IsRd wb.drew b s r2)=>IH b s r2 (dep+1) wb.drew h' HI2.out hs HTBz.out ga);have hNz:N+1<wb.heap.size:=by have:=ltOf P1.out;simpa using this
     have HC:=hid (fun (w':World) (h:w'.heap[N+1]?=some (.cells #[I6 8,I6 0,I6 0,.string ⟨#[]⟩,v,.slice none 0 0] 36))=>(show w'.cell? ⟨N+1,4,none⟩=some v from aA h 4));obtain⟨cs,hcs,hown,hel⟩:=hbu3;have hvb:=BuiltV.own ⟨cs,hcs,hown,hel⟩;have HCS:=hid hcs;have hkb:k+1<=200010:=by rw[hk,HLN.out];have:=Rd.mu_pos (s:=s) HE.out;omega
     have hcap1:k+1<=maxLen:=by unfold maxLen;omega
     have hcap2:(k+1) * 88<=140737488355328:=by omega
     have hne3:some (N+1)≠v.ownBlock:=fun e=>by have:=(hvb _ e.symm).1;omega
     have HKP:=hid (show v.ownBlock=none\/v.ownBlock≠some b by
      cases hv:v.ownBlock with
      | none=>exact .inl rfl
      | some g=>right;intro e;have:=(hvb g hv).1;cases e;omega)
     have e1:IntKind.i64.wrap (dep+1)=dep+1:=IntWalk.i64_in _ ⟨by omega,by omega⟩;have HHEL:=hid hel;have HVB:=hid hvb;have HK:=hid hk;clear hr2z hI2 hg2 hbu hbu2 p1 hcs hel hk;go_upto_region 7 with (fail)
     refine aG 8 (fun w'=>w'.heap[N+1]?=some (.cells #[I6 8,I6 0,I6 0,.string ⟨#[]⟩,v,.slice none 0 0] 36)) ge ge ge gc (P1.out) (fun hS=>?_);simp only[zdm,zdn,zdp,zdq];refine tc 0 HC ?_;refine tc 1 HC ?_;refine tc 2 HC ?_;refine tc 3 HC ?_;refine tc 4 HC ?_;refine yr 5 fun K hK=>?_;go_simp;go_at_call 150;refine(HIH.out P2.out).mono ?_;rintro e w1 ⟨c1,d1,rfl,hv1,hd1,hr1,hg1⟩;have q1:=hid (aV hg1 P1.out HNB.out.2);have hs1:=hg1.size;simp only[World.size_drew] at hs1;refine hK.out _ _ (q1.out) (fun hS=>?_);clear hK K
     (try simp only[Act.put,pq])
     refine yr 6 fun K hK=>?_;go_simp;refine hK.out _ _ (aD _ q1.out) (fun hS=>?_);clear hK K
     (try simp only[Act.put,pq])
     refine yr 7 fun K hK=>?_;refine step_append_lies _ gh _ _ _ gh (N+2) 36 ti _ 6 88 Tryz.underlying33 hi hz0 hz1 hz2 rfl ga v k (cs.flatMap VC.cs) gh ((hown.kept hg1 HKP.out).alloc _) ⟨w1.heap.size,0,none⟩ 1 1 c1.cs gh gh (World.news_of_block (heap_alloc_new w1 _)) (by simp[VC.cs,Value.oneCell']) ga hcap1 hcap2 gj (w1.heap.size+1) gd ?_;intro gg cap w2 hown2 hgrow hat hlt2;have r1:=hid (aT hgrow (aD _ q1.out) hne3);refine hK.out _ _ (r1.out) (fun hS=>?_);clear hK K
     (try simp only[Act.put,pq])
     refine wpAnyH_done ge ?_ _
     (try dsimp only)
     have hc2:w2.cell? ⟨N+1,4,none⟩=some v:=aA r1.out 4;have hf2:w2.frozen? ⟨N+1,4,none⟩=false:=aC r1.out 4;have HWN:=hid (fun u=>(aE (o:=4) u r1.out));clear hS HC;have HOB:=hid (show some b≠v.ownBlock from fun e=>by
      rcases HKP.out with h | h
      ·rw[h] at e;cases e
      ·exact h e.symm)
     have HFIN:=hid (fun u:Value=>(show IsRd (w2.setCell ⟨N+1,4,none⟩ u) b s (rdV s f r2).2 from⟨cB _ _ (aT hgrow (aD _ hr1.at_) HOB.out) gi,hr1.ok⟩));have HF0:=hid (fun u:Value=>(show(w2.setCell ⟨N+1,4,none⟩ u).heap[N]?=some valZ from cB _ _ (aT hgrow (aD _ (aV hg1 (show wb.drew.heap[N]?=some valZ from HP0.out) HNB.out.1)) (fun e=>by have:=(HVB.out _ e.symm).1;omega)) gi))
     have HGW:=hid (show w.grownBy (w1.alloc (oV c1 36)) (some b) from((HG.out.trans HGZ.out).trans ((show wb.grownBy wb.drew (some b) from⟨rfl,rfl,rfl,Nat.le_refl _,fun _ _ _=>rfl⟩).trans hg1)).trans (World.grownBy_alloc _ _ _));have HGR:=hid hgrow;have HV1:=hid hv1;have HD1:=hid hd1;have HOWN2:=hid hown2;have HAT:=hid hat
     have HG1:=hid hg1;have hsz2:N+2<=w1.heap.size:=by have:=ltOf q1.out;omega
     clear hgrow hv1 hd1 hown2 hat hg1 hr1 hcap1 hcap2;go_wp2
     go_roundw
     case rel =>
      refine⟨false,rfl,(rdV s f r2).2,acc++[(rdV s f r2).1],accd++[d1],_,F,HFIN.out _,HRND.out.1,by rw[List.length_append,List.length_append,HLN.out];rfl,?_,HQ.out.symm.trans HEQ2.out,by have:=HRND.out.2;omega,?_,HF0.out _,HWN.out _,?_,?_⟩
      ·intro hx;rw[HD1.out hx,HAC.out HE.out]
      ·have:=HRND.out.2;rw[List.length_append];simp only[List.length_cons,List.length_nil];omega
      ·refine BuiltV.set ?_ _ _ gi;have hlk:(accd++[d1]).length=k+1:=by rw[List.length_append,HK.out];rfl
       rw[hlk];refine BuiltV.push (N:=wb.drew.heap.size) HCS.out (fun j hj hj'=>?_) ga ?_ (by simp only[World.size_drew];omega) (fun r e=>(HVB.out r e).2) HOWN2.out HGR.out HAT.out
       ·have hjk:j<accd.length:=by have:=HCS.out;have:=HK.out;omega
        rw[List.getElem_append_left hjk];exact(HHEL.out j hj hjk).same fun i hi=>⟨⟨hi.1,by have:=HG1.out.size;have:=hi.2.1;omega,hi.2.2⟩,HG1.out.block i hi.2.1 (by have:=hi.1;simp;omega)⟩
       ·have e2:(accd++[d1])[k]' ga=d1:=by
         simp only[HK.out];exact List.getElem_concat_length rfl gd
        rw[e2];exact HV1.out
      ·exact iB HGW.out (((Below.refl _ _).grown HGR.out (by simp;have:=HNN.out;omega) (fun r e=>by have:=(HVB.out r e).1;have:=HNN.out;omega)).setCell (by dsimp only;have:=HNN.out;omega) _)
     case measure =>
      rw[HMW.out,aBd (HFIN.out _)];exact HRND.out.2
   ·have HSP:=hid (show Q=(acc,r) by rw[HQ.out,HEQ.out,dL,if_pos (.inr HQq.out.symm)]);have HEX:=hid (dX b s r ⟨#[93]⟩ wr HR.out hs HTBr.out);have HB1:=hid (fun (w2:World) (hg:wr.grownBy w2 (some b))=>(show w2.heap[N]?=some valZ/\w2.heap[N+1]?=some (.cells #[I6 8,I6 0,I6 0,.string ⟨#[]⟩,v,.slice none 0 0] 36) from⟨aV hg HN0.out HNB.out.1,aV hg HN1.out HNB.out.2⟩));obtain⟨al,capl,rfl,hcl,hal,hvo⟩:=hbu.shape;have HBU:=hid hbu;clear hbu
    skip
    go_upto_region 9 with (first
     | (go_at_call 294;refine HEX.out.mono ?_;rintro e w2 ⟨rfl,h2,hg2⟩;have H2R:=hid h2;have HG2:=hid hg2;clear h2 hg2)
     | (go_at_call 293;refine HIS.out.mono ?_;rintro e w2 ⟨rfl,hw2⟩;obtain rfl:=hw2.symm))
    obtain⟨m0,m1⟩:=HB1.out w2 HG2.out;have hL1:=ld6 m1;have hS1:=st6 m0 rfl (I6 8) (I6 0) (I6 0) (.string ⟨#[]⟩) (.slice al accd.length capl) (.slice none 0 0) gm;have hL2:=ld6 (setRow_heap w2 N _ #[I6 8,I6 0,I6 0,.string ⟨#[]⟩,.slice al accd.length capl,.slice none 0 0] 36 (0,0) m0);clear m0 m1;go_wp2;refine bodyPost_ret (v:=.agg #[I6 8,I6 0,I6 0,.string ⟨#[]⟩,.slice al accd.length capl,.slice none 0 0]) (by simp[results,Tryz.results236,go_sem,hL2]) rfl ?_;have hbu2:=HBU.out.grownB HG2.out (show b<N+2 by omega)
    refine⟨⟨8,0,0,⟨#[]⟩,al,accd.length,capl,none,0,0⟩,.mk 8 0 0 ⟨#[]⟩ accd [] [],rfl,?_,?_,?_,?_⟩
    ·refine⟨⟨rfl,rfl,rfl,rfl,⟨by simp[I64],by simp[I64],by simp[I64],Nat.zero_le _,(show accd.length * 88<=140737488351232 by omega),(show 0 * 104<=140737488351232 by decide),hcl,Nat.le_refl _⟩,rfl,rfl,rfl⟩,?_,.inl rfl⟩;rcases hbu2.vals with h | ⟨g,o,h1,h2,h3⟩
     ·exact .inl h
     ·have hsame:∀i,N+2<=i/\i<w2.heap.size->(w.heap.size<=i/\i<(w2.setRow N #[I6 8,I6 0,I6 0,.string ⟨#[]⟩,.slice al accd.length capl,.slice none 0 0]).heap.size)/\(w2.setRow N #[I6 8,I6 0,I6 0,.string ⟨#[]⟩,.slice al accd.length capl,.slice none 0 0]).heap[i]?=w2.heap[i]?:=fun i hi=>⟨⟨by have:=HNN.out;omega,by rw[setRow_size];exact hi.2⟩,setRow_other w2 N i _ ga⟩
      exact .inr ⟨g,o,h1,(hsame g h2).1,IsVals.same hsame (hsame g h2).2 h3⟩
    ·intro he;have he2:=iR he;rw[HSP.out] at he2 ⊢;rw[HAC.out he2]
    ·rw[HSP.out];exact aH H2R.out HNB.out.1
    ·exact aK (HG.out.trans HG2.out) N _ (by have:=HNN.out;omega)
  ·have HE:=hid he;have qe:(r.e==0)=false:=by simp[he]
   have HSP:=hid (show Q=(acc,r) by rw[HQ.out,HEQ.out,dL,if_pos (.inl he)]);clear he;have HEX:=hid (dX b s r ⟨#[93]⟩ wr HR.out hs HTBr.out);have HB1:=hid (fun (w2:World) (hg:wr.grownBy w2 (some b))=>(show w2.heap[N]?=some valZ/\w2.heap[N+1]?=some (.cells #[I6 8,I6 0,I6 0,.string ⟨#[]⟩,v,.slice none 0 0] 36) from⟨aV hg HN0.out HNB.out.1,aV hg HN1.out HNB.out.2⟩));obtain⟨al,capl,rfl,hcl,hal,hvo⟩:=hbu.shape;have HBU:=hid hbu;clear hbu
   skip
   go_upto_region 9 with (first
    | (go_at_call 294;refine HEX.out.mono ?_;rintro e w2 ⟨rfl,h2,hg2⟩;have H2R:=hid h2;have HG2:=hid hg2;clear h2 hg2)
    | (go_at_call 293;refine HIS.out.mono ?_;rintro e w2 ⟨rfl,hw2⟩;obtain rfl:=hw2.symm))
   obtain⟨m0,m1⟩:=HB1.out w2 HG2.out;have hL1:=ld6 m1;have hS1:=st6 m0 rfl (I6 8) (I6 0) (I6 0) (.string ⟨#[]⟩) (.slice al accd.length capl) (.slice none 0 0) gm;have hL2:=ld6 (setRow_heap w2 N _ #[I6 8,I6 0,I6 0,.string ⟨#[]⟩,.slice al accd.length capl,.slice none 0 0] 36 (0,0) m0);clear m0 m1;go_wp2;refine bodyPost_ret (v:=.agg #[I6 8,I6 0,I6 0,.string ⟨#[]⟩,.slice al accd.length capl,.slice none 0 0]) (by simp[results,Tryz.results236,go_sem,hL2]) rfl ?_;have hbu2:=HBU.out.grownB HG2.out (show b<N+2 by omega)
   refine⟨⟨8,0,0,⟨#[]⟩,al,accd.length,capl,none,0,0⟩,.mk 8 0 0 ⟨#[]⟩ accd [] [],rfl,?_,?_,?_,?_⟩
   ·refine⟨⟨rfl,rfl,rfl,rfl,⟨by simp[I64],by simp[I64],by simp[I64],Nat.zero_le _,(show accd.length * 88<=140737488351232 by omega),(show 0 * 104<=140737488351232 by decide),hcl,Nat.le_refl _⟩,rfl,rfl,rfl⟩,?_,.inl rfl⟩;rcases hbu2.vals with h | ⟨g,o,h1,h2,h3⟩
    ·exact .inl h
    ·have hsame:∀i,N+2<=i/\i<w2.heap.size->(w.heap.size<=i/\i<(w2.setRow N #[I6 8,I6 0,I6 0,.string ⟨#[]⟩,.slice al accd.length capl,.slice none 0 0]).heap.size)/\(w2.setRow N #[I6 8,I6 0,I6 0,.string ⟨#[]⟩,.slice al accd.length capl,.slice none 0 0]).heap[i]?=w2.heap[i]?:=fun i hi=>⟨⟨by have:=HNN.out;omega,by rw[setRow_size];exact hi.2⟩,setRow_other w2 N i _ ga⟩
     exact .inr ⟨g,o,h1,(hsame g h2).1,IsVals.same hsame (hsame g h2).2 h3⟩
   ·intro he;have he2:=iR he;rw[HSP.out] at he2 ⊢;rw[HAC.out he2]
   ·rw[HSP.out];exact aH H2R.out HNB.out.1
   ·exact aK (HG.out.trans HG2.out) N _ (by have:=HNN.out;omega)
end
end
section
open Go Go.RowKit Go.Shelf
def rO (s:ByteArray) (f:Nat) (r r1:Rd):Val × Rd :=
 if r1.e≠0 then (dA,r1)
 else if r1.is ⟨#[40]⟩ then (if aL r.t=false then (dA,r1.fail r.p 12) else let q:=rdV s f (r1.adv s);(.mk 10 0 0 r.t [q.1] [] [],q.2.expect s ⟨#[41]⟩))
 else if r.t=⟨#[116,114,117,101]⟩ then (.mk 1 1 0 ⟨#[]⟩ [] [] [],r1)
 else if r.t=⟨#[102,97,108,115,101]⟩ then (.mk 1 0 0 ⟨#[]⟩ [] [] [],r1)
 else if r.t=⟨#[100,97,116,101]⟩ then let q:=r1.moment s gM;(.mk 6 q.1 0 ⟨#[]⟩ [] [] [],q.2)
 else if r.t=⟨#[116,105,109,101]⟩ then let q:=r1.moment s iV;(.mk 7 q.1 0 ⟨#[]⟩ [] [] [],q.2)
 else if r.t=⟨#[110,117,108,108]⟩/\f=7 then (dA,r1)
 else (dA,r1.fail r.p 13)
theorem dT {S:Nat->Prop} {w:World} (k v:Int) (hk:I64 k) (hv:I64 v):IsVal S w ⟨k,v,0,⟨#[]⟩,none,0,0,none,0,0⟩ (.mk k v 0 ⟨#[]⟩ [] [] []) :=
 ⟨⟨rfl,rfl,rfl,rfl,⟨hk,hv,by simp[I64],Nat.zero_le _,(show 0 * 88<=140737488351232 by decide),(show 0 * 104<=140737488351232 by decide),Nat.le_refl _,Nat.le_refl _⟩,rfl,rfl,rfl⟩,.inl rfl,.inl rfl⟩
theorem wO (a:ByteArray) (l:List UInt8):(a.toList==l)=decide (a=⟨l.toArray⟩):=by
 rw[ByteArray.toList_eq,Bool.eq_iff_iff,beq_iff_eq,decide_eq_true_eq];exact⟨fun h=>ByteArray.ext (Array.ext' h),fun h=>by rw[h]⟩
theorem uV (s:ByteArray) (r:Rd) (f:List UInt8->Int × Int) (h:∀l,I64 (f l).1):I64 (r.moment s f).1:=by
 unfold Rd.moment;dsimp only;split
 ·simp[I64]
 ·exact h _
theorem aA0 (y m d:Nat) : -719162<=(cY y m d).1/\(cY y m d).1<=2932896:=by
 by_cases h:(cY y m d).2=0
 ·exact aEs h
 ·unfold cY at h ⊢;split
  ·simp
  ·rename_i hn;rw[if_neg hn] at h;simp at h
theorem aNo (l:List UInt8):I64 (gM l).1:=by
 unfold gM;split
 ·rename_i y m d _;have:=aA0 y m d;unfold I64;omega
 ·simp[I64]
theorem numD_lt {k:Nat} {l:List UInt8} {v:Nat} {r:List UInt8} (h:gU k 0 l=some (v,r)):v<10 ^ k:=by have:=(qC k 0 l v r h).2;simpa using this
theorem frac_bd {r:List UInt8} {z:Nat} {rr:List UInt8} (h:zS r=some (z,rr)):z<=999:=by
 unfold zS at h;split at h
 ·split at h
  ·rename_i n r' hn;split at h
   ·cases h
   ·cases h
    have:=numD_lt hn;omega
  ·cases h
 ·cases h;omega
theorem aNn (l:List UInt8):I64 (iV l).1:=by
 cases h:bF [([],4),([45],2),([45],2),([84],2),([58],2),([58],2)] l with
 | none=>rw[aF6 h];simp[I64]
 | some q =>
   obtain⟨ns,r⟩:=q;obtain⟨hl,h9,_⟩:=qE _ _ _ _ gc h;obtain⟨y,m,d,hh,i,s6,rfl⟩:=aLv hl;rw[aF5 h];have h1:=h9 hh gd;have h2:=h9 i gd;have h3:=h9 s6 gd;have h4:=aA0 y m d;cases hf:zS r with
   | none=>simp[I64]
   | some p =>
     have h5:=frac_bd hf;dsimp only;split
     ·simp[I64]
     split
     ·simp[I64]
     ·unfold I64;dsimp only;omega
section
attribute [-go_sem] loadCellsFrom storeCells
attribute [local go_sem] aBr aBq aBp aBo aBn aBm aAt aAs
theorem aGr (f:Nat) (IH:aIs f) (b:Nat) (s:ByteArray) (tk r1:Rd) (dep:Int) (w:World) (h:IsRd w b s r1) (hI:RdI s r1) (htk:tk.Fit s) (hs:s.size<=100000) (hTB:TB w b) (hdep:dep+1+f=8) (hd0:0<=dep) :
 CP 238 #[.pointer (some ⟨b,0,none⟩),tokV tk,I6 dep] w (rA w b s (rO s f tk r1)):=by
 obtain⟨T,hT⟩:=ez w.heap.size
 obtain⟨N,hN⟩:=ez (w.heap.size+1)
 have hbl:=h.lt;obtain⟨Q,hQ⟩:=ez (rO s f tk r1)
 rw[<-hQ];have HQ:=hid hQ;obtain⟨w0,hw0⟩:=ez ((w.alloc (tokO tk)).alloc valZ)
 have hr0:IsRd w0 b s r1:=by rw[hw0];exact(h.alloc _).alloc _
 have hg0:w.grownBy w0 (some b):=by rw[hw0];exact(World.grownBy_alloc _ _ _).trans (World.grownBy_alloc _ _ _)
 have hz0:w0.heap[N]?=some valZ:=by rw[hw0,hN,<-World.size_alloc w (tokO tk)];exact heap_alloc_new (w.alloc (tokO tk)) _
 have ht0:w0.heap[T]?=some (tokO tk):=by rw[hw0,hT];exact aD _ (heap_alloc_new w _)
 have HR:=hid hr0;have HG:=hid hg0;have HNZ:=hid hz0;have HTZ:=hid ht0;have HNB:=hid (show N≠b/\T≠b/\w.heap.size<=N/\w.heap.size<=T/\b<N/\b<T/\N<w0.heap.size/\T≠N by have:=ltOf hz0;omega);have HTB:=hid (hTB.grown hg0 (.inr rfl));have HI:=hid hI;have HTT:=hid (show tk.t.size<=100000 by have:=htk.t;omega);have HT:=hid hT;have HN:=hid hN;have HW:=hid hw0;have HIS:=hid (tE b s r1 ⟨#[40]⟩ w0 hr0);have hce:Ce w0 b 10 (I6 r1.e):=aA hr0.at_ 10;have hct:Ce w0 T 2 (.string tk.t):=aA ht0 2;have hcp:Ce w0 T 1 (I6 (tk.p:Int)):=aA ht0 1;obtain⟨q,hq⟩:=ez (r1.is ⟨#[40]⟩:Bool)
 rw[<-hq] at HIS;have HQq:=hid hq
 -- a value is stored into the result and returned
 have HST:=hid (fun (w2:World) (x0 x1 x2 x3 x4 x5:Value) (h1:∀v∈[x0,x1,x2,x3,x4,x5],v.oneCell'=true) (hz:w2.heap[N]?=some valZ) =>
  (show(storeCells ⟨N,0,none⟩ [x0,x1,x2,x3,x4,x5] 0).run Tryz.prog w2=.ok () (w2.setRow N #[x0,x1,x2,x3,x4,x5])/\(loadCellsFrom ⟨N,0,none⟩ 0 6 #[]).run Tryz.prog (w2.setRow N #[x0,x1,x2,x3,x4,x5])=.ok #[x0,x1,x2,x3,x4,x5] (w2.setRow N #[x0,x1,x2,x3,x4,x5]) from
    ⟨st6 hz rfl x0 x1 x2 x3 x4 x5 h1,ld6 (setRow_heap w2 N _ #[x0,x1,x2,x3,x4,x5] 36 (0,0) hz)⟩))
 clear h hI htk hTB hQ hr0 hg0 hz0 ht0 hq hw0 hT hN;go_enter Tryz.func238,Tryz.ntmps238
 go_upto_region 1 with (fail)
 dsimp only[tokO,tokA] at HW;rw[<-HW.out];rw[show w.heap.size+1=N from HN.out.symm,show w.heap.size=T from HT.out.symm];by_cases he:r1.e=0
 ·have HE:=hid he;have qe:(r1.e==0)=true:=by simp[he]
  have qe':(r1.e != 0)=false:=by simp[he]
  clear he;cases q
  ·obtain⟨b1,hb1⟩:∃b1,(tk.t.toList==[116,114,117,101])=b1:=⟨_,rfl⟩
   obtain⟨b2,hb2⟩:∃b2,(tk.t.toList==[102,97,108,115,101])=b2:=⟨_,rfl⟩
   obtain⟨b3,hb3⟩:∃b3,(tk.t.toList==[100,97,116,101])=b3:=⟨_,rfl⟩
   obtain⟨b4,hb4⟩:∃b4,(tk.t.toList==[116,105,109,101])=b4:=⟨_,rfl⟩
   obtain⟨b5,hb5⟩:∃b5,(tk.t.toList==[110,117,108,108])=b5:=⟨_,rfl⟩
   have HB1:=hid ((wO tk.t [116,114,117,101]).symm.trans hb1);have HB2:=hid ((wO tk.t [102,97,108,115,101]).symm.trans hb2);have HB3_:=hid ((wO tk.t [100,97,116,101]).symm.trans hb3);have HB4:=hid ((wO tk.t [116,105,109,101]).symm.trans hb4);have HB5:=hid ((wO tk.t [110,117,108,108]).symm.trans hb5);cases b1
   ·cases b2
    ·cases b3
     ·cases b4
      ·by_cases hnl:b5=true/\dep=0
       ·obtain⟨rfl,hdz⟩:=hnl;have HF7:=hid (show f=7 by omega);have qd:(dep==0)=true:=by simp[hdz]
        clear hdz;go_upto_region 18 with (go_at_call 293;refine HIS.out.mono ?_;rintro e w2 ⟨rfl,hw2⟩;obtain rfl:=hw2.symm)
        obtain⟨hS1,hL2⟩:=HST.out w0 (I6 0) (I6 0) (I6 0) (.string ⟨#[]⟩) (.slice none 0 0) (.slice none 0 0) gm HNZ.out;go_wp2;refine bodyPost_ret (v:=.agg #[I6 0,I6 0,I6 0,.string ⟨#[]⟩,.slice none 0 0,.slice none 0 0]) (by simp[results,Tryz.results238,go_sem,hL2]) rfl ?_;have HSP:=hid (show Q=(dA,r1) by rw[HQ.out,rO,if_neg (by simp[HE.out]),if_neg (by rw[<-HQq.out];decide),if_neg (of_decide_eq_false HB1.out),if_neg (of_decide_eq_false HB2.out),if_neg (of_decide_eq_false HB3_.out),if_neg (of_decide_eq_false HB4.out),if_pos ⟨of_decide_eq_true HB5.out,HF7.out⟩])
        rw[HSP.out];exact⟨⟨0,0,0,⟨#[]⟩,none,0,0,none,0,0⟩,dA,rfl,dT 0 0 gn gn,fun _=>rfl,aH (HR.out) HNB.out.1,aK (HG.out) N _ HNB.out.2.2.1⟩
       ·have HNL:=hid (show ¬ (tk.t=⟨#[110,117,108,108]⟩/\f=7) from fun h=>hnl ⟨by rw[<-HB5.out];exact decide_eq_true h.1,by omega⟩);have HFL:=hid (bC b s r1 tk.p 13 w0 HR.out);have HSPF:=hid (show Q=(dA,r1.fail tk.p 13) by rw[HQ.out,rO,if_neg (by simp[HE.out]),if_neg (by rw[<-HQq.out];decide),if_neg (of_decide_eq_false HB1.out),if_neg (of_decide_eq_false HB2.out),if_neg (of_decide_eq_false HB3_.out),if_neg (of_decide_eq_false HB4.out),if_neg HNL.out]);cases b5
        ·go_upto_region 20 with (first
          | (go_at_call 293;refine HIS.out.mono ?_;rintro e w2 ⟨rfl,hw2⟩;obtain rfl:=hw2.symm)
          | (go_at_call 232;refine HFL.out.mono ?_;rintro e w2 ⟨rfl,h2,hg2⟩;have H2R:=hid h2;have HG2:=hid hg2;have HZ2:=hid (aV hg2 HNZ.out HNB.out.1);clear h2 hg2))
         obtain⟨hS1,hL2⟩:=HST.out w2 (I6 0) (I6 0) (I6 0) (.string ⟨#[]⟩) (.slice none 0 0) (.slice none 0 0) gm HZ2.out;go_wp2;refine bodyPost_ret (v:=.agg #[I6 0,I6 0,I6 0,.string ⟨#[]⟩,.slice none 0 0,.slice none 0 0]) (by simp[results,Tryz.results238,go_sem,hL2]) rfl ?_;have HSP:=hid (HSPF.out);rw[HSP.out];exact⟨⟨0,0,0,⟨#[]⟩,none,0,0,none,0,0⟩,dA,rfl,dT 0 0 gn gn,fun _=>rfl,aH (H2R.out) HNB.out.1,aK (HG.out.trans HG2.out) N _ HNB.out.2.2.1⟩
        ·have qd:(dep==0)=false:=by
          rw[beq_eq_false_iff_ne];intro e;exact hnl ⟨rfl,e⟩
         clear hnl;go_upto_region 20 with (first
          | (go_at_call 293;refine HIS.out.mono ?_;rintro e w2 ⟨rfl,hw2⟩;obtain rfl:=hw2.symm)
          | (go_at_call 232;refine HFL.out.mono ?_;rintro e w2 ⟨rfl,h2,hg2⟩;have H2R:=hid h2;have HG2:=hid hg2;have HZ2:=hid (aV hg2 HNZ.out HNB.out.1);clear h2 hg2))
         obtain⟨hS1,hL2⟩:=HST.out w2 (I6 0) (I6 0) (I6 0) (.string ⟨#[]⟩) (.slice none 0 0) (.slice none 0 0) gm HZ2.out;go_wp2;refine bodyPost_ret (v:=.agg #[I6 0,I6 0,I6 0,.string ⟨#[]⟩,.slice none 0 0,.slice none 0 0]) (by simp[results,Tryz.results238,go_sem,hL2]) rfl ?_;have HSP:=hid (HSPF.out);rw[HSP.out];exact⟨⟨0,0,0,⟨#[]⟩,none,0,0,none,0,0⟩,dA,rfl,dT 0 0 gn gn,fun _=>rfl,aH (H2R.out) HNB.out.1,aK (HG.out.trans HG2.out) N _ HNB.out.2.2.1⟩
      ·have HMO:=hid (aDh b s r1 w0 HR.out HI.out.fit hs HTB.out);obtain⟨m,hm⟩:=ez ((r1.moment s iV).1)
       obtain⟨rm,hrm⟩:=ez ((r1.moment s iV).2)
       rw[<-hm,<-hrm] at HMO;have HMM:=hid (show r1.moment s iV=(m,rm) by rw[hm,hrm]);have HMI:=hid (show I64 m by rw[hm];exact uV s r1 iV aNn);clear hm hrm;go_wp2_with (first
        | (go_at_call 293;refine HIS.out.mono ?_;rintro e w2 ⟨rfl,hw2⟩;obtain rfl:=hw2.symm)
        | (go_at_call 303;refine(aDk m w2).mono ?_;rintro e w3 ⟨rfl,hb3⟩;have HB3:=hid hb3;obtain⟨hS1,hL2⟩:=HST.out w3 (I6 7) (I6 m) (I6 0) (.string ⟨#[]⟩) (.slice none 0 0) (.slice none 0 0) gm (aB hb3 HZ2.out);clear hb3)
        | (go_at_call 301;refine HMO.out.mono ?_;rintro e w2 ⟨rfl,h2,hg2⟩;have H2R:=hid h2;have HG2:=hid hg2;have HZ2:=hid (aV hg2 HNZ.out HNB.out.1);clear h2 hg2))
       refine bodyPost_ret (v:=.agg #[I6 7,I6 m,I6 0,.string ⟨#[]⟩,.slice none 0 0,.slice none 0 0]) (by simp[results,Tryz.results238,go_sem,hL2]) rfl ?_;have HSP:=hid (show Q=(.mk 7 m 0 ⟨#[]⟩ [] [] [],rm) by rw[HQ.out,rO,if_neg (by simp[HE.out]),if_neg (by rw[<-HQq.out];decide),if_neg (of_decide_eq_false HB1.out),if_neg (of_decide_eq_false HB2.out),if_neg (of_decide_eq_false HB3_.out),if_pos (of_decide_eq_true HB4.out)];dsimp only;rw[HMM.out]);rw[HSP.out]
       exact⟨⟨7,m,0,⟨#[]⟩,none,0,0,none,0,0⟩,_,rfl,dT 7 m gn HMI.out,fun _=>rfl,aH (bK H2R.out HB3.out (by have:=ltOf H2R.out.at_;exact this)) HNB.out.1,aK ((HG.out.trans HG2.out).trans (aQ HB3.out (some b))) N _ HNB.out.2.2.1⟩
     ·have HMO:=hid (aDi b s r1 w0 HR.out HI.out.fit hs HTB.out);obtain⟨m,hm⟩:=ez ((r1.moment s gM).1)
      obtain⟨rm,hrm⟩:=ez ((r1.moment s gM).2)
      rw[<-hm,<-hrm] at HMO;have HMM:=hid (show r1.moment s gM=(m,rm) by rw[hm,hrm]);have HMI:=hid (show I64 m by rw[hm];exact uV s r1 gM aNo);clear hm hrm;go_wp2_with (first
       | (go_at_call 293;refine HIS.out.mono ?_;rintro e w2 ⟨rfl,hw2⟩;obtain rfl:=hw2.symm)
       | (go_at_call 300;refine(aDm m w2).mono ?_;rintro e w3 ⟨rfl,hb3⟩;have HB3:=hid hb3;obtain⟨hS1,hL2⟩:=HST.out w3 (I6 6) (I6 m) (I6 0) (.string ⟨#[]⟩) (.slice none 0 0) (.slice none 0 0) gm (aB hb3 HZ2.out);clear hb3)
       | (go_at_call 301;refine HMO.out.mono ?_;rintro e w2 ⟨rfl,h2,hg2⟩;have H2R:=hid h2;have HG2:=hid hg2;have HZ2:=hid (aV hg2 HNZ.out HNB.out.1);clear h2 hg2))
      refine bodyPost_ret (v:=.agg #[I6 6,I6 m,I6 0,.string ⟨#[]⟩,.slice none 0 0,.slice none 0 0]) (by simp[results,Tryz.results238,go_sem,hL2]) rfl ?_;have HSP:=hid (show Q=(.mk 6 m 0 ⟨#[]⟩ [] [] [],rm) by rw[HQ.out,rO,if_neg (by simp[HE.out]),if_neg (by rw[<-HQq.out];decide),if_neg (of_decide_eq_false HB1.out),if_neg (of_decide_eq_false HB2.out),if_pos (of_decide_eq_true HB3_.out)];dsimp only;rw[HMM.out]);rw[HSP.out]
      exact⟨⟨6,m,0,⟨#[]⟩,none,0,0,none,0,0⟩,_,rfl,dT 6 m gn HMI.out,fun _=>rfl,aH (bK H2R.out HB3.out (by have:=ltOf H2R.out.at_;exact this)) HNB.out.1,aK ((HG.out.trans HG2.out).trans (aQ HB3.out (some b))) N _ HNB.out.2.2.1⟩
    ·go_wp2_with (first
      | (go_at_call 293;refine HIS.out.mono ?_;rintro e w2 ⟨rfl,hw2⟩;obtain rfl:=hw2.symm)
      | (go_at_call 299;refine(aBf w0).mono ?_;rintro e w3 ⟨rfl,hb3⟩;have HB3:=hid hb3;obtain⟨hS1,hL2⟩:=HST.out w3 (I6 1) (I6 0) (I6 0) (.string ⟨#[]⟩) (.slice none 0 0) (.slice none 0 0) gm (aB hb3 HNZ.out);clear hb3))
     refine bodyPost_ret (v:=.agg #[I6 1,I6 0,I6 0,.string ⟨#[]⟩,.slice none 0 0,.slice none 0 0]) (by simp[results,Tryz.results238,go_sem,hL2]) rfl ?_;have HSP:=hid (show Q=(.mk 1 0 0 ⟨#[]⟩ [] [] [],r1) by rw[HQ.out,rO,if_neg (by simp[HE.out]),if_neg (by rw[<-HQq.out];decide),if_neg (of_decide_eq_false HB1.out),if_pos (of_decide_eq_true HB2.out)]);rw[HSP.out];exact⟨⟨1,0,0,⟨#[]⟩,none,0,0,none,0,0⟩,_,rfl,dT 1 0 gn gn,fun _=>rfl,aH (bK HR.out HB3.out (by have:=HNB.out;omega)) HNB.out.1,aK (HG.out.trans (aQ HB3.out (some b))) N _ HNB.out.2.2.1⟩
   ·go_wp2_with (first
     | (go_at_call 293;refine HIS.out.mono ?_;rintro e w2 ⟨rfl,hw2⟩;obtain rfl:=hw2.symm)
     | (go_at_call 299;refine(aDj w0).mono ?_;rintro e w3 ⟨rfl,hb3⟩;have HB3:=hid hb3;obtain⟨hS1,hL2⟩:=HST.out w3 (I6 1) (I6 1) (I6 0) (.string ⟨#[]⟩) (.slice none 0 0) (.slice none 0 0) gm (aB hb3 HNZ.out);clear hb3))
    refine bodyPost_ret (v:=.agg #[I6 1,I6 1,I6 0,.string ⟨#[]⟩,.slice none 0 0,.slice none 0 0]) (by simp[results,Tryz.results238,go_sem,hL2]) rfl ?_;have HSP:=hid (show Q=(.mk 1 1 0 ⟨#[]⟩ [] [] [],r1) by rw[HQ.out,rO,if_neg (by simp[HE.out]),if_neg (by rw[<-HQq.out];decide),if_pos (of_decide_eq_true HB1.out)]);rw[HSP.out];exact⟨⟨1,1,0,⟨#[]⟩,none,0,0,none,0,0⟩,_,rfl,dT 1 1 gn gn,fun _=>rfl,aH (bK HR.out HB3.out (by have:=HNB.out;omega)) HNB.out.1,aK (HG.out.trans (aQ HB3.out (some b))) N _ HNB.out.2.2.1⟩
  ·have HQT:=hid HQq.out.symm;obtain⟨nb,hnb⟩:=ez (aL tk.t)
   have HIN:=hid (fun w'=>fZ tk.t w' (by have:=HTT.out;omega));rw[<-hnb] at HIN;have HNBm:=hid hnb;clear hnb;cases nb
   ·have HFL:=hid (fun (w':World) (h':IsRd w' b s r1)=>bC b s r1 tk.p 12 w' h');have HSPF:=hid (show Q=(dA,r1.fail tk.p 12) by rw[HQ.out,rO,if_neg (by simp[HE.out]),if_pos HQT.out,if_pos HNBm.out.symm]);go_upto_region 5 with (first
     | (go_at_call 293;refine HIS.out.mono ?_;rintro e w2 ⟨rfl,hw2⟩;obtain rfl:=hw2.symm)
     | (go_at_call 204;refine(HIN.out _).mono ?_;rintro e w2 ⟨rfl,hb2⟩;have HB2:=hid hb2;clear hb2))
    have HR2:=hid (bK HR.out HB2.out (by have:=HNB.out;omega));have HG2:=hid (HG.out.trans (aQ HB2.out (some b)));have HZ2:=hid (aB HB2.out HNZ.out);have hcp2:Ce w2 T 1 (I6 (tk.p:Int)):=aA (aB HB2.out HTZ.out) 1;go_upto_region 6 with (go_at_call 232;refine(HFL.out w2 HR2.out).mono ?_;rintro e w3 ⟨rfl,h3,hg3⟩;have H3R:=hid h3;have HG3:=hid hg3;have HZ3:=hid (aV hg3 HZ2.out HNB.out.1);clear h3 hg3)
    obtain⟨hS1,hL2⟩:=HST.out w3 (I6 0) (I6 0) (I6 0) (.string ⟨#[]⟩) (.slice none 0 0) (.slice none 0 0) gm HZ3.out;go_wp2;refine bodyPost_ret (v:=.agg #[I6 0,I6 0,I6 0,.string ⟨#[]⟩,.slice none 0 0,.slice none 0 0]) (by simp[results,Tryz.results238,go_sem,hL2]) rfl ?_;have HSP:=hid (HSPF.out);rw[HSP.out];exact⟨⟨0,0,0,⟨#[]⟩,none,0,0,none,0,0⟩,dA,rfl,dT 0 0 gn gn,fun _=>rfl,aH (H3R.out) HNB.out.1,aK (HG2.out.trans HG3.out) N _ HNB.out.2.2.1⟩
   ·obtain⟨ra,hra⟩:=ez (r1.adv s)
    obtain⟨q2,hq2⟩:=ez (rdV s f ra)
    have HSP:=hid (show Q=(.mk 10 0 0 tk.t [q2.1] [] [],q2.2.expect s ⟨#[41]⟩) by rw[HQ.out,rO,if_neg (by simp[HE.out]),if_pos HQT.out,if_neg (by rw[<-HNBm.out];decide),hq2,hra]);have HAI:=hid (show RdI s ra by rw[hra];exact lU HI.out);have HVI:=hid (show RdI s q2.2 by rw[hq2];exact(aBa s f ra HAI.out).1);have HIH:=hid (fun (w':World) (h1:IsRd w' b s ra) (h2:TB w' b)=>(show CP 150 #[.pointer (some ⟨b,0,none⟩),I6 (dep+1)] w' (rA w' b s q2) from hq2▸IH b s ra (dep+1) w' h1 HAI.out hs h2 ga));have HEX:=hid (fun (w':World) (h1:IsRd w' b s q2.2) (h2:TB w' b)=>dX b s q2.2 ⟨#[41]⟩ w' h1 hs h2)
    have e1:IntKind.i64.wrap (dep+1)=dep+1:=IntWalk.i64_in _ ⟨by omega,by omega⟩;clear hq2;go_upto_region 7 with (first
     | (go_at_call 293;refine HIS.out.mono ?_;rintro e w2 ⟨rfl,hw2⟩;obtain rfl:=hw2.symm)
     | (go_at_call 204;refine(HIN.out _).mono ?_;rintro e w2 ⟨rfl,hb2⟩;have HB2:=hid hb2;clear hb2))
    have HR2:=hid (bK HR.out HB2.out (by have:=HNB.out;omega));have HG2:=hid (HG.out.trans (aQ HB2.out (some b)));have HTB2:=hid (HTB.out.below HB2.out);have HZ2:=hid (aB HB2.out HNZ.out);have HT2:=hid (aB HB2.out HTZ.out);have HAD:=hid (nP b s r1 w2 HR2.out hs HTB2.out);rw[<-hra] at HAD;clear hra;go_upto_region 8 with (go_at_call 233;refine HAD.out.mono ?_;rintro e w3 ⟨rfl,h3,hg3⟩;have H3R:=hid h3;have HG3:=hid (HG2.out.trans hg3);have HZ3:=hid (aV hg3 HZ2.out HNB.out.1);have HT3:=hid (aV hg3 HT2.out HNB.out.2.1);have HTB3:=hid (HTB2.out.grown hg3 (.inr rfl));clear h3 hg3)
    have HSN:=hid (fun (w4:World) (c1:VC)=>aAw w4 #[I6 0,I6 0,I6 0,.string ⟨#[]⟩,.slice none 0 0,.slice none 0 0] rfl (I6 c1.k) (I6 c1.i) (I6 c1.s) (.string c1.t) (.slice c1.la c1.ll c1.lc) (.slice c1.fa c1.fl c1.fc) gm)
    go_upto_region 9 with (go_at_call 150;refine(HIH.out w3 H3R.out HTB3.out).mono ?_;rintro e w4 ⟨c1,d1,rfl,hv4,hd4,hr4,hg4⟩;have H4R:=hid hr4;have HV4:=hid hv4;have HD4:=hid hd4;have HG4:=hid (HG3.out.trans hg4);have HZ4:=hid (aV hg4 HZ3.out HNB.out.1);have HT4:=hid (aV hg4 HT3.out HNB.out.2.1);have HTB4:=hid (HTB3.out.grown hg4 (.inr rfl));have HS4:=hid hg4.size;have hsn:=HSN.out w4 c1;clear hv4 hd4 hr4 hg4)
    clear hsn;obtain⟨M,hM⟩:=ez w4.heap.size
    obtain⟨w5,hw5⟩:=ez (w4.alloc (vObj c1))
    have HR5:=hid (show IsRd w5 b s q2.2 by rw[hw5];exact H4R.out.alloc _);have HG5:=hid (show w.grownBy w5 (some b) by rw[hw5];exact HG4.out.trans (World.grownBy_alloc _ _ _));have HZ5:=hid (show w5.heap[N]?=some valZ by rw[hw5];exact aD _ HZ4.out);have HT5:=hid (show w5.heap[T]?=some (tokO tk) by rw[hw5];exact aD _ HT4.out);have HM5:=hid (show w5.heap[M]?=some (vObj c1) by rw[hw5,hM];exact heap_alloc_new w4 _);have HTB5:=hid (show TB w5 b by rw[hw5];exact HTB4.out.grown (World.grownBy_alloc w4 (vObj c1) none) (.inl rfl))
    have HV5:=hid (show IsVal (fun i=>w3.heap.size<=i/\i<w4.heap.size) w5 c1 d1 by rw[hw5];exact HV4.out.same fun i hi=>⟨hi,Below.heap_alloc _ _ _ hi.2⟩);have HS5:=hid (show w4.heap.size<w5.heap.size/\M≠b/\b<w3.heap.size by
     refine⟨by rw[hw5,World.size_alloc];exact Nat.lt_succ_self _,?_,H3R.out.lt⟩;have:=H4R.out.lt;omega)
    dsimp only[vObj] at hw5;rw[<-hw5,<-hM];have HMm:=hid hM;clear hw5 hM;go_upto_region 10 with (go_at_call 294;refine(HEX.out w5 HR5.out HTB5.out).mono ?_;rintro e w6 ⟨rfl,h6,hg6⟩;have H6R:=hid h6;have HG6:=hid hg6;clear h6 hg6)
    have HZ6:=hid (aV HG6.out HZ5.out HNB.out.1);have hct6:Ce w6 T 2 (.string tk.t):=aA (aV HG6.out HT5.out HNB.out.2.1) 2;have hl6:=ld6 (aV HG6.out HM5.out HS5.out.2.1);have hv6:IsVal (· < w6.heap.size) w6 c1 d1:=HV5.out.same fun i hi=>⟨by have:=HG6.out.size;have:=HS5.out.1;omega,HG6.out.block i (by have:=HS5.out.1;omega) (by have:=hi.1;have:=HS5.out.2.2;simp;omega)⟩
    have HMV:=hid (uW tk.t (by have:=HTT.out;omega) c1 d1 w6 hv6);clear hv6;dsimp only[VC.v] at HMV;go_wp2_with (go_at_call 298;refine HMV.out.mono ?_;rintro e w7 ⟨⟨c2,rfl,hv7⟩,hb7⟩;have HV7:=hid hv7;have HB7:=hid hb7;obtain⟨hS1,hL2⟩:=HST.out w7 (I6 c2.k) (I6 c2.i) (I6 c2.s) (.string c2.t) (.slice c2.la c2.ll c2.lc) (.slice c2.fa c2.fl c2.fc) gm (aB hb7 HZ6.out);clear hv7 hb7)
    refine bodyPost_ret (v:=c2.v) (by simp[results,Tryz.results238,go_sem,hL2]) rfl ?_;rw[HSP.out];refine⟨c2,.mk 10 0 0 tk.t [d1] [] [],rfl,?_,?_,aH (bK H6R.out HB7.out H6R.out.lt) HNB.out.1,aK ((HG5.out.trans HG6.out).trans (aQ HB7.out (some b))) N _ HNB.out.2.2.1⟩
    ·have hss:=HG6.out.size;have hs5:=HS5.out.1;have hs4:=HS4.out;have hg3s:=HG3.out.size;have hnn:=ltOf HZ6.out;exact HV7.out.same fun i hi=>⟨⟨by omega,by rw[setRow_size];exact hi.2⟩,setRow_other w7 N i _ ga⟩
    ·intro hx;rw[HD4.out (iR hx)]
 ·have qe:(r1.e==0)=false:=by simp[he]
  have qe':(r1.e != 0)=true:=by simp[he]
  have HE:=hid he;clear he;obtain⟨hS1,hL2⟩:=HST.out w0 (I6 0) (I6 0) (I6 0) (.string ⟨#[]⟩) (.slice none 0 0) (.slice none 0 0) gm HNZ.out;go_wp2;refine bodyPost_ret (v:=.agg #[I6 0,I6 0,I6 0,.string ⟨#[]⟩,.slice none 0 0,.slice none 0 0]) (by simp[results,Tryz.results238,go_sem,hL2]) rfl ?_;have HSP:=hid (show Q=(dA,r1) by rw[HQ.out,rO,if_pos HE.out]);rw[HSP.out];exact⟨⟨0,0,0,⟨#[]⟩,none,0,0,none,0,0⟩,dA,rfl,dT 0 0 gn gn,fun _=>rfl,aH (HR.out) HNB.out.1,aK (HG.out) N _ HNB.out.2.2.1⟩
end
end
end Go.Proofs.YtmgpghoamapfgaaGreatDoor
