/- A part. -/
import Derived.Test.YtaofolgaiipcjaaGreatDoorSD21Mrg
import Derived.Test.YtaofolgaiipcjaaGreatDoorSD22Mrg
namespace Go.Proofs.YtaofolgaiipcjaaGreatDoor
set_option linter.unusedVariables false
set_option maxRecDepth 100000
set_option maxHeartbeats 16000000
set_option linter.unusedSimpArgs false
section
open Go Go.RowKit Go.Shelf
attribute [local go_sem] kI mN kJ kT jU kB
theorem jFb (w:World) (r:Rd):(loadCellsFrom ⟨w.heap.size,0,none⟩ 0 8 #[]).run Tryz.prog (w.alloc (tokO r))=.ok (tokA r) (w.alloc (tokO r)) :=
 run_loadCellsFrom_new w 274 (tokA r) 8 rfl
section
attribute [-go_sem] loadCellsFrom storeCells
attribute [local go_sem] lcf0 lcf1 lcf2 lcf3 lcf4 lcf5 lcf6 lcf7 stc0 stc1
theorem jLs (b:Nat) (s:ByteArray) (r:Rd) (w:World) (h:IsRd w b s r) (hf:r.Fit s) (hs:s.size≤100000) (hTB:TB w b) :
 Calls Tryz.prog 318 #[.pointer (some ⟨b,0,none⟩)] w fun x w'=>x=.returned (.string (qM r 1).t)∧IsRd w' b s (r.name s)∧w.grownBy w' (some b):=by
 have HT:=hid (jAs b s r 1 w h hs hTB);obtain⟨tk,htk⟩:∃tk,tk=qM r 1:=⟨_,rfl⟩
 obtain⟨r1,hr1⟩:∃r1,r1=r.take s 1:=⟨_,rfl⟩
 rw[←htk,←hr1] at HT;rw[←htk];have HTK:=hid htk;have HR1:=hid hr1;have htt:tk.t.size≤100000:=by
  rw[htk];unfold qM;split
  ·have:=hf.t;omega
  ·exact Nat.zero_le _
 clear htk hr1;have HSN:=hid (fun w2=>uY w2 #[.int .i64 0,.int .i64 0,.string ⟨#[]⟩,.string ⟨#[]⟩,.int .i64 0,.int .i64 0,.bool false,.bool false] rfl tk);have HPC:=hid (fun (w2:World) (h2:IsRd w2 b s r1)=>(jA h2.at_ 10:w2.cell? ⟨b,10,none⟩=some (.int .i64 r1.e)));have HIN:=hid (fun w'=>mV tk.t w' (by omega));by_cases he:r1.e=0
 ·have HE:=hid he;have hk:r.e=0∧r.k=1:=by
   have h1:=HR1.out;unfold Rd.take at h1;split at h1
   ·rename_i hx;rw[h1] at he;exact absurd he hx
   split at h1
   ·rename_i hx hy;rw[h1] at he;exact absurd he (Rd.fail_e _ _ _ (by decide))
   ·rename_i hx hy;exact⟨Decidable.not_not.1 hx,Decidable.not_not.1 hy⟩
  have HTE:=hid (show tk=r by rw[HTK.out,qM,if_pos hk]);have qe:(r1.e==0)=true:=by simp[he]
  have qe':(r1.e != 0)=false:=by simp[he]
  obtain⟨q,hq⟩:∃q,q=jN tk.t:=⟨_,rfl⟩
  rw[←hq] at HIN;have HM:=hid (show r.name s=if q=false then r1.fail r.p 12 else r1 by
   unfold Rd.name;dsimp only;rw[←HR1.out,hq,HTE.out];simp only[HE.out,true_and])
  clear hq he hk;cases q
  ·have HM2:=hid (show r.name s=r1.fail r.p 12 from HM.out.trans (by first | exact if_pos rfl | exact if_pos trivial));have HFL:=hid (fun (w':World) (h':IsRd w' b s r1)=>jP b s r1 tk.p 12 w' h');go_enter Tryz.func318,Tryz.ntmps318
   go_upto_region 3 with (first
    | (go_at_call 236;refine(HIN.out _).mono ?_;rintro e w3 ⟨rfl,hb3⟩;have HB3:=hid hb3;clear hb3)
    | (go_at_call 346;refine HT.out.mono ?_;rintro e w2 ⟨rfl,h2,hg2⟩;have H2R:=hid h2;have HG2:=hid hg2;have hpc:=HPC.out w2 h2;have hsn:=HSN.out w2;have hbl:=h2.lt;clear h2 hg2))
   have hbb:=World.grownBy_alloc w2 (tokO tk) (some b);have HR3:=hid (jV (H2R.out.alloc (tokO tk)) HB3.out (by rw[World.size_alloc];omega));have HG3:=hid (HG2.out.trans (hbb.trans (jJ HB3.out (some b))));have hT3:w3.heap[w2.heap.size]?=some (tokO tk):=jB HB3.out (heap_alloc_new w2 _);have hcp:w3.cell? ⟨w2.heap.size,1,none⟩=some (.int .i64 (tk.p:Int)):=jA hT3 1;have HTL:=hid (show w2.heap.size<w3.heap.size∧w2.heap.size≠b∧w3.heap[w2.heap.size]?=some (tokO tk) from⟨ltOf hT3,by omega,hT3⟩);clear hbb hT3
   go_wp2_with (go_at_call 274;refine(HFL.out w3 HR3.out).mono ?_;rintro e w4 ⟨rfl,h4,hg4⟩;have H4R:=hid h4;have HG4:=hid hg4;have hct:=(jA ((hg4.block w2.heap.size HTL.out.1 (by simp[HTL.out.2.1])).trans HTL.out.2.2) 2:w4.cell? ⟨w2.heap.size,2,none⟩=some (.string tk.t));clear h4 hg4)
   go_ret;rw[HM2.out,←HTE.out];exact⟨rfl,H4R.out,HG3.out.trans HG4.out⟩
  ·go_enter Tryz.func318,Tryz.ntmps318
   go_upto_region 4 with (first
    | (go_at_call 236;refine(HIN.out _).mono ?_;rintro e w3 ⟨rfl,hb3⟩;have HB3:=hid hb3;clear hb3)
    | (go_at_call 346;refine HT.out.mono ?_;rintro e w2 ⟨rfl,h2,hg2⟩;have H2R:=hid h2;have HG2:=hid hg2;have hpc:=HPC.out w2 h2;have hsn:=HSN.out w2;have hbl:=h2.lt;clear h2 hg2))
   have hbb:=World.grownBy_alloc w2 (tokO tk) (some b);have HR3:=hid (jV (H2R.out.alloc (tokO tk)) HB3.out (by rw[World.size_alloc];omega));have HG3:=hid (HG2.out.trans (hbb.trans (jJ HB3.out (some b))));have hT3:w3.heap[w2.heap.size]?=some (tokO tk):=jB HB3.out (heap_alloc_new w2 _);have hct:w3.cell? ⟨w2.heap.size,2,none⟩=some (.string tk.t):=jA hT3 2;clear hbb hT3;go_wp2;go_ret;rw[HM.out,if_neg (by decide)];exact⟨rfl,HR3.out,HG3.out⟩
 ·have HE:=hid he;have qe:(r1.e==0)=false:=by simp[he]
  have qe':(r1.e != 0)=true:=by simp[he]
  clear he;go_enter Tryz.func318,Tryz.ntmps318
  go_wp2_with (go_at_call 346;refine HT.out.mono ?_;rintro e w2 ⟨rfl,h2,hg2⟩;have H2R:=hid h2;have HG2:=hid hg2;have hpc:=HPC.out w2 h2;have hsn:=HSN.out w2;have hbl:=h2.lt;clear h2 hg2)
  go_ret;have HM:r.name s=r1:=by
   unfold Rd.name;dsimp only;rw[←HR1.out,if_neg (fun h=>HE.out h.1)]
  rw[HM];exact⟨rfl,H2R.out.alloc _,HG2.out.trans (World.grownBy_alloc _ _ _)⟩
theorem jGv (b:Nat) (s:ByteArray) (r:Rd) (w:World) (h:IsRd w b s r) (hf:r.Fit s) (hs:s.size≤100000) (hTB:TB w b) :
 Calls Tryz.prog 324 #[.pointer (some ⟨b,0,none⟩),.func (.func 325) #[] #[]] w fun x w'=>x=.returned (.int .i64 (r.moment s calP).1)∧IsRd w' b s (r.moment s calP).2∧w.grownBy w' (some b):=by
 have HT:=hid (jAs b s r 3 w h hs hTB);obtain⟨tk,htk⟩:∃tk,tk=qM r 3:=⟨_,rfl⟩
 obtain⟨r1,hr1⟩:∃r1,r1=r.take s 3:=⟨_,rfl⟩
 rw[←htk,←hr1] at HT;have HTK:=hid htk;have HR1:=hid hr1;have HLT:=hid h.lt;have htb:tk.b.size≤400000:=by
  rw[htk];unfold qM;split
  ·have:=hf.b;omega
  ·exact Nat.zero_le _
 clear htk hr1;have HLN:=hid (fun w2=>jFb w2 tk);have HSN:=hid (fun w2=>uY w2 #[.int .i64 0,.int .i64 0,.string ⟨#[]⟩,.string ⟨#[]⟩,.int .i64 0,.int .i64 0,.bool false,.bool false] rfl tk);have HPC:=hid (fun (w2:World) (h2:IsRd w2 b s r1)=>(jA h2.at_ 10:w2.cell? ⟨b,10,none⟩=some (.int .i64 r1.e)));by_cases he:r1.e=0
 ·have HE:=hid he;have hk:r.e=0∧r.k=3:=by
   have h1:=HR1.out;unfold Rd.take at h1;split at h1
   ·rename_i hx;rw[h1] at he;exact absurd he hx
   split at h1
   ·rename_i hx hy;rw[h1] at he;exact absurd he (Rd.fail_e _ _ _ (by decide))
   ·rename_i hx hy;exact⟨Decidable.not_not.1 hx,Decidable.not_not.1 hy⟩
  have HTE:=hid (show tk=r by rw[HTK.out,qM,if_pos hk]);have qe:(r1.e==0)=true:=by simp[he]
  have qe':(r1.e != 0)=false:=by simp[he]
  have HCAL:=hid (fun w'=>jDu tk.b (by omega) w');obtain⟨n,hn⟩:∃n,n=(calP tk.b.data.toList).1:=⟨_,rfl⟩
  obtain⟨e,hee⟩:∃e,e=(calP tk.b.data.toList).2:=⟨_,rfl⟩
  rw[←hn,←hee] at HCAL;have HM:=hid (show r.moment s calP=(n,if e≠0 then r1.fail r.p e else r1) by
   unfold Rd.moment;dsimp only;rw[←HR1.out,if_neg (by simp[HE.out]),hn,hee,HTE.out])
  clear hn hee he hk;by_cases hez:e=0
  ·have qz:(e==0)=true:=by simp[hez]
   have qz':(e != 0)=false:=by simp[hez]
   have HEZ:=hid hez;clear hez;go_enter Tryz.func324,Tryz.ntmps324
   go_wp2_with (first
    | (go_at_call 325;refine(HCAL.out _).mono ?_;rintro e w3 ⟨rfl,hb3⟩;have HB3:=hid hb3;clear hb3)
    | (go_at_call 346;refine HT.out.mono ?_;rintro e w2 ⟨rfl,h2,hg2⟩;have H2R:=hid h2;have HG2:=hid hg2;have hpc:=HPC.out w2 h2;have hsn:=HSN.out w2;have hbl:=h2.lt;clear h2 hg2))
   go_ret;rw[HM.out,if_neg (by simp[HEZ.out])];have hbb:=World.grownBy_alloc w2 (tokO tk) (some b);exact⟨rfl,jV (H2R.out.alloc _) HB3.out (by rw[World.size_alloc];omega),HG2.out.trans (hbb.trans (jJ HB3.out (some b)))⟩
  ·have qz:(e==0)=false:=by simp[hez]
   have qz':(e != 0)=true:=by simp[hez]
   have HEZ:=hid hez;have HFL:=hid (fun (w':World) (h':IsRd w' b s r1)=>jP b s r1 tk.p e w' h');clear hez;go_enter Tryz.func324,Tryz.ntmps324
   go_upto_region 5 with (first
    | (go_at_call 325;refine(HCAL.out _).mono ?_;rintro e w3 ⟨rfl,hb3⟩;have HB3:=hid hb3;clear hb3)
    | (go_at_call 346;refine HT.out.mono ?_;rintro e w2 ⟨rfl,h2,hg2⟩;have H2R:=hid h2;have HG2:=hid hg2;have hpc:=HPC.out w2 h2;have hsn:=HSN.out w2;have hbl:=h2.lt;clear h2 hg2))
   have hbb:=World.grownBy_alloc w2 (tokO tk) (some b);have HR3:=hid (jV (H2R.out.alloc (tokO tk)) HB3.out (by rw[World.size_alloc];omega));have HG3:=hid (HG2.out.trans (hbb.trans (jJ HB3.out (some b))));have hT3:w3.heap[w2.heap.size]?=some (tokO tk):=jB HB3.out (heap_alloc_new w2 _);have hcp:w3.cell? ⟨w2.heap.size,1,none⟩=some (.int .i64 (tk.p:Int)):=jA hT3 1;clear hbb hT3;go_wp2_with (go_at_call 274;refine(HFL.out w3 HR3.out).mono ?_;rintro e w4 ⟨rfl,h4,hg4⟩;have H4R:=hid h4;have HG4:=hid hg4;clear h4 hg4)
   go_ret;rw[HM.out,if_pos HEZ.out,←HTE.out];exact⟨rfl,H4R.out,HG3.out.trans HG4.out⟩
 ·have HE:=hid he;have qe:(r1.e==0)=false:=by simp[he]
  have qe':(r1.e != 0)=true:=by simp[he]
  clear he;go_enter Tryz.func324,Tryz.ntmps324
  go_wp2_with (go_at_call 346;refine HT.out.mono ?_;rintro e w2 ⟨rfl,h2,hg2⟩;have H2R:=hid h2;have HG2:=hid hg2;have hpc:=HPC.out w2 h2;have hsn:=HSN.out w2;have hbl:=h2.lt;clear h2 hg2)
  go_ret;have HM:r.moment s calP=(0,r1):=by
   unfold Rd.moment;dsimp only;rw[←HR1.out,if_pos HE.out]
  rw[HM];exact⟨rfl,H2R.out.alloc _,HG2.out.trans (World.grownBy_alloc _ _ _)⟩
theorem jGu (b:Nat) (s:ByteArray) (r:Rd) (w:World) (h:IsRd w b s r) (hf:r.Fit s) (hs:s.size≤100000) (hTB:TB w b) :
 Calls Tryz.prog 324 #[.pointer (some ⟨b,0,none⟩),.func (.func 327) #[] #[]] w fun x w'=>x=.returned (.int .i64 (r.moment s calT).1)∧IsRd w' b s (r.moment s calT).2∧w.grownBy w' (some b):=by
 have HT:=hid (jAs b s r 3 w h hs hTB);obtain⟨tk,htk⟩:∃tk,tk=qM r 3:=⟨_,rfl⟩
 obtain⟨r1,hr1⟩:∃r1,r1=r.take s 3:=⟨_,rfl⟩
 rw[←htk,←hr1] at HT;have HTK:=hid htk;have HR1:=hid hr1;have HLT:=hid h.lt;have htb:tk.b.size≤400000:=by
  rw[htk];unfold qM;split
  ·have:=hf.b;omega
  ·exact Nat.zero_le _
 clear htk hr1;have HLN:=hid (fun w2=>jFb w2 tk);have HSN:=hid (fun w2=>uY w2 #[.int .i64 0,.int .i64 0,.string ⟨#[]⟩,.string ⟨#[]⟩,.int .i64 0,.int .i64 0,.bool false,.bool false] rfl tk);have HPC:=hid (fun (w2:World) (h2:IsRd w2 b s r1)=>(jA h2.at_ 10:w2.cell? ⟨b,10,none⟩=some (.int .i64 r1.e)));by_cases he:r1.e=0
 ·have HE:=hid he;have hk:r.e=0∧r.k=3:=by
   have h1:=HR1.out;unfold Rd.take at h1;split at h1
   ·rename_i hx;rw[h1] at he;exact absurd he hx
   split at h1
   ·rename_i hx hy;rw[h1] at he;exact absurd he (Rd.fail_e _ _ _ (by decide))
   ·rename_i hx hy;exact⟨Decidable.not_not.1 hx,Decidable.not_not.1 hy⟩
  have HTE:=hid (show tk=r by rw[HTK.out,qM,if_pos hk]);have qe:(r1.e==0)=true:=by simp[he]
  have qe':(r1.e != 0)=false:=by simp[he]
  have HCAL:=hid (fun w'=>jG2 tk.b (by omega) w');obtain⟨n,hn⟩:∃n,n=(calT tk.b.data.toList).1:=⟨_,rfl⟩
  obtain⟨e,hee⟩:∃e,e=(calT tk.b.data.toList).2:=⟨_,rfl⟩
  rw[←hn,←hee] at HCAL;have HM:=hid (show r.moment s calT=(n,if e≠0 then r1.fail r.p e else r1) by
   unfold Rd.moment;dsimp only;rw[←HR1.out,if_neg (by simp[HE.out]),hn,hee,HTE.out])
  clear hn hee he hk;by_cases hez:e=0
  ·have qz:(e==0)=true:=by simp[hez]
   have qz':(e != 0)=false:=by simp[hez]
   have HEZ:=hid hez;clear hez;go_enter Tryz.func324,Tryz.ntmps324
   go_wp2_with (first
    | (go_at_call 327;refine(HCAL.out _).mono ?_;rintro e w3 ⟨rfl,hb3⟩;have HB3:=hid hb3;clear hb3)
    | (go_at_call 346;refine HT.out.mono ?_;rintro e w2 ⟨rfl,h2,hg2⟩;have H2R:=hid h2;have HG2:=hid hg2;have hpc:=HPC.out w2 h2;have hsn:=HSN.out w2;have hbl:=h2.lt;clear h2 hg2))
   go_ret;rw[HM.out,if_neg (by simp[HEZ.out])];have hbb:=World.grownBy_alloc w2 (tokO tk) (some b);exact⟨rfl,jV (H2R.out.alloc _) HB3.out (by rw[World.size_alloc];omega),HG2.out.trans (hbb.trans (jJ HB3.out (some b)))⟩
  ·have qz:(e==0)=false:=by simp[hez]
   have qz':(e != 0)=true:=by simp[hez]
   have HEZ:=hid hez;have HFL:=hid (fun (w':World) (h':IsRd w' b s r1)=>jP b s r1 tk.p e w' h');clear hez;go_enter Tryz.func324,Tryz.ntmps324
   go_upto_region 5 with (first
    | (go_at_call 327;refine(HCAL.out _).mono ?_;rintro e w3 ⟨rfl,hb3⟩;have HB3:=hid hb3;clear hb3)
    | (go_at_call 346;refine HT.out.mono ?_;rintro e w2 ⟨rfl,h2,hg2⟩;have H2R:=hid h2;have HG2:=hid hg2;have hpc:=HPC.out w2 h2;have hsn:=HSN.out w2;have hbl:=h2.lt;clear h2 hg2))
   have hbb:=World.grownBy_alloc w2 (tokO tk) (some b);have HR3:=hid (jV (H2R.out.alloc (tokO tk)) HB3.out (by rw[World.size_alloc];omega));have HG3:=hid (HG2.out.trans (hbb.trans (jJ HB3.out (some b))));have hT3:w3.heap[w2.heap.size]?=some (tokO tk):=jB HB3.out (heap_alloc_new w2 _);have hcp:w3.cell? ⟨w2.heap.size,1,none⟩=some (.int .i64 (tk.p:Int)):=jA hT3 1;clear hbb hT3;go_wp2_with (go_at_call 274;refine(HFL.out w3 HR3.out).mono ?_;rintro e w4 ⟨rfl,h4,hg4⟩;have H4R:=hid h4;have HG4:=hid hg4;clear h4 hg4)
   go_ret;rw[HM.out,if_pos HEZ.out,←HTE.out];exact⟨rfl,H4R.out,HG3.out.trans HG4.out⟩
 ·have HE:=hid he;have qe:(r1.e==0)=false:=by simp[he]
  have qe':(r1.e != 0)=true:=by simp[he]
  clear he;go_enter Tryz.func324,Tryz.ntmps324
  go_wp2_with (go_at_call 346;refine HT.out.mono ?_;rintro e w2 ⟨rfl,h2,hg2⟩;have H2R:=hid h2;have HG2:=hid hg2;have hpc:=HPC.out w2 h2;have hsn:=HSN.out w2;have hbl:=h2.lt;clear h2 hg2)
  go_ret;have HM:r.moment s calT=(0,r1):=by
   unfold Rd.moment;dsimp only;rw[←HR1.out,if_pos HE.out]
  rw[HM];exact⟨rfl,H2R.out.alloc _,HG2.out.trans (World.grownBy_alloc _ _ _)⟩
end
end
section
open Go Go.RowKit Go.Shelf
structure RdI (s:ByteArray) (r:Rd):Prop where
 t0:r.e=0→r.k=0→r.t=⟨#[]⟩
 fit:r.Fit s
 k5:r.k≤5
theorem jB8 (r:Rd) (p:Nat) (e:Int):(r.fail p e).k=r.k:=by unfold Rd.fail;split<;>rfl
theorem mid_k (s:ByteArray) (a o:Nat) (c:UInt8):(midF s a o c).k≤5:=by
 unfold midF;split
 ·unfold xO;split
  ·dsimp only;omega
  ·rw[jB8];exact Nat.zero_le _
  ·rw[jB8];exact Nat.zero_le _
 split
 ·unfold zH;split
  ·dsimp only;omega
  ·rw[jB8];exact Nat.zero_le _
  ·rw[jB8];exact Nat.zero_le _
 split
 ·dsimp only;omega
 split
 ·unfold yI
  extract_lets fq tq
  split
  ·rw[jB8];exact Nat.zero_le _
  ·exact(by decide:2≤5)
 split
 ·exact Nat.le_refl _
 split
 ·exact Nat.le_refl _
 ·rw[jB8];exact Nat.zero_le _
theorem adv_k {s:ByteArray} {r:Rd} (h:r.k≤5):(r.adv s).k≤5:=by
 by_cases he:r.e=0
 ·cases hc:s.data.toList[runI s.data.toList r.nx spC]? with
  | none=>rw[zW he hc];exact Nat.zero_le _
  | some c =>
    rw[zV he hc];have hm:=mid_k s (runI s.data.toList r.nx spC) r.o c;unfold finF;split<;>exact hm
 ·unfold Rd.adv;rw[if_pos he];exact h
theorem jH0 (s:ByteArray) (a o:Nat) (c:UInt8) (hc:s.data.toList[a]?=some c):(midF s a o c).e=0→(midF s a o c).k≠0∧a<(midF s a o c).nx:=by
 unfold midF;split
 ·intro he;refine⟨(jLv s a o).2 he,?_⟩;revert he;unfold xO;split
  ·rename_i i b h;intro _;have:=jAf _ _ _ _ _ _ h;dsimp only;omega
  ·rename_i i e h;intro he;exact absurd he (Rd.fail_e _ _ _ (yC _ _ _ _ _ _ h))
  ·intro he;exact absurd he (Rd.fail_e _ _ _ (by decide))
 split
 ·intro he;refine⟨(jLx s a o).2 he,?_⟩;revert he;unfold zH;split
  ·rename_i i b h;intro _;have:=(jAl _ _ _ _ _ _ h).1;dsimp only;omega
  ·intro he;exact absurd he (Rd.fail_e _ _ _ (by decide))
  ·intro he;exact absurd he (Rd.fail_e _ _ _ (by decide))
 split
 ·rename_i hl;intro _;refine⟨by simp,?_⟩;exact runI_gt _ _ _ c hc (by unfold wrdC;rw[hl];rfl)
 split
 ·intro he;refine⟨(jLw s a o).2 he,?_⟩;revert he;unfold yI;dsimp only;have h1:a≤(if s.data.toList[a]?=some 45 then a+1 else a):=by split<;>omega
  obtain⟨f,hf⟩:∃f,f=(if s.data.toList[a]?=some 45 then a+1 else a):=⟨_,rfl⟩
  rw[←hf] at h1 ⊢;have h2:=uH s.data.toList f digC;obtain⟨tq,htq⟩:∃tq,tq=runI s.data.toList f digC:=⟨_,rfl⟩
  rw[←htq] at h2 ⊢;have h3:=uH s.data.toList (tq+1) digC;split
  ·intro he;exact absurd he (Rd.fail_e _ _ _ (by decide))
  ·rename_i hne;obtain⟨q,hq⟩:∃q,q=(if s.data.toList[tq]?=some 46∧(s.data.toList[tq+1]?.any digC)=true then (runI s.data.toList (tq+1) digC,true,false) else if s.data.toList[tq]?=some 100 then (tq+1,true,true) else (tq,false,false)):=⟨_,rfl⟩
   rw[←hq];have h4:tq≤q.1:=by
    rw[hq];split
    ·dsimp only;omega
    ·split<;>dsimp only<;>omega
   intro _;dsimp only;split
   ·rw[xW];dsimp only;omega
   ·dsimp only;omega
 split
 ·intro _;exact⟨by simp,by dsimp only;omega⟩
 split
 ·intro _;exact⟨by simp,by dsimp only;omega⟩
 ·intro he;exact absurd he (Rd.fail_e _ _ _ (by decide))
theorem jAh {s:ByteArray} {r:Rd} (h:RdI s r) (p:Nat) (e:Int) (he:e≠0):RdI s (r.fail p e):=⟨fun h1=>absurd h1 (Rd.fail_e _ _ _ he),nE h.fit _ _,by rw[jB8];exact h.k5⟩
theorem xP {s:ByteArray} {r:Rd} (h:RdI s r):RdI s (r.adv s):=by
 refine⟨?_,fit_adv h.fit,adv_k h.k5⟩;by_cases he:r.e=0
 ·cases hc:s.data.toList[runI s.data.toList r.nx spC]? with
  | none=>rw[zW he hc];intro _ _;rfl
  | some c =>
    rw[zV he hc];intro h1 h2;have hm:=jH0 s _ r.o c hc;unfold finF at h1 h2;split at h2
    ·rename_i h3;exact absurd h2 (hm h3).1
    ·rename_i h3;rw[if_neg h3] at h1;exact absurd h1 h3
 ·unfold Rd.adv;rw[if_pos he];exact h.t0
theorem zM {s:ByteArray} {r:Rd} (he:r.e=0):r.mu s=1+2 * (s.size-r.nx)+(if r.k=0 then 0 else 1):=by unfold Rd.mu;rw[if_neg (by simp[he])]
theorem jBh {s:ByteArray} {r:Rd}:(r.adv s).mu s≤r.mu s:=by
 by_cases he:r.e=0
 ·rw[zM he];cases hc:s.data.toList[runI s.data.toList r.nx spC]? with
  | none =>
    rw[zW he hc,zM (r:=r1F _ _) rfl,if_pos (show(r1F (runI s.data.toList r.nx spC) r.o).k=0 from rfl)];have:=uH s.data.toList r.nx spC;simp only[r1F];omega
  | some c =>
    rw[zV he hc];have hm:=jH0 s _ r.o c hc;have hg:=uH s.data.toList r.nx spC;have hlt:runI s.data.toList r.nx spC<s.size:=(List.getElem?_eq_some_iff.1 hc).1;unfold finF;by_cases h3:(midF s (runI s.data.toList r.nx spC) r.o c).e=0
    ·rw[if_pos h3,zM (r:={ midF s (runI s.data.toList r.nx spC) r.o c with t:=s.extract (runI s.data.toList r.nx spC) (midF s (runI s.data.toList r.nx spC) r.o c).nx }) h3];have:=(hm h3).2;dsimp only;split<;>split<;>omega
    ·rw[if_neg h3,Rd.mu_bad h3];exact Nat.zero_le _
 ·unfold Rd.adv;rw[if_pos he];exact Nat.le_refl _
theorem jNe {s:ByteArray} {r:Rd} (he:r.e=0) (hk:r.k≠0):(r.adv s).mu s<r.mu s:=by
 rw[zM he,if_neg hk];cases hc:s.data.toList[runI s.data.toList r.nx spC]? with
 | none =>
   rw[zW he hc,zM (r:=r1F _ _) rfl,if_pos (show(r1F (runI s.data.toList r.nx spC) r.o).k=0 from rfl)];have:=uH s.data.toList r.nx spC;simp only[r1F];omega
 | some c =>
   rw[zV he hc];have hm:=jH0 s _ r.o c hc;have hg:=uH s.data.toList r.nx spC;have hlt:runI s.data.toList r.nx spC<s.size:=(List.getElem?_eq_some_iff.1 hc).1;unfold finF;by_cases h3:(midF s (runI s.data.toList r.nx spC) r.o c).e=0
   ·rw[if_pos h3,zM (r:={ midF s (runI s.data.toList r.nx spC) r.o c with t:=s.extract (runI s.data.toList r.nx spC) (midF s (runI s.data.toList r.nx spC) r.o c).nx }) h3];have:=(hm h3).2;dsimp only;split<;>omega
   ·rw[if_neg h3,Rd.mu_bad h3];omega
theorem qZ {s:ByteArray} (r:Rd) (p:Nat) (e:Int) (he:e≠0):(r.fail p e).mu s≤r.mu s:=by rw[Rd.fail_mu r p e he];exact Nat.zero_le _
theorem nJ {s:ByteArray} {r:Rd} (h:RdI s r) (t:ByteArray):RdI s (r.expect s t):=by
 unfold Rd.expect;split;· exact h
 split;· exact xP h
 exact jAh h _ _ (by decide)
theorem uA {s:ByteArray} {r:Rd} (t:ByteArray):(r.expect s t).mu s≤r.mu s:=by
 unfold Rd.expect;split;· exact Nat.le_refl _
 split;· exact jBh
 exact qZ _ _ _ (by decide)
theorem yJ {s:ByteArray} {r:Rd} (h:RdI s r) (k:Nat):RdI s (r.take s k):=by
 unfold Rd.take;split;· exact h
 split;· exact jAh h _ _ (by decide)
 exact xP h
theorem jGd {s:ByteArray} {r:Rd} (k:Nat):(r.take s k).mu s≤r.mu s:=by
 unfold Rd.take;split;· exact Nat.le_refl _
 split;· exact qZ _ _ _ (by decide)
 exact jBh
theorem rdI_name {s:ByteArray} {r:Rd} (h:RdI s r):RdI s (r.name s):=by
 unfold Rd.name;dsimp only;split
 ·exact jAh (yJ h 1) _ _ (by decide)
 ·exact yJ h 1
theorem name_mu {s:ByteArray} {r:Rd}:(r.name s).mu s≤r.mu s:=by
 unfold Rd.name;dsimp only;split
 ·rw[Rd.fail_mu _ _ _ (by decide)];exact Nat.zero_le _
 ·exact jGd 1
theorem jCe {s:ByteArray} {r:Rd} (h:RdI s r) (f:List UInt8→Int × Int):RdI s (r.moment s f).2:=by
 unfold Rd.moment;dsimp only;split
 ·exact yJ h 3
 ·dsimp only;split
  ·rename_i h1;exact jAh (yJ h 3) _ _ h1
  ·exact yJ h 3
theorem jF4 {s:ByteArray} {r:Rd} (f:List UInt8→Int × Int):(r.moment s f).2.mu s≤r.mu s:=by
 unfold Rd.moment;dsimp only;split
 ·exact jGd 3
 ·dsimp only;split
  ·rename_i h1;rw[Rd.fail_mu _ _ _ h1];exact Nat.zero_le _
  ·exact jGd 3
def RdOK (s:ByteArray) (rd:Rd→Val × Rd):Prop:=∀r,RdI s r→RdI s (rd r).2∧(rd r).2.mu s≤r.mu s∧(r.e=0→(rd r).2.mu s<r.mu s)∧((rd r).2.e=0→r.e=0)
theorem qC {s:ByteArray} {r:Rd} {t:ByteArray} (h:(r.expect s t).e=0):r.e=0:=by
 unfold Rd.expect at h;split at h
 ·rename_i h1;exact absurd h h1
 ·rename_i h1;exact Decidable.not_not.1 h1
theorem take_e {s:ByteArray} {r:Rd} {k:Nat} (h:(r.take s k).e=0):r.e=0:=by
 unfold Rd.take at h;split at h
 ·rename_i h1;exact absurd h h1
 ·rename_i h1;exact Decidable.not_not.1 h1
theorem name_e {s:ByteArray} {r:Rd} (h:(r.name s).e=0):r.e=0:=by
 unfold Rd.name at h;dsimp only at h;split at h
 ·exact absurd h (Rd.fail_e _ _ _ (by decide))
 ·exact take_e h
theorem fail_e0 {r:Rd} {p:Nat} {e:Int} (h:(r.fail p e).e=0):r.e=0:=by
 unfold Rd.fail at h;split at h
 ·rename_i h1;exact h1
 ·rename_i h1;exact absurd h h1
theorem jCj {s:ByteArray} {rd:Rd→Val × Rd} (hrd:RdOK s rd) {r:Rd} (h:RdI s r) (he:r.e=0) (first:Bool) (t:ByteArray) :
 RdI s (rd (if first then r else r.expect s t)).2∧(rd (if first then r else r.expect s t)).2.mu s<r.mu s:=by
 cases first
 ·simp only[Bool.false_eq_true,if_false];have h1:=nJ h t;have h2:=uA (s:=s) (r:=r) t;obtain⟨a,b,c,d⟩:=hrd _ h1;refine⟨a,?_⟩;by_cases hx:(r.expect s t).e=0
  ·exact Nat.lt_of_lt_of_le (c hx) h2
  ·rw[Rd.mu_bad hx] at b;have:=Rd.mu_pos (s:=s) he;omega
 ·simp only[if_true];obtain⟨a,b,c,d⟩:=hrd _ h;exact⟨a,c he⟩
theorem jF9 {s:ByteArray} {rd:Rd→Val × Rd} (hrd:RdOK s rd):∀(F:Nat) (first:Bool) (r:Rd) (acc:List Val),RdI s r→RdI s (mX s rd F first r acc).2∧(mX s rd F first r acc).2.mu s≤r.mu s∧((mX s rd F first r acc).2.e=0→r.e=0)
 | 0,_,r,_,h=>⟨h,Nat.le_refl _,fun h=>h⟩
 | F+1,first,r,acc,h=>by
   rw[mX];split
   ·exact⟨h,Nat.le_refl _,fun h=>h⟩
   ·rename_i hc;have he:r.e=0:=Decidable.not_not.1 fun h=>hc (.inl h);obtain⟨a,b⟩:=jCj hrd h he first ⟨#[44]⟩
    obtain⟨c,d,e⟩:=jF9 hrd F false _ (acc++[(rd (if first then r else r.expect s ⟨#[44]⟩)).1]) a;exact⟨c,by dsimp only;omega,fun _=>he⟩
def recR (s:ByteArray) (first:Bool) (r:Rd) (acc:List (ByteArray × Val)):Rd :=
 let r1:=if first then r else r.expect s ⟨#[44]⟩
 let r2:=r1.name s
 let nm:ByteArray:=if r1.e=0∧r1.k=1 then r1.t else ⟨#[]⟩
 (if r2.e=0∧acc.any (fun x=>decide (x.1=nm))=true then r2.fail r1.p 7 else r2).expect s ⟨#[58]⟩
def recN (s:ByteArray) (first:Bool) (r:Rd):ByteArray :=
 let r1:=if first then r else r.expect s ⟨#[44]⟩
 if r1.e=0∧r1.k=1 then r1.t else ⟨#[]⟩
theorem jAg (s:ByteArray) (rd:Rd→Val × Rd) (f:Nat) (first:Bool) (r:Rd) (acc:List (ByteArray × Val)):xC s rd (f+1) first r acc=if r.e≠0∨r.is ⟨#[125]⟩=true then (acc,r) else
 xC s rd f false (rd (recR s first r acc)).2 (acc++[(recN s first r,(rd (recR s first r acc)).1)]):=by
 rw[xC];rfl
theorem jLh {s:ByteArray} {r:Rd} (h:RdI s r) (first:Bool) (acc:List (ByteArray × Val)):RdI s (recR s first r acc)∧(recR s first r acc).mu s≤r.mu s∧((recR s first r acc).e=0→r.e=0):=by
 have h1:RdI s (if first then r else r.expect s ⟨#[44]⟩)∧(if first then r else r.expect s ⟨#[44]⟩).mu s≤r.mu s∧((if first then r else r.expect s ⟨#[44]⟩).e=0→r.e=0):=by
  split
  ·exact⟨h,Nat.le_refl _,fun h=>h⟩
  ·exact⟨nJ h _,uA _,qC⟩
 unfold recR;dsimp only;obtain⟨r1,hr1⟩:∃r1,r1=(if first then r else r.expect s ⟨#[44]⟩):=⟨_,rfl⟩
 rw[←hr1] at h1 ⊢;obtain⟨a,b,c⟩:=h1;have h2:=rdI_name a;have h3:=name_mu (s:=s) (r:=r1);obtain⟨nm,hnm⟩:∃nm:ByteArray,nm=(if r1.e=0∧r1.k=1 then r1.t else ⟨#[]⟩):=⟨_,rfl⟩
 rw[←hnm];have h4:RdI s (if (r1.name s).e=0∧acc.any (fun x=>decide (x.1=nm))=true then (r1.name s).fail r1.p 7 else r1.name s)∧(if (r1.name s).e=0∧acc.any (fun x=>decide (x.1=nm))=true then (r1.name s).fail r1.p 7 else r1.name s).mu s≤(r1.name s).mu s∧((if (r1.name s).e=0∧acc.any (fun x=>decide (x.1=nm))=true then (r1.name s).fail r1.p 7 else r1.name s).e=0→(r1.name s).e=0):=by
  split
  ·exact⟨jAh h2 _ _ (by decide),qZ _ _ _ (by decide),fail_e0⟩
  ·exact⟨h2,Nat.le_refl _,fun h=>h⟩
 obtain⟨d,e,f⟩:=h4;refine⟨nJ d _,?_,fun hx=>c (name_e (f (qC hx)))⟩;have:=uA (s:=s) (r:=(if (r1.name s).e=0∧acc.any (fun x=>decide (x.1=nm))=true then (r1.name s).fail r1.p 7 else r1.name s)) ⟨#[58]⟩;omega
theorem jEx {s:ByteArray} {rd:Rd→Val × Rd} (hrd:RdOK s rd) {r:Rd} (h:RdI s r) (he:r.e=0) (first:Bool) (acc:List (ByteArray × Val)) :
 RdI s (rd (recR s first r acc)).2∧(rd (recR s first r acc)).2.mu s<r.mu s:=by
 obtain⟨h1,h2,h3⟩:=jLh h first acc
 obtain⟨a,b,c,d⟩:=hrd _ h1;refine⟨a,?_⟩;by_cases hx:(recR s first r acc).e=0
 ·have:=c hx;omega
 ·rw[Rd.mu_bad hx] at b;have:=Rd.mu_pos (s:=s) he;omega
theorem jHx {s:ByteArray} {rd:Rd→Val × Rd} (hrd:RdOK s rd):∀(F:Nat) (first:Bool) (r:Rd) (acc:List (ByteArray × Val)),RdI s r→RdI s (xC s rd F first r acc).2∧(xC s rd F first r acc).2.mu s≤r.mu s∧((xC s rd F first r acc).2.e=0→r.e=0)
 | 0,_,r,_,h=>⟨h,Nat.le_refl _,fun h=>h⟩
 | F+1,first,r,acc,h=>by
   rw[jAg];split
   ·exact⟨h,Nat.le_refl _,fun h=>h⟩
   ·rename_i hc;have he:r.e=0:=Decidable.not_not.1 fun h=>hc (.inl h);obtain⟨a,b⟩:=jEx hrd h he first acc
    obtain⟨c,d,e⟩:=jHx hrd F false _ (acc++[(recN s first r,(rd (recR s first r acc)).1)]) a;exact⟨c,by omega,fun _=>he⟩
theorem jGp (s:ByteArray) (f:Nat) (r:Rd) (he:r.e≠0):rdV s f r=(nulV,r):=by unfold rdV;rw[if_pos he]
theorem jHy (s:ByteArray):∀f,RdOK s (rdV s f):=by
 intro f
 induction f with
 | zero =>
   intro r h;by_cases he:r.e=0
   ·have hp:=Rd.mu_pos (s:=s) he;unfold rdV;rw[if_neg (by simp[he])];by_cases hk:(r.k=0∨r.k=5)∧r.t≠⟨#[91]⟩∧r.t≠⟨#[123]⟩
    ·rw[if_pos hk];exact⟨jAh h _ _ (by decide),qZ _ _ _ (by decide),fun _=>by dsimp only;rw[Rd.fail_mu _ _ _ (by decide)];exact hp,fun _=>he⟩
    ·rw[if_neg hk];exact⟨jAh h _ _ (by decide),qZ _ _ _ (by decide),fun _=>by dsimp only;rw[Rd.fail_mu _ _ _ (by decide)];exact hp,fun _=>he⟩
   ·rw[jGp s 0 r he];exact⟨h,Nat.le_refl _,fun h1=>absurd h1 he,fun h1=>h1⟩
 | succ f ih =>
   intro r h;by_cases he:r.e=0
   ·have hp:=Rd.mu_pos (s:=s) he;have hF:∀(x:Rd) (p:Nat) (e:Int),RdI s x→e≠0→RdI s (nulV,x.fail p e).2∧(nulV,x.fail p e).2.mu s≤r.mu s∧(r.e=0→(nulV,x.fail p e).2.mu s<r.mu s)∧((nulV,x.fail p e).2.e=0→r.e=0):=fun x p e hx hne=>⟨jAh hx _ _ hne,by dsimp only;rw[Rd.fail_mu _ _ _ hne];exact Nat.zero_le _,fun _=>by dsimp only;rw[Rd.fail_mu _ _ _ hne];exact hp,fun _=>he⟩
    have hL:∀(v:Val) (x:Rd),RdI s x→x.mu s<r.mu s→RdI s (v,x).2∧(v,x).2.mu s≤r.mu s∧(r.e=0→(v,x).2.mu s<r.mu s)∧((v,x).2.e=0→r.e=0):=fun v x hx hm=>⟨hx,by dsimp only;omega,fun _=>hm,fun _=>he⟩
    unfold rdV;rw[if_neg (by simp[he])];by_cases hk:(r.k=0∨r.k=5)∧r.t≠⟨#[91]⟩∧r.t≠⟨#[123]⟩
    ·rw[if_pos hk];exact hF _ _ _ h (by decide)
    ·rw[if_neg hk];have hk0:r.k≠0:=by
      intro h0;refine hk ⟨.inl h0,?_⟩;rw[h.t0 he h0];exact⟨by simp,by simp⟩
     dsimp only;have a1:=xP h;have a2:=jNe (s:=s) he hk0;obtain⟨r1,hr1⟩:∃r1,r1=r.adv s:=⟨_,rfl⟩
     rw[←hr1] at a1 a2 ⊢;by_cases c0:r.k=2
     ·rw[if_pos c0];exact hL _ _ a1 a2
     rw[if_neg c0];by_cases c1:r.k=3
     ·rw[if_pos c1];exact hL _ _ a1 a2
     rw[if_neg c1];by_cases c2:r.k=4
     ·rw[if_pos c2];exact hL _ _ a1 a2
     rw[if_neg c2];by_cases c3:r.t=⟨#[91]⟩
     ·rw[if_pos c3];obtain⟨b1,b2,_⟩:=jF9 ih (r1.mu s+1) true r1 [] a1;have b3:=uA (s:=s) (r:=(mX s (rdV s f) (r1.mu s+1) true r1 []).2) ⟨#[93]⟩;exact hL _ _ (nJ b1 _) (by omega)
     rw[if_neg c3];by_cases c4:r.t=⟨#[123]⟩
     ·rw[if_pos c4];obtain⟨b1,b2,_⟩:=jHx ih (r1.mu s+1) true r1 [] a1;have b3:=uA (s:=s) (r:=(xC s (rdV s f) (r1.mu s+1) true r1 []).2) ⟨#[125]⟩;exact hL _ _ (nJ b1 _) (by omega)
     rw[if_neg c4];by_cases c5:r1.e≠0
     ·rw[if_pos c5];exact hL _ _ a1 a2
     rw[if_neg c5];by_cases c6:r1.is ⟨#[40]⟩=true
     ·rw[if_pos c6];by_cases cn:jN r.t=false
      ·rw[if_pos cn];exact hF _ _ _ a1 (by decide)
      ·rw[if_neg cn];obtain⟨c1,c2,_,_⟩:=ih _ (xP a1);have c3:=jBh (s:=s) (r:=r1);have b3:=uA (s:=s) (r:=(rdV s f (r1.adv s)).2) ⟨#[41]⟩;exact hL _ _ (nJ c1 _) (by omega)
     rw[if_neg c6];by_cases c7:r.t=⟨#[116,114,117,101]⟩
     ·rw[if_pos c7];exact hL _ _ a1 a2
     rw[if_neg c7];by_cases c8:r.t=⟨#[102,97,108,115,101]⟩
     ·rw[if_pos c8];exact hL _ _ a1 a2
     rw[if_neg c8];by_cases c9:r.t=⟨#[100,97,116,101]⟩
     ·rw[if_pos c9];exact hL _ _ (jCe a1 _) (Nat.lt_of_le_of_lt (jF4 _) a2)
     rw[if_neg c9];by_cases c10:r.t=⟨#[116,105,109,101]⟩
     ·rw[if_pos c10];exact hL _ _ (jCe a1 _) (Nat.lt_of_le_of_lt (jF4 _) a2)
     rw[if_neg c10];by_cases c11:r.t=⟨#[110,117,108,108]⟩∧f=7
     ·rw[if_pos c11];exact hL _ _ a1 a2
     ·rw[if_neg c11];exact hF _ _ _ a1 (by decide)
   ·rw[jGp s (f+1) r he];exact⟨h,Nat.le_refl _,fun h1=>absurd h1 he,fun h1=>h1⟩
end
section
open Go Go.RowKit Go.Shelf
theorem jK2 (n:Int) (w:World):Calls Tryz.prog 57 #[.int .i64 n] w fun x w'=>x=.returned (.agg #[.int .i64 2,.int .i64 n,.int .i64 0,.string ⟨#[]⟩,.slice none 0 0,.slice none 0 0])∧Below w.heap.size w w':=by
 go_enter Tryz.func57,Tryz.ntmps57
 go_wp2;refine bodyPost_ret (v:=.agg #[.int .i64 2,.int .i64 n,.int .i64 0,.string ⟨#[]⟩,.slice none 0 0,.slice none 0 0]) (by simp[results,Tryz.results57,go_sem]) rfl ?_;exact⟨rfl,(bR w).alloc lr _⟩
theorem jK3 (n m:Int) (w:World):Calls Tryz.prog 276 #[.int .i64 n,.int .i64 m] w fun x w'=>x=.returned (.agg #[.int .i64 3,.int .i64 n,.int .i64 m,.string ⟨#[]⟩,.slice none 0 0,.slice none 0 0])∧Below w.heap.size w w':=by
 go_enter Tryz.func276,Tryz.ntmps276
 go_wp2;refine bodyPost_ret (v:=.agg #[.int .i64 3,.int .i64 n,.int .i64 m,.string ⟨#[]⟩,.slice none 0 0,.slice none 0 0]) (by simp[results,Tryz.results276,go_sem]) rfl ?_;exact⟨rfl,(bR w).alloc lr _⟩
theorem jGy (z:ByteArray) (w:World):Calls Tryz.prog 56 #[.string z] w fun x w'=>x=.returned (.agg #[.int .i64 4,.int .i64 0,.int .i64 0,.string z,.slice none 0 0,.slice none 0 0])∧Below w.heap.size w w':=by
 go_enter Tryz.func56,Tryz.ntmps56
 go_wp2;refine bodyPost_ret (v:=.agg #[.int .i64 4,.int .i64 0,.int .i64 0,.string z,.slice none 0 0,.slice none 0 0]) (by simp[results,Tryz.results56,go_sem]) rfl ?_;exact⟨rfl,(bR w).alloc lr _⟩
theorem jF6 (z:ByteArray) (w:World):Calls Tryz.prog 277 #[.string z] w fun x w'=>x=.returned (.agg #[.int .i64 5,.int .i64 0,.int .i64 0,.string z,.slice none 0 0,.slice none 0 0])∧Below w.heap.size w w':=by
 go_enter Tryz.func277,Tryz.ntmps277
 go_wp2;refine bodyPost_ret (v:=.agg #[.int .i64 5,.int .i64 0,.int .i64 0,.string z,.slice none 0 0,.slice none 0 0]) (by simp[results,Tryz.results277,go_sem]) rfl ?_;exact⟨rfl,(bR w).alloc lr _⟩
theorem jGz (n:Int) (w:World):Calls Tryz.prog 323 #[.int .i64 n] w fun x w'=>x=.returned (.agg #[.int .i64 6,.int .i64 n,.int .i64 0,.string ⟨#[]⟩,.slice none 0 0,.slice none 0 0])∧Below w.heap.size w w':=by
 go_enter Tryz.func323,Tryz.ntmps323
 go_wp2;refine bodyPost_ret (v:=.agg #[.int .i64 6,.int .i64 n,.int .i64 0,.string ⟨#[]⟩,.slice none 0 0,.slice none 0 0]) (by simp[results,Tryz.results323,go_sem]) rfl ?_;exact⟨rfl,(bR w).alloc lr _⟩
theorem jGx (n:Int) (w:World):Calls Tryz.prog 326 #[.int .i64 n] w fun x w'=>x=.returned (.agg #[.int .i64 7,.int .i64 n,.int .i64 0,.string ⟨#[]⟩,.slice none 0 0,.slice none 0 0])∧Below w.heap.size w w':=by
 go_enter Tryz.func326,Tryz.ntmps326
 go_wp2;refine bodyPost_ret (v:=.agg #[.int .i64 7,.int .i64 n,.int .i64 0,.string ⟨#[]⟩,.slice none 0 0,.slice none 0 0]) (by simp[results,Tryz.results326,go_sem]) rfl ?_;exact⟨rfl,(bR w).alloc lr _⟩
theorem jGw (w:World):Calls Tryz.prog 322 #[.bool true] w fun x w'=>x=.returned (.agg #[.int .i64 1,.int .i64 1,.int .i64 0,.string ⟨#[]⟩,.slice none 0 0,.slice none 0 0])∧Below w.heap.size w w':=by
 go_enter Tryz.func322,Tryz.ntmps322
 go_wp2;refine bodyPost_ret (v:=.agg #[.int .i64 1,.int .i64 1,.int .i64 0,.string ⟨#[]⟩,.slice none 0 0,.slice none 0 0]) (by simp[results,Tryz.results322,go_sem]) rfl ?_;exact⟨rfl,(bR w).alloc lr _⟩
theorem jF5 (w:World):Calls Tryz.prog 322 #[.bool false] w fun x w'=>x=.returned (.agg #[.int .i64 1,.int .i64 0,.int .i64 0,.string ⟨#[]⟩,.slice none 0 0,.slice none 0 0])∧Below w.heap.size w w':=by
 go_enter Tryz.func322,Tryz.ntmps322
 go_wp2;refine bodyPost_ret (v:=.agg #[.int .i64 1,.int .i64 0,.int .i64 0,.string ⟨#[]⟩,.slice none 0 0,.slice none 0 0]) (by simp[results,Tryz.results322,go_sem]) rfl ?_;exact⟨rfl,(bR w).alloc lr _⟩
theorem ld6 {w:World} {N:Nat} {x0 x1 x2 x3 x4 x5:Value} {t:TypeId} {fr:Nat × Nat} (h:w.heap[N]?=some (.cells #[x0,x1,x2,x3,x4,x5] t fr)):(loadCellsFrom ⟨N,0,none⟩ 0 6 #[]).run Tryz.prog w=.ok #[x0,x1,x2,x3,x4,x5] w:=by
 have:=run_loadCells_list (P:=Tryz.prog) w ⟨N,0,none⟩ [x0,x1,x2,x3,x4,x5] (fun j v hv=>by
  rw[jIr,Nat.zero_add,jA h j];simpa using hv)
 exact this
theorem st6 {w:World} {N:Nat} {cur:Array Value} (h:w.heap[N]?=some (.cells cur 25 (0,0))) (hc:cur.size=6) (x0 x1 x2 x3 x4 x5:Value) (h1:∀v∈[x0,x1,x2,x3,x4,x5],v.oneCell'=true) :
 (storeCells ⟨N,0,none⟩ [x0,x1,x2,x3,x4,x5] 0).run Tryz.prog w=.ok () (w.setRow N #[x0,x1,x2,x3,x4,x5]):=by
 have:=run_storeCells_from (P:=Tryz.prog) N 25 [x0,x1,x2,x3,x4,x5] 0 cur w h (by rw[hc];rfl) h1
 simpa using this
theorem infoVal:(Tryz.prog.info? 25).map (·.size)=some 6:=by kernel_rfl
theorem jHu (w:World) (z:Array Value) (hz:z.size=6) (x0 x1 x2 x3 x4 x5:Value) (h1:∀v∈[x0,x1,x2,x3,x4,x5],v.oneCell'=true) :
 (storeCells ⟨w.heap.size,0,none⟩ [x0,x1,x2,x3,x4,x5] 0).run Tryz.prog (w.alloc (.cells z 25))=.ok () (w.alloc (.cells #[x0,x1,x2,x3,x4,x5] 25)):=by
 have:=run_storeCells_new (P:=Tryz.prog) w 25 z #[x0,x1,x2,x3,x4,x5] (by rw[infoVal];rfl) (by rw[hz];rfl) (by
  rw[Array.all_eq_true_iff_forall_mem];intro v hv;exact h1 v (by simpa using hv))
 exact this
abbrev valZ:Obj:=.cells #[.int .i64 0,.int .i64 0,.int .i64 0,.string ⟨#[]⟩,.slice none 0 0,.slice none 0 0] 25
theorem BuiltV.grownB {T B b:Nat} {w w':World} {v:Value} {k:Nat} {l:List Val} (h:BuiltV T B w v k l) (hg:w.grownBy w' (some b)) (hb:b<B):BuiltV T B w' v k l:=by
 have ho:=h.own;obtain⟨cs,h1,h2,h3⟩:=h;refine⟨cs,h1,h2.kept hg ?_,fun j hj hj'=>(h3 j hj hj').same fun i hi=>⟨⟨hi.1,by have:=hg.size;omega,hi.2.2⟩,hg.block i hi.2.1 (by have:=hi.1;simp;omega)⟩⟩;cases hv:v.ownBlock with
 | none=>exact .inl rfl
 | some g=>right;intro e;have:=(ho g hv).1;cases e;omega
theorem jR {w w':World} {b N:Nat} {o:Obj} (hg:w.grownBy w' (some b)) (h:w.heap[N]?=some o) (hne:N≠b):w'.heap[N]?=some o:=(hg.block N (ltOf h) (by simp[hne])).trans h
def muW (w:World) (b:Nat) (s:ByteArray):Nat:=if intOf ((w.cell? ⟨b,10,none⟩).getD undef)≠0 then 0 else 1+2 * (s.size-(intOf ((w.cell? ⟨b,1,none⟩).getD undef)).toNat)+(if intOf ((w.cell? ⟨b,2,none⟩).getD undef)=0 then 0 else 1)
theorem jI2 {w:World} {b:Nat} {s:ByteArray} {r:Rd} (h:IsRd w b s r):muW w b s=r.mu s:=by
 unfold muW Rd.mu;rw[show w.cell? ⟨b,10,none⟩=some (.int .i64 r.e) from jA h.at_ 10,show w.cell? ⟨b,1,none⟩=some (.int .i64 (r.nx:Int)) from jA h.at_ 1,show w.cell? ⟨b,2,none⟩=some (.int .i64 (r.k:Int)) from jA h.at_ 2];simp only[Option.getD_some,intOf,Int.toNat_natCast];congr 2;have:((r.k:Int)=0)=(r.k=0):=by rw[eq_iff_iff];omega
 simp only[this]
theorem jBv (t:ByteArray) (ht:t.size≤140737488351232) (c:VC) (d:Val) (w:World) (hd:IsVal (· < w.heap.size) w c d) :
 Calls Tryz.prog 321 #[.string t,c.v] w fun x w'=>(∃c':VC,x=.returned c'.v∧IsVal (fun b=>w.heap.size≤b∧b<w'.heap.size) w' c' (.mk 10 0 0 t [d] [] []))∧Below w.heap.size w w':=by
 have hw1:∀o1 o2 o3:Obj,Below w.heap.size w (((w.alloc o1).alloc o2).alloc o3):=fun o1 o2 o3=>(((bR w).alloc lr _).alloc (by simp) _).alloc (by simp;omega) _;obtain⟨wq,hwq⟩:∃wq,wq=((w.alloc (vObj c)).alloc valZ).alloc (vObj c):=⟨_,rfl⟩
 have hbq:Below w.heap.size w wq:=by rw[hwq];exact hw1 _ _ _
 have hd2:IsVal (· < wq.heap.size) wq c d:=hd.same fun b hb=>⟨by have:=hbq.size;omega,hbq.block b hb⟩
 have hN:wq.heap[w.heap.size+2]?=some (vObj c):=by rw[hwq];exact jK _ _ _ (by simp)
 have hsz:wq.heap.size=w.heap.size+3:=by rw[hwq];simp
 have hz2:wq.heap[w.heap.size+1]?=some valZ:=by rw[hwq];exact jD _ (jK _ _ _ (by simp))
 have hIV:IsVal (· < wq.heap.size) wq ⟨10,0,0,t,some ⟨w.heap.size+2,0,none⟩,1,1,none,0,0⟩ (.mk 10 0 0 t [d] [] []):=by
  refine⟨⟨rfl,rfl,rfl,rfl,⟨by simp[I64],by simp[I64],by simp[I64],ht,(show 1 * 88≤140737488351232 by decide),(show 0 * 104≤140737488351232 by decide),Nat.le_refl _,Nat.le_refl _⟩,rfl,rfl,rfl⟩,.inr ⟨w.heap.size+2,0,rfl,by omega,⟨⟨c,⟨jA hN 0,jA hN 1,jA hN 2,jA hN 3,jA hN 4,jA hN 5⟩,hd2⟩,trivial⟩⟩,.inl rfl⟩
 have HCL:=hid (vZ hIV);have HBQ:=hid hbq;have HSZ:=hid hsz;have HZ2:=hid hz2;rw[hwq] at HCL;clear hw1 hbq hd2 hN hsz hz2 hIV hd;dsimp only[VC.v] at HCL;go_enter Tryz.func321,Tryz.ntmps321
 go_wp2_with (go_at_call 244;refine HCL.out.mono ?_;rintro e w1 ⟨c1,rfl,hb1,hv1⟩;rw[←hwq] at hb1 hv1;have HB1:=hid hb1;have HV1:=hid hv1;have hz1:=jB hb1 HZ2.out;have k0:=jA hz1 0;have k1:=jA hz1 1;have k2:=jA hz1 2;have k3:=jA hz1 3;have k4:=jA hz1 4;have k5:=jA hz1 5;have f0:=jC hz1 0;have f1:=jC hz1 1;have f2:=jC hz1 2;have f3:=jC hz1 3;have f4:=jC hz1 4;have f5:=jC hz1 5;(try dsimp only at k0 k1 k2 k3 k4 k5);clear hb1 hv1 hz1)
 refine bodyPost_ret (v:=c1.v) (by simp[results,Tryz.results321,go_sem,k0,k1,k2,k3,k4,k5]) rfl ?_;have hs:=HSZ.out;have hs1:=HB1.out.size;refine⟨⟨c1,rfl,?_⟩,?_⟩
 ·refine HV1.out.same fun i hi=>⟨⟨by omega,by simp[World.setCell];exact hi.2⟩,?_⟩
  iterate 6 (refine(Below.heap_setCell _ _ _ _ (by dsimp only;omega)).trans ?_)
  rfl
 ·have hbb:=HBQ.out.trans (HB1.out.mono HBQ.out.size);exact(((((hbb.setCell (by simp) _).setCell (by simp) _).setCell (by simp) _).setCell (by simp) _).setCell (by simp) _).setCell (by simp) _
end
section
open Go Go.RowKit Go.Shelf
def jBj (w:World) (b:Nat) (s:ByteArray) (q:Val × Rd) (x:Ending) (w':World):Prop:=∃(c:VC) (d:Val),x=.returned c.v∧IsVal (fun i=>w.heap.size≤i∧i<w'.heap.size) w' c d∧(q.2.e=0→d=q.1)∧IsRd w' b s q.2∧w.grownBy w' (some b)
def ValIH (f:Nat):Prop:=∀(b:Nat) (s:ByteArray) (r:Rd) (dep:Int) (w:World),IsRd w b s r→RdI s r→s.size≤100000→TB w b→dep+f=8→Calls Tryz.prog 213 #[.pointer (some ⟨b,0,none⟩),.int .i64 dep] w (jBj w b s (rdV s f r))
def ListRel (w:World) (b N:Nat) (s:ByteArray) (f:Nat) (r0:Rd) (first:Bool) (wr:World):Prop :=
 ∃(r:Rd) (acc accd:List Val) (v:Value) (F:Nat),IsRd wr b s r∧RdI s r∧accd.length=acc.length∧(r.e=0→accd=acc)∧mX s (rdV s f) (r0.mu s+1) true r0 []=mX s (rdV s f) F first r acc∧r.mu s<F∧acc.length+r.mu s≤r0.mu s ∧
  wr.heap[N]?=some valZ∧wr.heap[N+1]?=some (.cells #[.int .i64 8,.int .i64 0,.int .i64 0,.string ⟨#[]⟩,v,.slice none 0 0] 25)∧BuiltV 25 (N+2) wr v accd.length accd∧w.grownBy wr (some b)
theorem mu_max (s:ByteArray) (r:Rd):r.mu s≤2 * s.size+2:=by unfold Rd.mu;split<;>(try split)<;>omega
section
attribute [-go_sem] loadCellsFrom storeCells
attribute [local go_sem] lcf0 lcf1 lcf2 lcf3 lcf4 lcf5 stc0 stc1
theorem jM5 (f:Nat) (IH:ValIH f) (b:Nat) (s:ByteArray) (r0:Rd) (dep:Int) (w:World) (h:IsRd w b s r0) (hI:RdI s r0) (hs:s.size≤100000) (hTB:TB w b) (hdep:dep+1+f=8) (hd0:0≤dep) :
 Calls Tryz.prog 278 #[.pointer (some ⟨b,0,none⟩),.int .i64 dep] w
  (jBj w b s (.mk 8 0 0 ⟨#[]⟩ (mX s (rdV s f) (r0.mu s+1) true r0 []).1 [] [],(mX s (rdV s f) (r0.mu s+1) true r0 []).2.expect s ⟨#[93]⟩)):=by
 obtain⟨ti,hi,hz0,hz1,hz2⟩:=info_parts vF;have HTB:=hid hTB;have hmx:=mu_max s r0;obtain⟨Q,hQ⟩:∃Q,Q=mX s (rdV s f) (r0.mu s+1) true r0 []:=⟨_,rfl⟩
 rw[←hQ];have HQ:=hid hQ;clear hQ;have hst1:=jHu (w.alloc valZ) #[.int .i64 0,.int .i64 0,.int .i64 0,.string ⟨#[]⟩,.slice none 0 0,.slice none 0 0] rfl (.int .i64 8) (.int .i64 0) (.int .i64 0) (.string ⟨#[]⟩) (.slice none 0 0) (.slice none 0 0) (by simp[Value.oneCell']);simp only[World.size_alloc] at hst1;have HR0:=hid h;have HI0:=hid hI;have hbl:=h.lt;clear h hI hTB;go_enter Tryz.func278,Tryz.ntmps278
 go_wp2;clear hst1;obtain⟨N,hN⟩:∃N,N=w.heap.size:=⟨_,rfl⟩
 have HNB:=hid (show N≠b∧N+1≠b by omega);have hbN:b<N:=by omega
 rw[←hN];have HNN:=hid hN;clear hN
 go_loopw [6] (fun fv wr=>∃first:Bool,fv=.bool first∧ListRel w b N s f r0 first wr) (fun _ wr=>muW wr b s)
 case atStart =>
  refine⟨true,rfl,r0,[],[],.slice none 0 0,r0.mu s+1,(HR0.out.alloc _).alloc _,HI0.out,rfl,fun _=>rfl,rfl,Nat.lt_succ_self _,by simp,?_,?_,BuiltV.nil _ _ _ _,(World.grownBy_alloc _ _ _).trans (World.grownBy_alloc _ _ _)⟩
  ·rw[HNN.out];exact jD _ (heap_alloc_new w _)
  ·rw[HNN.out,←World.size_alloc w valZ];exact heap_alloc_new (w.alloc valZ) _
 case round =>
  obtain⟨first,rfl,r,acc,accd,v,F,hr,hI,hlen,hac,heq,hF,hmu,hn0,hn1,hbu,hg⟩:=hrel;have HR:=hid hr;have HI:=hid hI;have HAC:=hid hac;have HLN:=hid hlen;have hak:accd.length≤200010:=by rw[hlen];omega
  have HEQ:=hid heq;have HN0:=hid hn0;have HN1:=hid hn1;have HG:=hid hg;have HTBr:=hid (HTB.out.grown hg (.inr rfl));have HMW:=hid (jI2 hr);have HIS:=hid (jDe b s r ⟨#[93]⟩ wr hr);have qe10:wr.cell? ⟨b,10,none⟩=some (.int .i64 r.e):=jA hr.at_ 10;obtain⟨F,rfl⟩:∃F',F=F'+1:=⟨F-1,by omega⟩
  obtain⟨q,hq⟩:∃q:Bool,q=r.is ⟨#[93]⟩:=⟨_,rfl⟩
  rw[←hq] at HIS;have HQq:=hid hq;clear hlen hac heq hn0 hn1 hg hr hI hq;by_cases he:r.e=0
  ·have HE:=hid he;have qe:(r.e==0)=true:=by simp[he]
   clear he;cases q
   ·have hnd:¬ (r.e≠0∨r.is ⟨#[93]⟩=true):=by rw[←HQq.out];simp[HE.out]
    have HEQ2:=hid (show Q=mX s (rdV s f) F false (rdV s f (if first=true then r else r.expect s ⟨#[44]⟩)).2 (acc++[(rdV s f (if first=true then r else r.expect s ⟨#[44]⟩)).1]) by
     rw[HQ.out,HEQ.out,mX,if_neg hnd])
    have HRND:=hid (jCj (jHy s f) HI.out HE.out first ⟨#[44]⟩);have HEXI:=hid (nJ HI.out ⟨#[44]⟩);have HEXC:=hid (kZ b s r ⟨#[44]⟩ wr HR.out hs HTBr.out);obtain⟨r2,hr2⟩:∃r2,r2=(if first=true then r else r.expect s ⟨#[44]⟩):=⟨_,rfl⟩
    rw[←hr2] at HEQ2 HRND;have HR2:=hid hr2;clear hr2 hnd
    go_upto_if 19 with (go_at_call 316;refine HIS.out.mono ?_;rintro e w2 ⟨rfl,hw2⟩;obtain rfl:=hw2.symm)
    go_cut [] (fun wz=>IsRd wz b s r2∧RdI s r2∧wr.grownBy wz (some b))
    case first =>
     cases first
     ·have h2:r2=r.expect s ⟨#[44]⟩:=HR2.out;go_wp2_with (go_at_call 317;refine HEXC.out.mono ?_;rintro e w2 ⟨rfl,h2,hg2⟩;have H2R:=hid h2;have HG2:=hid hg2;clear h2 hg2)
      go_meet
      have h2:r2=r.expect s ⟨#[44]⟩:=HR2.out;rw[h2];exact⟨H2R.out,HEXI.out,HG2.out⟩
     ·go_wp2
      go_meet
      have h2:r2=r:=HR2.out;rw[h2];exact⟨HR.out,HI.out,⟨rfl,rfl,rfl,Nat.le_refl _,fun _ _ _=>rfl⟩⟩
    case rest =>
     obtain⟨hr2z,hI2,hg2⟩:=hcut;obtain⟨wb,hwb⟩:∃u,u=wc:=⟨_,rfl⟩
     rw[←hwb] at hr2z hg2 ⊢;clear hwb;obtain⟨k,hk⟩:∃k,k=accd.length:=⟨_,rfl⟩
     have hbu2:=hbu.grownB hg2 (show b<N+2 by omega);have hbu3:BuiltV 25 (N+2) wb.drew v k accd:=hk▸hbu2.ext (Below.refl _ _).drew;have HP0:=hid (jR hg2 HN0.out HNB.out.1);have p1:wb.drew.heap[N+1]?=some (.cells #[.int .i64 8,.int .i64 0,.int .i64 0,.string ⟨#[]⟩,v,.slice none 0 0] 25):=(jR hg2 HN1.out HNB.out.2:wb.heap[N+1]?=some (.cells #[.int .i64 8,.int .i64 0,.int .i64 0,.string ⟨#[]⟩,v,.slice none 0 0] 25))
     have P1:Hid (wb.drew.heap[N+1]?=some (.cells #[.int .i64 8,.int .i64 0,.int .i64 0,.string ⟨#[]⟩,v,.slice none 0 0] 25)):=hid p1;have P2:Hid (IsRd wb.drew b s r2):=hid (hr2z.grown (row:=none) ⟨rfl,rfl,rfl,Nat.le_refl _,fun _ _ _=>rfl⟩ (by simp));have HGZ:=hid hg2;have HTBz:=hid ((HTBr.out.grown hg2 (.inr rfl)).grown (row:=none) ⟨rfl,rfl,rfl,Nat.le_refl _,fun _ _ _=>rfl⟩ (.inl rfl):TB wb.drew b);have HI2:=hid hI2;have HIH:=hid (fun (h':IsRd wb.drew b s r2)=>IH b s r2 (dep+1) wb.drew h' HI2.out hs HTBz.out (by omega));have hNz:N+1<wb.heap.size:=by have:=ltOf P1.out;simpa using this
     have HC:=hid (fun (w':World) (h:w'.heap[N+1]?=some (.cells #[.int .i64 8,.int .i64 0,.int .i64 0,.string ⟨#[]⟩,v,.slice none 0 0] 25))=>(show w'.cell? ⟨N+1,4,none⟩=some v from jA h 4));obtain⟨cs,hcs,hown,hel⟩:=hbu3;have hvb:=BuiltV.own ⟨cs,hcs,hown,hel⟩;have HCS:=hid hcs;have hkb:k+1≤200010:=by rw[hk,HLN.out];have:=Rd.mu_pos (s:=s) HE.out;omega
     have hcap1:k+1≤maxLen:=by unfold maxLen;omega
     have hcap2:(k+1) * 88≤140737488355328:=by omega
     have hne3:some (N+1)≠v.ownBlock:=fun e=>by have:=(hvb _ e.symm).1;omega
     have HKP:=hid (show v.ownBlock=none∨v.ownBlock≠some b by
      cases hv:v.ownBlock with
      | none=>exact .inl rfl
      | some g=>right;intro e;have:=(hvb g hv).1;cases e;omega)
     have e1:IntKind.i64.wrap (dep+1)=dep+1:=IntWalk.i64_in _ ⟨by omega,by omega⟩;have HHEL:=hid hel;have HVB:=hid hvb;have HK:=hid hk;clear hr2z hI2 hg2 hbu hbu2 p1 hcs hel hk;go_upto_region 7 with (fail)
     refine jF 8 (fun w'=>w'.heap[N+1]?=some (.cells #[.int .i64 8,.int .i64 0,.int .i64 0,.string ⟨#[]⟩,v,.slice none 0 0] 25)) (by kernel_rfl) (by kernel_rfl) (by kernel_rfl) (by decide) (P1.out) (fun hS=>?_);simp only[dm,dn,dp,dq];refine tkQ 0 (v:=?_) ?_ hS ?_;rotate_left;· intro w' hw';have hcells:=HC.out w' hw';go_simp;(try rfl)
     simp only[Act.put,pq];refine tkQ 1 (v:=?_) ?_ hS ?_;rotate_left;· intro w' hw';have hcells:=HC.out w' hw';go_simp;(try rfl)
     simp only[Act.put,pq];refine tkQ 2 (v:=?_) ?_ hS ?_;rotate_left;· intro w' hw';have hcells:=HC.out w' hw';go_simp;(try rfl)
     simp only[Act.put,pq];refine tkQ 3 (v:=?_) ?_ hS ?_;rotate_left;· intro w' hw';have hcells:=HC.out w' hw';go_simp;(try rfl)
     simp only[Act.put,pq];refine tkQ 4 (v:=?_) ?_ hS ?_;rotate_left;· intro w' hw';have hcells:=HC.out w' hw';go_simp;(try rfl)
     simp only[Act.put,pq];refine ry [5] ?_;refine arQ fun K hK=>?_;go_simp;go_at_call 213;refine(HIH.out P2.out).mono ?_;rintro e w1 ⟨c1,d1,rfl,hv1,hd1,hr1,hg1⟩;have q1:=hid (jR hg1 P1.out HNB.out.2);have hs1:=hg1.size;simp only[World.size_drew] at hs1;refine hK.out _ _ (q1.out) (fun hS=>?_);clear hK K
     (try simp only[Act.put,pq])
     refine ry [6] ?_;refine arQ fun K hK=>?_;go_simp;refine hK.out _ _ (jD _ q1.out) (fun hS=>?_);clear hK K
     (try simp only[Act.put,pq])
     refine ry [7] ?_;refine arQ fun K hK=>?_;refine step_append_lies _ (by rfl) _ _ _ (by rfl) (N+2) 25 ti _ 6 88 Tryz.underlying22 hi hz0 hz1 hz2 rfl (by omega) v k (cs.flatMap VC.cs) (by rfl) ((hown.kept hg1 HKP.out).alloc _) ⟨w1.heap.size,0,none⟩ 1 1 c1.cs (by rfl) (by rfl) (World.news_of_block (heap_alloc_new w1 _)) (by simp[VC.cs,Value.oneCell']) (by omega) hcap1 hcap2 (by simp;omega) (w1.heap.size+1) (by simp) ?_;intro gg cap w2 hown2 hgrow hat hlt2;have r1:=hid (jL hgrow (jD _ q1.out) hne3);refine hK.out _ _ (r1.out) (fun hS=>?_);clear hK K
     (try simp only[Act.put,pq])
     refine wpAnyH_done (by kernel_rfl) ?_ _
     (try dsimp only)
     have hc2:w2.cell? ⟨N+1,4,none⟩=some v:=jA r1.out 4;have hf2:w2.frozen? ⟨N+1,4,none⟩=false:=jC r1.out 4;have HWN:=hid (fun u=>(jE (o:=4) u r1.out));clear hS HC;have HOB:=hid (show some b≠v.ownBlock from fun e=>by
      rcases HKP.out with h | h
      ·rw[h] at e;cases e
      ·exact h e.symm)
     have HFIN:=hid (fun u:Value=>(show IsRd (w2.setCell ⟨N+1,4,none⟩ u) b s (rdV s f r2).2 from⟨kE _ _ (jL hgrow (jD _ hr1.at_) HOB.out) (by dsimp only;omega),hr1.ok⟩));have HF0:=hid (fun u:Value=>(show(w2.setCell ⟨N+1,4,none⟩ u).heap[N]?=some valZ from kE _ _ (jL hgrow (jD _ (jR hg1 (show wb.drew.heap[N]?=some valZ from HP0.out) HNB.out.1)) (fun e=>by have:=(HVB.out _ e.symm).1;omega)) (by dsimp only;omega)))
     have HGW:=hid (show w.grownBy (w1.alloc (.cells #[.int .i64 c1.k,.int .i64 c1.i,.int .i64 c1.s,.string c1.t,.slice c1.la c1.ll c1.lc,.slice c1.fa c1.fl c1.fc] 25)) (some b) from((HG.out.trans HGZ.out).trans ((show wb.grownBy wb.drew (some b) from⟨rfl,rfl,rfl,Nat.le_refl _,fun _ _ _=>rfl⟩).trans hg1)).trans (World.grownBy_alloc _ _ _));have HGR:=hid hgrow;have HV1:=hid hv1;have HD1:=hid hd1;have HOWN2:=hid hown2;have HAT:=hid hat
     have HG1:=hid hg1;have hsz2:N+2≤w1.heap.size:=by have:=ltOf q1.out;omega
     clear hgrow hv1 hd1 hown2 hat hg1 hr1 hcap1 hcap2;go_wp2
     go_roundw
     case rel =>
      refine⟨false,rfl,(rdV s f r2).2,acc++[(rdV s f r2).1],accd++[d1],_,F,HFIN.out _,HRND.out.1,by rw[List.length_append,List.length_append,HLN.out];rfl,?_,HQ.out.symm.trans HEQ2.out,by have:=HRND.out.2;omega,?_,HF0.out _,HWN.out _,?_,?_⟩
      ·intro hx;rw[HD1.out hx,HAC.out HE.out]
      ·have:=HRND.out.2;rw[List.length_append];simp only[List.length_cons,List.length_nil];omega
      ·refine BuiltV.set ?_ _ _ (by dsimp only;omega);have hlk:(accd++[d1]).length=k+1:=by rw[List.length_append,HK.out];rfl
       rw[hlk];refine BuiltV.push (N:=wb.drew.heap.size) HCS.out (fun j hj hj'=>?_) (by omega) ?_ (by simp only[World.size_drew];omega) (fun r e=>(HVB.out r e).2) HOWN2.out HGR.out HAT.out
       ·have hjk:j<accd.length:=by have:=HCS.out;have:=HK.out;omega
        rw[List.getElem_append_left hjk];exact(HHEL.out j hj hjk).same fun i hi=>⟨⟨hi.1,by have:=HG1.out.size;have:=hi.2.1;omega,hi.2.2⟩,HG1.out.block i hi.2.1 (by have:=hi.1;simp;omega)⟩
       ·have e2:(accd++[d1])[k]'(by omega)=d1:=by
         simp only[HK.out];exact List.getElem_concat_length rfl (by simp)
        rw[e2];exact HV1.out
      ·exact nV HGW.out (((Below.refl _ _).grown HGR.out (by simp;have:=HNN.out;omega) (fun r e=>by have:=(HVB.out r e).1;have:=HNN.out;omega)).setCell (by dsimp only;have:=HNN.out;omega) _)
     case measure =>
      rw[HMW.out,jI2 (HFIN.out _)];exact HRND.out.2
   ·have HSP:=hid (show Q=(acc,r) by rw[HQ.out,HEQ.out,mX,if_pos (.inr HQq.out.symm)]);have HEX:=hid (kZ b s r ⟨#[93]⟩ wr HR.out hs HTBr.out);have HB1:=hid (fun (w2:World) (hg:wr.grownBy w2 (some b))=>(show w2.heap[N]?=some valZ∧w2.heap[N+1]?=some (.cells #[.int .i64 8,.int .i64 0,.int .i64 0,.string ⟨#[]⟩,v,.slice none 0 0] 25) from⟨jR hg HN0.out HNB.out.1,jR hg HN1.out HNB.out.2⟩));obtain⟨al,capl,rfl,hcl,hal,hvo⟩:=hbu.shape;have HBU:=hid hbu;clear hbu
    skip
    go_upto_region 9 with (first
     | (go_at_call 317;refine HEX.out.mono ?_;rintro e w2 ⟨rfl,h2,hg2⟩;have H2R:=hid h2;have HG2:=hid hg2;clear h2 hg2)
     | (go_at_call 316;refine HIS.out.mono ?_;rintro e w2 ⟨rfl,hw2⟩;obtain rfl:=hw2.symm))
    obtain⟨m0,m1⟩:=HB1.out w2 HG2.out;have hL1:=ld6 m1;have hS1:=st6 m0 rfl (.int .i64 8) (.int .i64 0) (.int .i64 0) (.string ⟨#[]⟩) (.slice al accd.length capl) (.slice none 0 0) (by simp[Value.oneCell']);have hL2:=ld6 (setRow_heap w2 N _ #[.int .i64 8,.int .i64 0,.int .i64 0,.string ⟨#[]⟩,.slice al accd.length capl,.slice none 0 0] 25 (0,0) m0);clear m0 m1;go_wp2;refine bodyPost_ret (v:=.agg #[.int .i64 8,.int .i64 0,.int .i64 0,.string ⟨#[]⟩,.slice al accd.length capl,.slice none 0 0]) (by simp[results,Tryz.results278,go_sem,hL2]) rfl ?_
    have hbu2:=HBU.out.grownB HG2.out (show b<N+2 by omega);refine⟨⟨8,0,0,⟨#[]⟩,al,accd.length,capl,none,0,0⟩,.mk 8 0 0 ⟨#[]⟩ accd [] [],rfl,?_,?_,?_,?_⟩
    ·refine⟨⟨rfl,rfl,rfl,rfl,⟨by simp[I64],by simp[I64],by simp[I64],Nat.zero_le _,(show accd.length * 88≤140737488351232 by omega),(show 0 * 104≤140737488351232 by decide),hcl,Nat.le_refl _⟩,rfl,rfl,rfl⟩,?_,.inl rfl⟩;rcases hbu2.vals with h | ⟨g,o,h1,h2,h3⟩
     ·exact .inl h
     ·have hsame:∀i,N+2≤i∧i<w2.heap.size→(w.heap.size≤i∧i<(w2.setRow N #[.int .i64 8,.int .i64 0,.int .i64 0,.string ⟨#[]⟩,.slice al accd.length capl,.slice none 0 0]).heap.size)∧(w2.setRow N #[.int .i64 8,.int .i64 0,.int .i64 0,.string ⟨#[]⟩,.slice al accd.length capl,.slice none 0 0]).heap[i]?=w2.heap[i]?:=fun i hi=>⟨⟨by have:=HNN.out;omega,by rw[setRow_size];exact hi.2⟩,setRow_other w2 N i _ (by omega)⟩
      exact .inr ⟨g,o,h1,(hsame g h2).1,IsVals.same hsame (hsame g h2).2 h3⟩
    ·intro he;have he2:=qC he;rw[HSP.out] at he2 ⊢;rw[HAC.out he2]
    ·rw[HSP.out];exact jG H2R.out HNB.out.1
    ·exact jI (HG.out.trans HG2.out) N _ (by have:=HNN.out;omega)
  ·have HE:=hid he;have qe:(r.e==0)=false:=by simp[he]
   have HSP:=hid (show Q=(acc,r) by rw[HQ.out,HEQ.out,mX,if_pos (.inl he)]);clear he;have HEX:=hid (kZ b s r ⟨#[93]⟩ wr HR.out hs HTBr.out);have HB1:=hid (fun (w2:World) (hg:wr.grownBy w2 (some b))=>(show w2.heap[N]?=some valZ∧w2.heap[N+1]?=some (.cells #[.int .i64 8,.int .i64 0,.int .i64 0,.string ⟨#[]⟩,v,.slice none 0 0] 25) from⟨jR hg HN0.out HNB.out.1,jR hg HN1.out HNB.out.2⟩));obtain⟨al,capl,rfl,hcl,hal,hvo⟩:=hbu.shape;have HBU:=hid hbu;clear hbu
   skip
   go_upto_region 9 with (first
    | (go_at_call 317;refine HEX.out.mono ?_;rintro e w2 ⟨rfl,h2,hg2⟩;have H2R:=hid h2;have HG2:=hid hg2;clear h2 hg2)
    | (go_at_call 316;refine HIS.out.mono ?_;rintro e w2 ⟨rfl,hw2⟩;obtain rfl:=hw2.symm))
   obtain⟨m0,m1⟩:=HB1.out w2 HG2.out;have hL1:=ld6 m1;have hS1:=st6 m0 rfl (.int .i64 8) (.int .i64 0) (.int .i64 0) (.string ⟨#[]⟩) (.slice al accd.length capl) (.slice none 0 0) (by simp[Value.oneCell']);have hL2:=ld6 (setRow_heap w2 N _ #[.int .i64 8,.int .i64 0,.int .i64 0,.string ⟨#[]⟩,.slice al accd.length capl,.slice none 0 0] 25 (0,0) m0);clear m0 m1;go_wp2;refine bodyPost_ret (v:=.agg #[.int .i64 8,.int .i64 0,.int .i64 0,.string ⟨#[]⟩,.slice al accd.length capl,.slice none 0 0]) (by simp[results,Tryz.results278,go_sem,hL2]) rfl ?_
   have hbu2:=HBU.out.grownB HG2.out (show b<N+2 by omega);refine⟨⟨8,0,0,⟨#[]⟩,al,accd.length,capl,none,0,0⟩,.mk 8 0 0 ⟨#[]⟩ accd [] [],rfl,?_,?_,?_,?_⟩
   ·refine⟨⟨rfl,rfl,rfl,rfl,⟨by simp[I64],by simp[I64],by simp[I64],Nat.zero_le _,(show accd.length * 88≤140737488351232 by omega),(show 0 * 104≤140737488351232 by decide),hcl,Nat.le_refl _⟩,rfl,rfl,rfl⟩,?_,.inl rfl⟩;rcases hbu2.vals with h | ⟨g,o,h1,h2,h3⟩
    ·exact .inl h
    ·have hsame:∀i,N+2≤i∧i<w2.heap.size→(w.heap.size≤i∧i<(w2.setRow N #[.int .i64 8,.int .i64 0,.int .i64 0,.string ⟨#[]⟩,.slice al accd.length capl,.slice none 0 0]).heap.size)∧(w2.setRow N #[.int .i64 8,.int .i64 0,.int .i64 0,.string ⟨#[]⟩,.slice al accd.length capl,.slice none 0 0]).heap[i]?=w2.heap[i]?:=fun i hi=>⟨⟨by have:=HNN.out;omega,by rw[setRow_size];exact hi.2⟩,setRow_other w2 N i _ (by omega)⟩
     exact .inr ⟨g,o,h1,(hsame g h2).1,IsVals.same hsame (hsame g h2).2 h3⟩
   ·intro he;have he2:=qC he;rw[HSP.out] at he2 ⊢;rw[HAC.out he2]
   ·rw[HSP.out];exact jG H2R.out HNB.out.1
   ·exact jI (HG.out.trans HG2.out) N _ (by have:=HNN.out;omega)
end
end
section
open Go Go.RowKit Go.Shelf
def namF (s:ByteArray) (f:Nat) (r r1:Rd):Val × Rd :=
 if r1.e≠0 then (nulV,r1)
 else if r1.is ⟨#[40]⟩ then (if jN r.t=false then (nulV,r1.fail r.p 12) else let q:=rdV s f (r1.adv s);(.mk 10 0 0 r.t [q.1] [] [],q.2.expect s ⟨#[41]⟩))
 else if r.t=⟨#[116,114,117,101]⟩ then (.mk 1 1 0 ⟨#[]⟩ [] [] [],r1)
 else if r.t=⟨#[102,97,108,115,101]⟩ then (.mk 1 0 0 ⟨#[]⟩ [] [] [],r1)
 else if r.t=⟨#[100,97,116,101]⟩ then let q:=r1.moment s calP;(.mk 6 q.1 0 ⟨#[]⟩ [] [] [],q.2)
 else if r.t=⟨#[116,105,109,101]⟩ then let q:=r1.moment s calT;(.mk 7 q.1 0 ⟨#[]⟩ [] [] [],q.2)
 else if r.t=⟨#[110,117,108,108]⟩∧f=7 then (nulV,r1)
 else (nulV,r1.fail r.p 13)
theorem mB {S:Nat→Prop} {w:World} (k v:Int) (hk:I64 k) (hv:I64 v):IsVal S w ⟨k,v,0,⟨#[]⟩,none,0,0,none,0,0⟩ (.mk k v 0 ⟨#[]⟩ [] [] []) :=
 ⟨⟨rfl,rfl,rfl,rfl,⟨hk,hv,by simp[I64],Nat.zero_le _,(show 0 * 88≤140737488351232 by decide),(show 0 * 104≤140737488351232 by decide),Nat.le_refl _,Nat.le_refl _⟩,rfl,rfl,rfl⟩,.inl rfl,.inl rfl⟩
theorem jHp (a:ByteArray) (l:List UInt8):(a.toList==l)=decide (a=⟨l.toArray⟩):=by
 rw[ByteArray.toList_eq,Bool.eq_iff_iff,beq_iff_eq,decide_eq_true_eq];exact⟨fun h=>ByteArray.ext (Array.ext' h),fun h=>by rw[h]⟩
theorem jCh (s:ByteArray) (r:Rd) (f:List UInt8→Int × Int) (h:∀l,I64 (f l).1):I64 (r.moment s f).1:=by
 unfold Rd.moment;dsimp only;split
 ·simp[I64]
 ·exact h _
theorem jFv (y m d:Nat) : -719162≤(mY y m d).1∧(mY y m d).1≤2932896:=by
 by_cases h:(mY y m d).2=0
 ·exact jIk h
 ·unfold mY at h ⊢;split
  ·simp
  ·rename_i hn;rw[if_neg hn] at h;simp at h
theorem calP_i64 (l:List UInt8):I64 (calP l).1:=by
 unfold calP;split
 ·rename_i y m d _;have:=jFv y m d;unfold I64;omega
 ·simp[I64]
theorem numD_lt {k:Nat} {l:List UInt8} {v:Nat} {r:List UInt8} (h:numD k 0 l=some (v,r)):v<10 ^ k:=by have:=(jB3 k 0 l v r h).2;simpa using this
theorem frac_bd {r:List UInt8} {z:Nat} {rr:List UInt8} (h:jKc r=some (z,rr)):z≤999:=by
 unfold jKc at h;split at h
 ·split at h
  ·rename_i n r' hn;split at h
   ·cases h
   ·cases h
    have:=numD_lt hn;omega
  ·cases h
 ·cases h;omega
theorem calT_i64 (l:List UInt8):I64 (calT l).1:=by
 cases h:kK [([],4),([45],2),([45],2),([84],2),([58],2),([58],2)] l with
 | none=>rw[jIo h];simp[I64]
 | some q =>
   obtain⟨ns,r⟩:=q;obtain⟨hl,h9,_⟩:=jAi _ _ _ _ (by decide) h;obtain⟨y,m,d,hh,i,s6,rfl⟩:=six_of hl;rw[jIn h];have h1:=h9 hh (by simp);have h2:=h9 i (by simp);have h3:=h9 s6 (by simp);have h4:=jFv y m d;cases hf:jKc r with
   | none=>simp[I64]
   | some p =>
     have h5:=frac_bd hf;dsimp only;split
     ·simp[I64]
     split
     ·simp[I64]
     ·unfold I64;dsimp only;omega
section
attribute [-go_sem] loadCellsFrom storeCells
attribute [local go_sem] lcf0 lcf1 lcf2 lcf3 lcf4 lcf5 stc0 stc1
theorem jK1 (f:Nat) (IH:ValIH f) (b:Nat) (s:ByteArray) (tk r1:Rd) (dep:Int) (w:World) (h:IsRd w b s r1) (hI:RdI s r1) (htk:tk.Fit s) (hs:s.size≤100000) (hTB:TB w b) (hdep:dep+1+f=8) (hd0:0≤dep) :
 Calls Tryz.prog 280 #[.pointer (some ⟨b,0,none⟩),tokV tk,.int .i64 dep] w (jBj w b s (namF s f tk r1)):=by
 obtain⟨T,hT⟩:∃T,T=w.heap.size:=⟨_,rfl⟩
 obtain⟨N,hN⟩:∃N,N=w.heap.size+1:=⟨_,rfl⟩
 have hbl:=h.lt;obtain⟨Q,hQ⟩:∃Q,Q=namF s f tk r1:=⟨_,rfl⟩
 rw[←hQ];have HQ:=hid hQ;obtain⟨w0,hw0⟩:∃w0,w0=(w.alloc (tokO tk)).alloc valZ:=⟨_,rfl⟩
 have hr0:IsRd w0 b s r1:=by rw[hw0];exact(h.alloc _).alloc _
 have hg0:w.grownBy w0 (some b):=by rw[hw0];exact(World.grownBy_alloc _ _ _).trans (World.grownBy_alloc _ _ _)
 have hz0:w0.heap[N]?=some valZ:=by rw[hw0,hN,←World.size_alloc w (tokO tk)];exact heap_alloc_new (w.alloc (tokO tk)) _
 have ht0:w0.heap[T]?=some (tokO tk):=by rw[hw0,hT];exact jD _ (heap_alloc_new w _)
 have HR:=hid hr0;have HG:=hid hg0;have HNZ:=hid hz0;have HTZ:=hid ht0;have HNB:=hid (show N≠b∧T≠b∧w.heap.size≤N∧w.heap.size≤T∧b<N∧b<T∧N<w0.heap.size∧T≠N by have:=ltOf hz0;omega);have HTB:=hid (hTB.grown hg0 (.inr rfl));have HI:=hid hI;have HTT:=hid (show tk.t.size≤100000 by have:=htk.t;omega);have HT:=hid hT;have HN:=hid hN;have HW:=hid hw0;have HIS:=hid (jDe b s r1 ⟨#[40]⟩ w0 hr0);have hce:w0.cell? ⟨b,10,none⟩=some (.int .i64 r1.e):=jA hr0.at_ 10;have hct:w0.cell? ⟨T,2,none⟩=some (.string tk.t):=jA ht0 2;have hcp:w0.cell? ⟨T,1,none⟩=some (.int .i64 (tk.p:Int)):=jA ht0 1
 obtain⟨q,hq⟩:∃q:Bool,q=r1.is ⟨#[40]⟩:=⟨_,rfl⟩
 rw[←hq] at HIS;have HQq:=hid hq
 -- a value is stored into the result and returned
 have HST:=hid (fun (w2:World) (x0 x1 x2 x3 x4 x5:Value) (h1:∀v∈[x0,x1,x2,x3,x4,x5],v.oneCell'=true) (hz:w2.heap[N]?=some valZ) =>
  (show(storeCells ⟨N,0,none⟩ [x0,x1,x2,x3,x4,x5] 0).run Tryz.prog w2=.ok () (w2.setRow N #[x0,x1,x2,x3,x4,x5])∧(loadCellsFrom ⟨N,0,none⟩ 0 6 #[]).run Tryz.prog (w2.setRow N #[x0,x1,x2,x3,x4,x5])=.ok #[x0,x1,x2,x3,x4,x5] (w2.setRow N #[x0,x1,x2,x3,x4,x5]) from
    ⟨st6 hz rfl x0 x1 x2 x3 x4 x5 h1,ld6 (setRow_heap w2 N _ #[x0,x1,x2,x3,x4,x5] 25 (0,0) hz)⟩))
 clear h hI htk hTB hQ hr0 hg0 hz0 ht0 hq hw0 hT hN;go_enter Tryz.func280,Tryz.ntmps280
 go_upto_region 1 with (fail)
 dsimp only[tokO,tokA] at HW;rw[←HW.out];rw[show w.heap.size+1=N from HN.out.symm,show w.heap.size=T from HT.out.symm];by_cases he:r1.e=0
 ·have HE:=hid he;have qe:(r1.e==0)=true:=by simp[he]
  have qe':(r1.e != 0)=false:=by simp[he]
  clear he;cases q
  ·obtain⟨b1,hb1⟩:∃b1,(tk.t.toList==[116,114,117,101])=b1:=⟨_,rfl⟩
   obtain⟨b2,hb2⟩:∃b2,(tk.t.toList==[102,97,108,115,101])=b2:=⟨_,rfl⟩
   obtain⟨b3,hb3⟩:∃b3,(tk.t.toList==[100,97,116,101])=b3:=⟨_,rfl⟩
   obtain⟨b4,hb4⟩:∃b4,(tk.t.toList==[116,105,109,101])=b4:=⟨_,rfl⟩
   obtain⟨b5,hb5⟩:∃b5,(tk.t.toList==[110,117,108,108])=b5:=⟨_,rfl⟩
   have HB1:=hid ((jHp tk.t [116,114,117,101]).symm.trans hb1);have HB2:=hid ((jHp tk.t [102,97,108,115,101]).symm.trans hb2);have HB3_:=hid ((jHp tk.t [100,97,116,101]).symm.trans hb3);have HB4:=hid ((jHp tk.t [116,105,109,101]).symm.trans hb4);have HB5:=hid ((jHp tk.t [110,117,108,108]).symm.trans hb5);cases b1
   ·cases b2
    ·cases b3
     ·cases b4
      ·by_cases hnl:b5=true∧dep=0
       ·obtain⟨rfl,hdz⟩:=hnl;have HF7:=hid (show f=7 by omega);have qd:(dep==0)=true:=by simp[hdz]
        clear hdz;go_upto_region 18 with (go_at_call 316;refine HIS.out.mono ?_;rintro e w2 ⟨rfl,hw2⟩;obtain rfl:=hw2.symm)
        obtain⟨hS1,hL2⟩:=HST.out w0 (.int .i64 0) (.int .i64 0) (.int .i64 0) (.string ⟨#[]⟩) (.slice none 0 0) (.slice none 0 0) (by simp[Value.oneCell']) HNZ.out;go_wp2;refine bodyPost_ret (v:=.agg #[.int .i64 0,.int .i64 0,.int .i64 0,.string ⟨#[]⟩,.slice none 0 0,.slice none 0 0]) (by simp[results,Tryz.results280,go_sem,hL2]) rfl ?_
        have HSP:=hid (show Q=(nulV,r1) by rw[HQ.out,namF,if_neg (by simp[HE.out]),if_neg (by rw[←HQq.out];decide),if_neg (of_decide_eq_false HB1.out),if_neg (of_decide_eq_false HB2.out),if_neg (of_decide_eq_false HB3_.out),if_neg (of_decide_eq_false HB4.out),if_pos ⟨of_decide_eq_true HB5.out,HF7.out⟩]);rw[HSP.out];exact⟨⟨0,0,0,⟨#[]⟩,none,0,0,none,0,0⟩,nulV,rfl,mB 0 0 (by simp[I64]) (by simp[I64]),fun _=>rfl,jG (HR.out) HNB.out.1,jI (HG.out) N _ HNB.out.2.2.1⟩
       ·have HNL:=hid (show ¬ (tk.t=⟨#[110,117,108,108]⟩∧f=7) from fun h=>hnl ⟨by rw[←HB5.out];exact decide_eq_true h.1,by omega⟩);have HFL:=hid (jP b s r1 tk.p 13 w0 HR.out);have HSPF:=hid (show Q=(nulV,r1.fail tk.p 13) by rw[HQ.out,namF,if_neg (by simp[HE.out]),if_neg (by rw[←HQq.out];decide),if_neg (of_decide_eq_false HB1.out),if_neg (of_decide_eq_false HB2.out),if_neg (of_decide_eq_false HB3_.out),if_neg (of_decide_eq_false HB4.out),if_neg HNL.out]);cases b5
        ·go_upto_region 20 with (first
          | (go_at_call 316;refine HIS.out.mono ?_;rintro e w2 ⟨rfl,hw2⟩;obtain rfl:=hw2.symm)
          | (go_at_call 274;refine HFL.out.mono ?_;rintro e w2 ⟨rfl,h2,hg2⟩;have H2R:=hid h2;have HG2:=hid hg2;have HZ2:=hid (jR hg2 HNZ.out HNB.out.1);clear h2 hg2))
         obtain⟨hS1,hL2⟩:=HST.out w2 (.int .i64 0) (.int .i64 0) (.int .i64 0) (.string ⟨#[]⟩) (.slice none 0 0) (.slice none 0 0) (by simp[Value.oneCell']) HZ2.out;go_wp2;refine bodyPost_ret (v:=.agg #[.int .i64 0,.int .i64 0,.int .i64 0,.string ⟨#[]⟩,.slice none 0 0,.slice none 0 0]) (by simp[results,Tryz.results280,go_sem,hL2]) rfl ?_;have HSP:=hid (HSPF.out);rw[HSP.out];exact⟨⟨0,0,0,⟨#[]⟩,none,0,0,none,0,0⟩,nulV,rfl,mB 0 0 (by simp[I64]) (by simp[I64]),fun _=>rfl,jG (H2R.out) HNB.out.1,jI (HG.out.trans HG2.out) N _ HNB.out.2.2.1⟩
        ·have qd:(dep==0)=false:=by
          rw[beq_eq_false_iff_ne];intro e;exact hnl ⟨rfl,e⟩
         clear hnl;go_upto_region 20 with (first
          | (go_at_call 316;refine HIS.out.mono ?_;rintro e w2 ⟨rfl,hw2⟩;obtain rfl:=hw2.symm)
          | (go_at_call 274;refine HFL.out.mono ?_;rintro e w2 ⟨rfl,h2,hg2⟩;have H2R:=hid h2;have HG2:=hid hg2;have HZ2:=hid (jR hg2 HNZ.out HNB.out.1);clear h2 hg2))
         obtain⟨hS1,hL2⟩:=HST.out w2 (.int .i64 0) (.int .i64 0) (.int .i64 0) (.string ⟨#[]⟩) (.slice none 0 0) (.slice none 0 0) (by simp[Value.oneCell']) HZ2.out;go_wp2;refine bodyPost_ret (v:=.agg #[.int .i64 0,.int .i64 0,.int .i64 0,.string ⟨#[]⟩,.slice none 0 0,.slice none 0 0]) (by simp[results,Tryz.results280,go_sem,hL2]) rfl ?_;have HSP:=hid (HSPF.out);rw[HSP.out];exact⟨⟨0,0,0,⟨#[]⟩,none,0,0,none,0,0⟩,nulV,rfl,mB 0 0 (by simp[I64]) (by simp[I64]),fun _=>rfl,jG (H2R.out) HNB.out.1,jI (HG.out.trans HG2.out) N _ HNB.out.2.2.1⟩
      ·have HMO:=hid (jGu b s r1 w0 HR.out HI.out.fit hs HTB.out);obtain⟨m,hm⟩:∃m,m=(r1.moment s calT).1:=⟨_,rfl⟩
       obtain⟨rm,hrm⟩:∃rm,rm=(r1.moment s calT).2:=⟨_,rfl⟩
       rw[←hm,←hrm] at HMO;have HMM:=hid (show r1.moment s calT=(m,rm) by rw[hm,hrm]);have HMI:=hid (show I64 m by rw[hm];exact jCh s r1 calT calT_i64);clear hm hrm;go_wp2_with (first
        | (go_at_call 316;refine HIS.out.mono ?_;rintro e w2 ⟨rfl,hw2⟩;obtain rfl:=hw2.symm)
        | (go_at_call 326;refine(jGx m w2).mono ?_;rintro e w3 ⟨rfl,hb3⟩;have HB3:=hid hb3;obtain⟨hS1,hL2⟩:=HST.out w3 (.int .i64 7) (.int .i64 m) (.int .i64 0) (.string ⟨#[]⟩) (.slice none 0 0) (.slice none 0 0) (by simp[Value.oneCell']) (jB hb3 HZ2.out);clear hb3)
        | (go_at_call 324;refine HMO.out.mono ?_;rintro e w2 ⟨rfl,h2,hg2⟩;have H2R:=hid h2;have HG2:=hid hg2;have HZ2:=hid (jR hg2 HNZ.out HNB.out.1);clear h2 hg2))
       refine bodyPost_ret (v:=.agg #[.int .i64 7,.int .i64 m,.int .i64 0,.string ⟨#[]⟩,.slice none 0 0,.slice none 0 0]) (by simp[results,Tryz.results280,go_sem,hL2]) rfl ?_;have HSP:=hid (show Q=(.mk 7 m 0 ⟨#[]⟩ [] [] [],rm) by rw[HQ.out,namF,if_neg (by simp[HE.out]),if_neg (by rw[←HQq.out];decide),if_neg (of_decide_eq_false HB1.out),if_neg (of_decide_eq_false HB2.out),if_neg (of_decide_eq_false HB3_.out),if_pos (of_decide_eq_true HB4.out)];dsimp only;rw[HMM.out]);rw[HSP.out]
       exact⟨⟨7,m,0,⟨#[]⟩,none,0,0,none,0,0⟩,_,rfl,mB 7 m (by simp[I64]) HMI.out,fun _=>rfl,jG (jV H2R.out HB3.out (by have:=ltOf H2R.out.at_;exact this)) HNB.out.1,jI ((HG.out.trans HG2.out).trans (jJ HB3.out (some b))) N _ HNB.out.2.2.1⟩
     ·have HMO:=hid (jGv b s r1 w0 HR.out HI.out.fit hs HTB.out);obtain⟨m,hm⟩:∃m,m=(r1.moment s calP).1:=⟨_,rfl⟩
      obtain⟨rm,hrm⟩:∃rm,rm=(r1.moment s calP).2:=⟨_,rfl⟩
      rw[←hm,←hrm] at HMO;have HMM:=hid (show r1.moment s calP=(m,rm) by rw[hm,hrm]);have HMI:=hid (show I64 m by rw[hm];exact jCh s r1 calP calP_i64);clear hm hrm;go_wp2_with (first
       | (go_at_call 316;refine HIS.out.mono ?_;rintro e w2 ⟨rfl,hw2⟩;obtain rfl:=hw2.symm)
       | (go_at_call 323;refine(jGz m w2).mono ?_;rintro e w3 ⟨rfl,hb3⟩;have HB3:=hid hb3;obtain⟨hS1,hL2⟩:=HST.out w3 (.int .i64 6) (.int .i64 m) (.int .i64 0) (.string ⟨#[]⟩) (.slice none 0 0) (.slice none 0 0) (by simp[Value.oneCell']) (jB hb3 HZ2.out);clear hb3)
       | (go_at_call 324;refine HMO.out.mono ?_;rintro e w2 ⟨rfl,h2,hg2⟩;have H2R:=hid h2;have HG2:=hid hg2;have HZ2:=hid (jR hg2 HNZ.out HNB.out.1);clear h2 hg2))
      refine bodyPost_ret (v:=.agg #[.int .i64 6,.int .i64 m,.int .i64 0,.string ⟨#[]⟩,.slice none 0 0,.slice none 0 0]) (by simp[results,Tryz.results280,go_sem,hL2]) rfl ?_;have HSP:=hid (show Q=(.mk 6 m 0 ⟨#[]⟩ [] [] [],rm) by rw[HQ.out,namF,if_neg (by simp[HE.out]),if_neg (by rw[←HQq.out];decide),if_neg (of_decide_eq_false HB1.out),if_neg (of_decide_eq_false HB2.out),if_pos (of_decide_eq_true HB3_.out)];dsimp only;rw[HMM.out]);rw[HSP.out]
      exact⟨⟨6,m,0,⟨#[]⟩,none,0,0,none,0,0⟩,_,rfl,mB 6 m (by simp[I64]) HMI.out,fun _=>rfl,jG (jV H2R.out HB3.out (by have:=ltOf H2R.out.at_;exact this)) HNB.out.1,jI ((HG.out.trans HG2.out).trans (jJ HB3.out (some b))) N _ HNB.out.2.2.1⟩
    ·go_wp2_with (first
      | (go_at_call 316;refine HIS.out.mono ?_;rintro e w2 ⟨rfl,hw2⟩;obtain rfl:=hw2.symm)
      | (go_at_call 322;refine(jF5 w0).mono ?_;rintro e w3 ⟨rfl,hb3⟩;have HB3:=hid hb3;obtain⟨hS1,hL2⟩:=HST.out w3 (.int .i64 1) (.int .i64 0) (.int .i64 0) (.string ⟨#[]⟩) (.slice none 0 0) (.slice none 0 0) (by simp[Value.oneCell']) (jB hb3 HNZ.out);clear hb3))
     refine bodyPost_ret (v:=.agg #[.int .i64 1,.int .i64 0,.int .i64 0,.string ⟨#[]⟩,.slice none 0 0,.slice none 0 0]) (by simp[results,Tryz.results280,go_sem,hL2]) rfl ?_;have HSP:=hid (show Q=(.mk 1 0 0 ⟨#[]⟩ [] [] [],r1) by rw[HQ.out,namF,if_neg (by simp[HE.out]),if_neg (by rw[←HQq.out];decide),if_neg (of_decide_eq_false HB1.out),if_pos (of_decide_eq_true HB2.out)]);rw[HSP.out];exact⟨⟨1,0,0,⟨#[]⟩,none,0,0,none,0,0⟩,_,rfl,mB 1 0 (by simp[I64]) (by simp[I64]),fun _=>rfl,jG (jV HR.out HB3.out (by have:=HNB.out;omega)) HNB.out.1,jI (HG.out.trans (jJ HB3.out (some b))) N _ HNB.out.2.2.1⟩
   ·go_wp2_with (first
     | (go_at_call 316;refine HIS.out.mono ?_;rintro e w2 ⟨rfl,hw2⟩;obtain rfl:=hw2.symm)
     | (go_at_call 322;refine(jGw w0).mono ?_;rintro e w3 ⟨rfl,hb3⟩;have HB3:=hid hb3;obtain⟨hS1,hL2⟩:=HST.out w3 (.int .i64 1) (.int .i64 1) (.int .i64 0) (.string ⟨#[]⟩) (.slice none 0 0) (.slice none 0 0) (by simp[Value.oneCell']) (jB hb3 HNZ.out);clear hb3))
    refine bodyPost_ret (v:=.agg #[.int .i64 1,.int .i64 1,.int .i64 0,.string ⟨#[]⟩,.slice none 0 0,.slice none 0 0]) (by simp[results,Tryz.results280,go_sem,hL2]) rfl ?_;have HSP:=hid (show Q=(.mk 1 1 0 ⟨#[]⟩ [] [] [],r1) by rw[HQ.out,namF,if_neg (by simp[HE.out]),if_neg (by rw[←HQq.out];decide),if_pos (of_decide_eq_true HB1.out)]);rw[HSP.out];exact⟨⟨1,1,0,⟨#[]⟩,none,0,0,none,0,0⟩,_,rfl,mB 1 1 (by simp[I64]) (by simp[I64]),fun _=>rfl,jG (jV HR.out HB3.out (by have:=HNB.out;omega)) HNB.out.1,jI (HG.out.trans (jJ HB3.out (some b))) N _ HNB.out.2.2.1⟩
  ·have HQT:=hid HQq.out.symm;obtain⟨nb,hnb⟩:∃nb,nb=jN tk.t:=⟨_,rfl⟩
   have HIN:=hid (fun w'=>mV tk.t w' (by have:=HTT.out;omega));rw[←hnb] at HIN;have HNBm:=hid hnb;clear hnb;cases nb
   ·have HFL:=hid (fun (w':World) (h':IsRd w' b s r1)=>jP b s r1 tk.p 12 w' h');have HSPF:=hid (show Q=(nulV,r1.fail tk.p 12) by rw[HQ.out,namF,if_neg (by simp[HE.out]),if_pos HQT.out,if_pos HNBm.out.symm]);go_upto_region 5 with (first
     | (go_at_call 316;refine HIS.out.mono ?_;rintro e w2 ⟨rfl,hw2⟩;obtain rfl:=hw2.symm)
     | (go_at_call 236;refine(HIN.out _).mono ?_;rintro e w2 ⟨rfl,hb2⟩;have HB2:=hid hb2;clear hb2))
    have HR2:=hid (jV HR.out HB2.out (by have:=HNB.out;omega));have HG2:=hid (HG.out.trans (jJ HB2.out (some b)));have HZ2:=hid (jB HB2.out HNZ.out);have hcp2:w2.cell? ⟨T,1,none⟩=some (.int .i64 (tk.p:Int)):=jA (jB HB2.out HTZ.out) 1;go_upto_region 6 with (go_at_call 274;refine(HFL.out w2 HR2.out).mono ?_;rintro e w3 ⟨rfl,h3,hg3⟩;have H3R:=hid h3;have HG3:=hid hg3;have HZ3:=hid (jR hg3 HZ2.out HNB.out.1);clear h3 hg3)
    obtain⟨hS1,hL2⟩:=HST.out w3 (.int .i64 0) (.int .i64 0) (.int .i64 0) (.string ⟨#[]⟩) (.slice none 0 0) (.slice none 0 0) (by simp[Value.oneCell']) HZ3.out;go_wp2;refine bodyPost_ret (v:=.agg #[.int .i64 0,.int .i64 0,.int .i64 0,.string ⟨#[]⟩,.slice none 0 0,.slice none 0 0]) (by simp[results,Tryz.results280,go_sem,hL2]) rfl ?_;have HSP:=hid (HSPF.out);rw[HSP.out];exact⟨⟨0,0,0,⟨#[]⟩,none,0,0,none,0,0⟩,nulV,rfl,mB 0 0 (by simp[I64]) (by simp[I64]),fun _=>rfl,jG (H3R.out) HNB.out.1,jI (HG2.out.trans HG3.out) N _ HNB.out.2.2.1⟩
   ·obtain⟨ra,hra⟩:∃ra,ra=r1.adv s:=⟨_,rfl⟩
    obtain⟨q2,hq2⟩:∃q2,q2=rdV s f ra:=⟨_,rfl⟩
    have HSP:=hid (show Q=(.mk 10 0 0 tk.t [q2.1] [] [],q2.2.expect s ⟨#[41]⟩) by rw[HQ.out,namF,if_neg (by simp[HE.out]),if_pos HQT.out,if_neg (by rw[←HNBm.out];decide),hq2,hra]);have HAI:=hid (show RdI s ra by rw[hra];exact xP HI.out);have HVI:=hid (show RdI s q2.2 by rw[hq2];exact(jHy s f ra HAI.out).1);have HIH:=hid (fun (w':World) (h1:IsRd w' b s ra) (h2:TB w' b)=>(show Calls Tryz.prog 213 #[.pointer (some ⟨b,0,none⟩),.int .i64 (dep+1)] w' (jBj w' b s q2) from hq2▸IH b s ra (dep+1) w' h1 HAI.out hs h2 (by omega)))
    have HEX:=hid (fun (w':World) (h1:IsRd w' b s q2.2) (h2:TB w' b)=>kZ b s q2.2 ⟨#[41]⟩ w' h1 hs h2);have e1:IntKind.i64.wrap (dep+1)=dep+1:=IntWalk.i64_in _ ⟨by omega,by omega⟩;clear hq2;go_upto_region 7 with (first
     | (go_at_call 316;refine HIS.out.mono ?_;rintro e w2 ⟨rfl,hw2⟩;obtain rfl:=hw2.symm)
     | (go_at_call 236;refine(HIN.out _).mono ?_;rintro e w2 ⟨rfl,hb2⟩;have HB2:=hid hb2;clear hb2))
    have HR2:=hid (jV HR.out HB2.out (by have:=HNB.out;omega));have HG2:=hid (HG.out.trans (jJ HB2.out (some b)));have HTB2:=hid (HTB.out.below HB2.out);have HZ2:=hid (jB HB2.out HNZ.out);have HT2:=hid (jB HB2.out HTZ.out);have HAD:=hid (yV b s r1 w2 HR2.out hs HTB2.out);rw[←hra] at HAD;clear hra;go_upto_region 8 with (go_at_call 275;refine HAD.out.mono ?_;rintro e w3 ⟨rfl,h3,hg3⟩;have H3R:=hid h3;have HG3:=hid (HG2.out.trans hg3);have HZ3:=hid (jR hg3 HZ2.out HNB.out.1);have HT3:=hid (jR hg3 HT2.out HNB.out.2.1);have HTB3:=hid (HTB2.out.grown hg3 (.inr rfl));clear h3 hg3)
    have HSN:=hid (fun (w4:World) (c1:VC)=>jHu w4 #[.int .i64 0,.int .i64 0,.int .i64 0,.string ⟨#[]⟩,.slice none 0 0,.slice none 0 0] rfl (.int .i64 c1.k) (.int .i64 c1.i) (.int .i64 c1.s) (.string c1.t) (.slice c1.la c1.ll c1.lc) (.slice c1.fa c1.fl c1.fc) (by simp[Value.oneCell']))
    go_upto_region 9 with (go_at_call 213;refine(HIH.out w3 H3R.out HTB3.out).mono ?_;rintro e w4 ⟨c1,d1,rfl,hv4,hd4,hr4,hg4⟩;have H4R:=hid hr4;have HV4:=hid hv4;have HD4:=hid hd4;have HG4:=hid (HG3.out.trans hg4);have HZ4:=hid (jR hg4 HZ3.out HNB.out.1);have HT4:=hid (jR hg4 HT3.out HNB.out.2.1);have HTB4:=hid (HTB3.out.grown hg4 (.inr rfl));have HS4:=hid hg4.size;have hsn:=HSN.out w4 c1;clear hv4 hd4 hr4 hg4)
    clear hsn;obtain⟨M,hM⟩:∃M,M=w4.heap.size:=⟨_,rfl⟩
    obtain⟨w5,hw5⟩:∃w5,w5=w4.alloc (vObj c1):=⟨_,rfl⟩
    have HR5:=hid (show IsRd w5 b s q2.2 by rw[hw5];exact H4R.out.alloc _);have HG5:=hid (show w.grownBy w5 (some b) by rw[hw5];exact HG4.out.trans (World.grownBy_alloc _ _ _));have HZ5:=hid (show w5.heap[N]?=some valZ by rw[hw5];exact jD _ HZ4.out);have HT5:=hid (show w5.heap[T]?=some (tokO tk) by rw[hw5];exact jD _ HT4.out);have HM5:=hid (show w5.heap[M]?=some (vObj c1) by rw[hw5,hM];exact heap_alloc_new w4 _);have HTB5:=hid (show TB w5 b by rw[hw5];exact HTB4.out.grown (World.grownBy_alloc w4 (vObj c1) none) (.inl rfl))
    have HV5:=hid (show IsVal (fun i=>w3.heap.size≤i∧i<w4.heap.size) w5 c1 d1 by rw[hw5];exact HV4.out.same fun i hi=>⟨hi,Below.heap_alloc _ _ _ hi.2⟩);have HS5:=hid (show w4.heap.size<w5.heap.size∧M≠b∧b<w3.heap.size by
     refine⟨by rw[hw5,World.size_alloc];exact Nat.lt_succ_self _,?_,H3R.out.lt⟩;have:=H4R.out.lt;omega)
    dsimp only[vObj] at hw5;rw[←hw5,←hM];have HMm:=hid hM;clear hw5 hM;go_upto_region 10 with (go_at_call 317;refine(HEX.out w5 HR5.out HTB5.out).mono ?_;rintro e w6 ⟨rfl,h6,hg6⟩;have H6R:=hid h6;have HG6:=hid hg6;clear h6 hg6)
    have HZ6:=hid (jR HG6.out HZ5.out HNB.out.1);have hct6:w6.cell? ⟨T,2,none⟩=some (.string tk.t):=jA (jR HG6.out HT5.out HNB.out.2.1) 2;have hl6:=ld6 (jR HG6.out HM5.out HS5.out.2.1);have hv6:IsVal (· < w6.heap.size) w6 c1 d1:=HV5.out.same fun i hi=>⟨by have:=HG6.out.size;have:=HS5.out.1;omega,HG6.out.block i (by have:=HS5.out.1;omega) (by have:=hi.1;have:=HS5.out.2.2;simp;omega)⟩
    have HMV:=hid (jBv tk.t (by have:=HTT.out;omega) c1 d1 w6 hv6);clear hv6;dsimp only[VC.v] at HMV;go_wp2_with (go_at_call 321;refine HMV.out.mono ?_;rintro e w7 ⟨⟨c2,rfl,hv7⟩,hb7⟩;have HV7:=hid hv7;have HB7:=hid hb7;obtain⟨hS1,hL2⟩:=HST.out w7 (.int .i64 c2.k) (.int .i64 c2.i) (.int .i64 c2.s) (.string c2.t) (.slice c2.la c2.ll c2.lc) (.slice c2.fa c2.fl c2.fc) (by simp[Value.oneCell']) (jB hb7 HZ6.out);clear hv7 hb7)
    refine bodyPost_ret (v:=c2.v) (by simp[results,Tryz.results280,go_sem,hL2]) rfl ?_;rw[HSP.out];refine⟨c2,.mk 10 0 0 tk.t [d1] [] [],rfl,?_,?_,jG (jV H6R.out HB7.out H6R.out.lt) HNB.out.1,jI ((HG5.out.trans HG6.out).trans (jJ HB7.out (some b))) N _ HNB.out.2.2.1⟩
    ·have hss:=HG6.out.size;have hs5:=HS5.out.1;have hs4:=HS4.out;have hg3s:=HG3.out.size;have hnn:=ltOf HZ6.out;exact HV7.out.same fun i hi=>⟨⟨by omega,by rw[setRow_size];exact hi.2⟩,setRow_other w7 N i _ (by omega)⟩
    ·intro hx;rw[HD4.out (qC hx)]
 ·have qe:(r1.e==0)=false:=by simp[he]
  have qe':(r1.e != 0)=true:=by simp[he]
  have HE:=hid he;clear he;obtain⟨hS1,hL2⟩:=HST.out w0 (.int .i64 0) (.int .i64 0) (.int .i64 0) (.string ⟨#[]⟩) (.slice none 0 0) (.slice none 0 0) (by simp[Value.oneCell']) HNZ.out;go_wp2;refine bodyPost_ret (v:=.agg #[.int .i64 0,.int .i64 0,.int .i64 0,.string ⟨#[]⟩,.slice none 0 0,.slice none 0 0]) (by simp[results,Tryz.results280,go_sem,hL2]) rfl ?_;have HSP:=hid (show Q=(nulV,r1) by rw[HQ.out,namF,if_pos HE.out]);rw[HSP.out];exact⟨⟨0,0,0,⟨#[]⟩,none,0,0,none,0,0⟩,nulV,rfl,mB 0 0 (by simp[I64]) (by simp[I64]),fun _=>rfl,jG (HR.out) HNB.out.1,jI (HG.out) N _ HNB.out.2.2.1⟩
end
end
end Go.Proofs.YtaofolgaiipcjaaGreatDoor
