/- A part. -/
import Derived.Test.YtmgpghoamapfgaaGreatDoorST24Mrg
namespace Go.Proofs.YtmgpghoamapfgaaGreatDoor
set_option linter.unusedVariables false
set_option maxRecDepth 100000
set_option maxHeartbeats 16000000
set_option linter.unusedSimpArgs false
section
open Go Go.RowKit Go.Shelf
theorem aIa {P:Program} {w:World} {N:Nat} {vs:List Value} {t:TypeId} {fr:Nat × Nat} (h:w.heap[N]?=some (.cells vs.toArray t fr)):(loadCellsFrom ⟨N,0,none⟩ 0 vs.length #[]).run P w=.ok vs.toArray w:=by
 have:=run_loadCells_list (P:=P) w ⟨N,0,none⟩ vs (fun j v hv=>by
  rw[aCe,Nat.zero_add,aA h j];simpa using hv)
 exact this
theorem stOld {P:Program} {w:World} {N:Nat} {cur:Array Value} {t:TypeId} (vs:List Value) (h:w.heap[N]?=some (.cells cur t (0,0))) (hc:cur.size=vs.length) (h1:∀v∈vs,v.oneCell'=true) :
 (storeCells ⟨N,0,none⟩ vs 0).run P w=.ok () (w.setRow N vs.toArray):=by
 have:=run_storeCells_from (P:=P) N t vs 0 cur w h ga h1;have e:cur.toList.take 0++vs=vs:=rfl
 simpa [hc] using this
theorem stNew (w:World) (t:TypeId) (z:Array Value) (vs:List Value) (hi:(Tryz.prog.info? t).map (·.size)=some vs.length) (hz:z.size=vs.length) (h1:∀v∈vs,v.oneCell'=true) :
 (storeCells ⟨w.heap.size,0,none⟩ vs 0).run Tryz.prog (w.alloc (.cells z t))=.ok () (w.alloc (.cells vs.toArray t)):=by
 have:=run_storeCells_new (P:=Tryz.prog) w t z vs.toArray (by rw[hi];rfl) (by rw[hz];rfl) (by
  rw[Array.all_eq_true_iff_forall_mem];intro v hv;exact h1 v (by simpa using hv))
 exact this
theorem bList (a b:ByteArray):(a.toList==b.toList)=decide (a=b):=by
 rw[aI0];by_cases h:a=b
 ·subst h;simp
 ·rw[decide_eq_false h,decide_eq_false];intro e;exact h (ByteArray.ext (Array.ext' e))
def gF (k:Nat) (s:ByteArray):List ByteArray:=Lib.splitB ⟨#[32]⟩ 0 (min k (s.size+1)-1) s
theorem tX (sep:ByteArray) (v:Nat):∀(k:Nat) (s:ByteArray),(Lib.splitB sep v k s).length<=k+1
 | 0,s=>by simp[Lib.splitB]
 | k+1,s=>by
   unfold Lib.splitB;split
   ·simp
   ·have:=tX sep v k (s.extract ((Lib.indexB s sep).toNat+sep.size) s.size);simp only[List.length_cons];omega
theorem sF (sep:ByteArray):∀(k:Nat) (s x:ByteArray),x∈Lib.splitB sep 0 k s->x.size<=s.size
 | 0,s,x,h=>by simp[Lib.splitB] at h;subst h;exact Nat.le_refl _
 | k+1,s,x,h=>by
   unfold Lib.splitB at h;split at h
   ·simp at h;subst h;exact Nat.le_refl _
   ·rcases List.mem_cons.1 h with rfl | h
    ·rw[ByteArray.size_extract];omega
    ·have:=sF sep k _ x h;rw[ByteArray.size_extract] at this;omega
theorem aGl (k:Nat) (s:ByteArray) (hk:1<=k):(gF k s).length<=min k (s.size+1):=by
 have:=tX ⟨#[32]⟩ 0 (min k (s.size+1)-1) s;unfold gF;omega
theorem kN (k:Nat) (s x:ByteArray) (h:x∈gF k s):x.size<=s.size:=sF _ _ _ _ h
theorem split4 (s:ByteArray) (w:World) (hs:s.size<=120000) (hN:NumVars w) :
 (∃a b c e,gF 4 s=[a,b,c,e]/\CP 152 #[.string s,.string ⟨#[32]⟩,I6 4] w fun x w'=>x=.returned (.slice (some ⟨w.heap.size,0,none⟩) 4 4)/\w'=w.alloc (.cells #[.string a,.string b,.string c,.string e] 9)) \/
 ((gF 4 s).length<4/\CP 152 #[.string s,.string ⟨#[32]⟩,I6 4] w fun x w'=>∃n k,n<4/\x=.returned (.slice (some ⟨w.heap.size,0,none⟩) n k)/\Below w.heap.size w w'):=by
 obtain⟨m,hm⟩:=hN.2.2;have hc:=Tryz.strings_SplitN s ⟨#[32]⟩ 4 m w ga hm gc gc gc;have hle:=aGl 4 s gc;by_cases h:(gF 4 s).length<4
 ·refine .inr ⟨h,hc.mono ?_⟩;rintro x w' ⟨rfl,rfl⟩;exact⟨_,_,h,rfl,(bR w).alloc lr _⟩
 ·have hl:(gF 4 s).length=4:=by omega
  have hmin:min 4 (s.size+1)=4:=by omega
  left
  match hp:gF 4 s,hl with
  | [a,b,c,e],_ =>
    refine⟨a,b,c,e,rfl,?_⟩;have hp':Lib.splitB ⟨#[32]⟩ 0 (min 4 (s.size+1)-1) s=[a,b,c,e]:=hp;rw[hp',hmin] at hc;exact hc
theorem aE7 (r:List UInt8):∀l:List UInt8,(∀c∈l,c≠32)->Lib.index (l++32 :: r) [32]=l.length
 | [],_=>by simp[Lib.index]
 | c :: l,h=>by
   have:=aE7 r l (fun d hd=>h d (List.mem_cons_of_mem _ hd));have hc:=h c (List.mem_cons_self ..);simp only[List.cons_append,Lib.index];rw[this];simp[hc];intro e;exact absurd e.symm hc
theorem mV (k:Nat) (x r:ByteArray) (hx:∀c∈x.data.toList,c≠32):Lib.splitB ⟨#[32]⟩ 0 (k+1) (x++(⟨#[32]⟩++r))=x :: Lib.splitB ⟨#[32]⟩ 0 k r:=by
 have hi:Lib.indexB (x++(⟨#[32]⟩++r)) ⟨#[32]⟩=x.size:=by
  unfold Lib.indexB;rw[ByteArray.data_append,ByteArray.data_append,Array.toList_append,Array.toList_append];have:=aE7 r.data.toList x.data.toList hx;rw[qZ] at this;exact this
 rw[Lib.splitB_hit _ _ _ _ _ hi];congr 1
 ·apply ByteArray.ext;apply Array.ext';rw[ByteArray.data_extract,Array.toList_extract,ByteArray.data_append,Array.toList_append];simp[List.extract_eq_take_drop]
 ·congr 1;apply ByteArray.ext;apply Array.ext';rw[ByteArray.data_extract,Array.toList_extract,ByteArray.data_append,ByteArray.data_append,Array.toList_append,Array.toList_append,List.extract_eq_take_drop];have e1:(⟨#[32]⟩:ByteArray).size=1:=rfl;rw[ByteArray.size_append,ByteArray.size_append,e1,<-List.append_assoc,List.drop_append,List.drop_of_length_le (by rw[List.length_append,qZ];simp)];simp only[List.nil_append,List.length_append,qZ];rw[show x.size+1-(x.size+(#[32]:Array UInt8).toList.length)=0 by simp,List.drop_zero,List.take_of_length_le (by rw[qZ];omega)]
end
section
open Go Go.RowKit Go.Shelf
attribute [local go_sem] cJ eW cK dF bP bW
def Rd.fin (r:Rd):Rd:=if r.e=0/\r.k≠0 then r.fail r.p 13 else r
theorem aEi (b:Nat) (s:ByteArray) (r:Rd) (w:World) (h:IsRd w b s r) :
 CP 151 #[.pointer (some ⟨b,0,none⟩)] w fun x w'=>x=.returned (.tuple #[])/\IsRd w' b s r.fin/\w.grownBy w' (some b):=by
 have HR:=hid h;have HFL:=hid (bC b s r r.p 13 w h);have HG:=hid (show w.grownBy w (some b) from⟨rfl,rfl,rfl,Nat.le_refl _,fun _ _ _=>rfl⟩);obtain⟨W,hW,hw⟩:=h.put;clear h;subst hw;by_cases he:r.e=0
 ·have HE:=hid he;have qe:(r.e==0)=true:=by simp[he]
  by_cases hk:r.k=0
  ·have HF:=hid (show r.fin=r by unfold Rd.fin;rw[if_neg (fun h=>h.2 hk)]);have qk:((r.k:Int)==0)=true:=by simp;omega
   have qk':((r.k:Int) != 0)=false:=by simp;omega
   clear he hk;go_enter Tryz.func151,Tryz.ntmps151
   go_wp2;refine bodyPost_end (results_none rfl _ _ _) rfl ?_;exact⟨rfl,by rw[HF.out];exact HR.out,HG.out⟩
  ·have HF:=hid (show r.fin=r.fail r.p 13 by unfold Rd.fin;rw[if_pos ⟨he,hk⟩]);have qk:((r.k:Int)==0)=false:=by simp;omega
   have qk':((r.k:Int) != 0)=true:=by simp;omega
   clear he hk;go_enter Tryz.func151,Tryz.ntmps151
   go_wp2_with (go_at_call 232;refine HFL.out.mono ?_;rintro e w2 ⟨rfl,h2,hg2⟩)
   refine bodyPost_end (results_none rfl _ _ _) rfl ?_;exact⟨rfl,by rw[HF.out];exact h2,hg2⟩
 ·have HF:=hid (show r.fin=r by unfold Rd.fin;rw[if_neg (fun h=>he h.1)]);have qe:(r.e==0)=false:=by simp[he]
  clear he;go_enter Tryz.func151,Tryz.ntmps151
  go_wp2;refine bodyPost_end (results_none rfl _ _ _) rfl ?_;exact⟨rfl,by rw[HF.out];exact HR.out,HG.out⟩
end
section
open Go Go.RowKit Go.Shelf
theorem aCc {w w0 w':World} {b:Nat} (h0:Below b w w0) (hg:w0.grownBy w' (some b)) (hlt:b<=w0.heap.size):Below b w w' :=
 h0.trans ⟨hg.os,hg.tape,hg.output,hg.size,fun k hk=>hg.block k ga gj⟩
theorem lR (w:World) (N:Nat) (cs:Array Value):Below N w (w.setRow N cs):=⟨rfl,rfl,rfl,by rw[setRow_size];exact Nat.le_refl _,fun k hk=>setRow_other w N k cs ga⟩
abbrev rdZero:Rd:=⟨0,0,0,⟨#[]⟩,⟨#[]⟩,0,0,false,false,0,0⟩
theorem uK {s:ByteArray} (hs:s.size<=65536):kL s=rdZero.adv s:=by unfold kL;rw[if_neg ga]
theorem aJg {s:ByteArray} (hs:s.size<=65536):RdI s (kL s):=by
 rw[uK hs];exact lU ⟨fun _ _=>rfl,⟨Nat.zero_le _,Nat.zero_le _,by simp[I64],by simp⟩,Nat.zero_le _⟩
theorem aFv (s:ByteArray) (w:World) (hs:s.size<=65536) (hT:Tabs w) (hNV:NumVars w) :
 CP 149 #[.string s] w fun x w'=>x=.returned (.pointer (some ⟨w.heap.size,0,none⟩))/\IsRd w' w.heap.size s (kL s)/\Below w.heap.size w w':=by
 obtain⟨b,hb⟩:=ez w.heap.size
 obtain⟨w0,hw0⟩:=ez (w.alloc (.cells (rdA s 0 0 0 ⟨#[]⟩ ⟨#[]⟩ 0 0 false false 0 0) 225))
 have hr0:IsRd w0 b s rdZero:=⟨by rw[hw0,hb];exact heap_alloc_new w _,⟨fun _=>rfl,Nat.zero_le _,Nat.zero_le _⟩⟩
 have hb0:Below b w w0:=by rw[hw0,hb];exact(bR w).alloc lr _
 have hs0:w0.heap.size=b+1:=by rw[hw0,World.size_alloc,<-hb]
 have hTB:TB w0 b:=⟨w,hT,hNV,(by rw[hb] at hb0;exact hb0),by omega⟩
 have HAD:=hid (nP b s rdZero w0 hr0 ga hTB);have qs:¬ (65536:Int)<(s.size:Int):=by omega
 have HW:=hid hw0;have HB:=hid hb;have HBL:=hid hb0;have HS0:=hid hs0;have HRS:=hid (uK hs);rw[<-hb];clear hw0 hb hb0 hs0 hr0 hTB hs hT hNV;go_enter Tryz.func149,Tryz.ntmps149
 go_upto_region 2 with (fail)
 rw[<-HW.out,<-HB.out];go_wp2_with (go_at_call 233;refine HAD.out.mono ?_;rintro e w1 ⟨rfl,h1,hg1⟩;have H1:=hid h1;have HG1:=hid hg1;clear h1 hg1)
 refine bodyPost_ret (v:=.pointer (some ⟨b,0,none⟩)) (by simp[results,Tryz.results149,go_sem]) rfl ?_;exact⟨rfl,by rw[HRS.out];exact H1.out,aCc HBL.out HG1.out (by have:=HS0.out;omega)⟩
section
attribute [-go_sem] loadCellsFrom storeCells
attribute [local go_sem] aBr aBq aBp aBo aBn aBm aAt aAs
theorem lX (s:ByteArray) (w:World) (hs:s.size<=65536) (hT:Tabs w) (hNV:NumVars w) :
 CP 84 #[.string s] w fun x w'=>∃c:VC,x=.returned (.tuple #[c.v,I6 (eX s).2.1,I6 (eX s).2.2])/\IsVal (fun i=>w.heap.size<=i/\i<w'.heap.size) w' c (eX s).1/\Below w.heap.size w w':=by
 obtain⟨N,hN⟩:=ez w.heap.size
 obtain⟨b,hb⟩:=ez (N+1)
 obtain⟨w0,hw0⟩:=ez (w.alloc valZ)
 have hs0:w0.heap.size=b:=by rw[hw0,World.size_alloc];omega
 have hz0:w0.heap[N]?=some valZ:=by rw[hw0,hN];exact heap_alloc_new w _
 have hb0:Below N w w0:=by rw[hw0,hN];exact(bR w).alloc lr _
 have hT0:Tabs w0:=hT.below (by rw[hN] at hb0;exact hb0);have hV0:NumVars w0:=hNV.below (by rw[hN] at hb0;exact hb0);have hsc:=aFv s w0 hs hT0 hV0;rw[hs0] at hsc;obtain⟨r0,hr0⟩:=ez (kL s)
 have hI0:RdI s r0:=by rw[hr0];exact aJg hs
 obtain⟨q,hq⟩:=ez (rdV s 8 r0)
 obtain⟨f,hf⟩:=ez q.2.fin
 have hfe:f.e=0->q.2.e=0:=by
  rw[hf];unfold Rd.fin;split
  ·intro h;exact absurd h (Rd.fail_e _ _ _ gc)
  ·exact id
 have hpf:eX s=if (if f.e=0/\cF q.1=false then aR q.1 else f.e)≠0 then (dA,f.o,(if f.e=0/\cF q.1=false then aR q.1 else f.e)) else (q.1,0,0):=by
  unfold eX yW;rw[<-hr0,<-hq];have e1:(if q.2.e=0/\q.2.k≠0 then q.2.fail q.2.p 13 else q.2)=f:=by rw[hf];rfl
  dsimp only;rw[e1]
 rw[<-hr0] at hsc;have HST:=hid (fun (w2:World) (cur:Array Value) (hc:cur.size=6) (x0 x1 x2 x3 x4 x5:Value) (h1:∀v∈[x0,x1,x2,x3,x4,x5],v.oneCell'=true) (hz:w2.heap[N]?=some (.cells cur 36)) =>
  (show(storeCells ⟨N,0,none⟩ [x0,x1,x2,x3,x4,x5] 0).run Tryz.prog w2=.ok () (w2.setRow N #[x0,x1,x2,x3,x4,x5])/\(loadCellsFrom ⟨N,0,none⟩ 0 6 #[]).run Tryz.prog (w2.setRow N #[x0,x1,x2,x3,x4,x5])=.ok #[x0,x1,x2,x3,x4,x5] (w2.setRow N #[x0,x1,x2,x3,x4,x5]) from
    ⟨st6 hz hc x0 x1 x2 x3 x4 x5 h1,ld6 (setRow_heap w2 N _ #[x0,x1,x2,x3,x4,x5] 36 (0,0) hz)⟩))
 rw[<-hN];have HSC:=hid hsc;have HI:=hid hI0;have HFE:=hid hfe;have HPF0:=hid hpf;have HQ:=hid hq;have HF:=hid hf;have HW:=hid hw0;have HN:=hid hN;have HNB:=hid (show N<b/\b=N+1/\b≠N by omega);have HZ0:=hid hz0;have HB0:=hid hb0;have HS0:=hid hs0;have HT0:=hid hT0;have HV0:=hid hV0;have HT:=hid hT;have hs':s.size<=100000:=by omega
 clear hsc hI0 hfe hpf hq hf hw0 hN hb hz0 hb0 hs0 hT0 hV0 hr0 hT hNV;go_enter Tryz.func84,Tryz.ntmps84
 go_upto_region 1 with (fail)
 rw[<-HW.out,<-HN.out];go_upto_region 2 with (go_at_call 149;refine HSC.out.mono ?_;rintro e w1 ⟨rfl,h1,hb1⟩;have H1:=hid h1;have HB1:=hid hb1;clear h1 hb1)
 have hz1:w1.heap[N]?=some valZ:=(HB1.out.block N HNB.out.1).trans HZ0.out;have HZ1:=hid hz1;have HBW1:=hid (HB0.out.trans (HB1.out.mono (by have:=HNB.out;omega)));have hTB1:TB w1 b:=⟨w0,HT0.out,HV0.out,(show Below _ w0 w1 by rw[HS0.out];exact HB1.out),by rw[HS0.out];exact Nat.le_refl _⟩
 have hv:=tK 8 lr b s r0 0 w1 H1.out HI.out hs' hTB1 rfl;rw[<-HQ.out] at hv;have HV:=hid hv;have hN1:N<w1.heap.size:=ltOf hz1;have HN1:=hid hN1;clear hv hTB1 hz1 hN1;go_upto_region 3 with (go_at_call 150;refine HV.out.mono ?_;rintro e w2 ⟨c,d,rfl,hv2,hd2,hr2,hg2⟩;have HV2:=hid hv2;have HD:=hid hd2;have HR2:=hid hr2;have HG2:=hid hg2;obtain⟨hS1,hL2⟩:=HST.out w2 _ rfl (I6 c.k) (I6 c.i) (I6 c.s) (.string c.t) (.slice c.la c.ll c.lc) (.slice c.fa c.fl c.fc) gm (aV hg2 HZ1.out (by have:=HNB.out;omega));clear hv2 hd2 hr2 hg2)
 clear hS1 hL2;obtain⟨w3,hw3⟩:=ez (w2.setRow N #[I6 c.k,I6 c.i,I6 c.s,.string c.t,.slice c.la c.ll c.lc,.slice c.fa c.fl c.fc])
 rw[<-hw3];have hz2:w2.heap[N]?=some valZ:=aV HG2.out HZ1.out (by have:=HNB.out;omega);have hz3:w3.heap[N]?=some (oV c 36):=by rw[hw3];exact setRow_heap w2 N _ _ 36 (0,0) hz2
 have hr3:IsRd w3 b s q.2:=by rw[hw3];exact aH HR2.out (by have:=HNB.out;omega)
 have hv3:IsVal (fun i=>b<i/\i<w3.heap.size) w3 c d:=by
  rw[hw3];exact HV2.out.same fun i hi=>⟨⟨by have:=H1.out.lt;omega,by rw[setRow_size];exact hi.2⟩,setRow_other w2 N i _ (by have:=HN1.out;omega)⟩
 have hb3:Below N w w3:=by
  rw[hw3];exact HBW1.out.trans ((aCc (Below.refl _ _) HG2.out (Nat.le_of_lt H1.out.lt)).mono (by have:=HNB.out;omega) |>.trans (lR w2 N _))
 have HFN:=hid (aEi b s q.2 w3 hr3);have HZ3:=hid hz3;have HV3:=hid hv3;have HB3:=hid hb3;have HBS3:=hid hr3.lt;clear hw3 hz2 hz3 hr3 hv3 hb3;go_upto_region 4 with (go_at_call 151;refine HFN.out.mono ?_;rintro e w4 ⟨rfl,hr4,hg4⟩;have HR4:=hid hr4;have HG4:=hid hg4;clear hr4 hg4)
 have hr4:IsRd w4 b s f:=by rw[HF.out];exact HR4.out
 have hz4:w4.heap[N]?=some (oV c 36):=aV HG4.out HZ3.out (by have:=HNB.out;omega);have hv4:IsVal (fun i=>b<i/\i<w4.heap.size) w4 c d:=HV3.out.same fun i hi=>⟨⟨hi.1,by have:=HG4.out.size;omega⟩,HG4.out.block i hi.2 gj⟩
 have hb4:Below N w w4:=HB3.out.trans ((aCc (Below.refl _ _) HG4.out (Nat.le_of_lt HBS3.out)).mono (by have:=HNB.out;omega));obtain⟨nb,hnb⟩:=ez (eM c.k c.i c.s c.t c.ll c.fl)
 have hnv:cF d=nb:=by rw[hnb];exact gX hv4
 have hnu:=bN c.k c.i c.s c.t c.la c.ll c.lc c.fa c.fl c.fc w4;rw[<-hnb] at hnu;have HNU:=hid hnu;obtain⟨E,hE⟩:=ez (if f.e=0/\nb=false then aR d else f.e:Int)
 have hPF:eX s=if E≠0 then (dA,f.o,E) else (q.1,0,0):=by
  rw[HPF0.out];by_cases h0:f.e=0
  ·have hd:d=q.1:=HD.out (HFE.out h0);rw[hE,<-hd,hnv]
  ·have e1:(if f.e=0/\cF q.1=false then aR q.1 else f.e)=f.e:=if_neg (fun h=>h0 h.1);have e2:(if f.e=0/\nb=false then aR d else f.e)=f.e:=if_neg (fun h=>h0 h.1);rw[e1,hE,e2]
 have hD0:E=0->d=q.1:=fun h=>HD.out (HFE.out (by
  by_cases h0:f.e=0
  ·exact h0
  ·have e2:(if f.e=0/\nb=false then aR d else f.e)=f.e:=if_neg (fun h=>h0 h.1);rw[hE,e2] at h;exact h))
 have HPF:=hid hPF;have HD0:=hid hD0;have HE:=hid hE;obtain⟨tb,htb⟩:=ez ((decide (f.e=0) && !nb):Bool)
 have HTB:=hid htb;have ce:Ce w4 b 10 (I6 f.e):=aA hr4.at_ 10;have hl4:=ld6 hz4;have H4:=hid (show w4.heap[N]?=some (oV c 36)/\IsRd w4 b s f/\IsVal (fun i=>b<i/\i<w4.heap.size) w4 c d/\Below N w w4 from⟨hz4,hr4,hv4,hb4⟩);clear hr4 hz4 hv4 hb4 hnb hnv hnu hE hPF hD0 htb
 go_cut [21] (fun v wz=>v=.bool tb/\wz.heap[N]?=some (oV c 36)/\IsRd wz b s f/\IsVal (fun i=>b<i/\i<wz.heap.size) wz c d/\Below N w wz)
 case first =>
  by_cases he:f.e=0
  ·have qe:(f.e==0)=true:=by simp[he]
   have HQE:=hid he;clear he;cases nb
   ·have ht:tb=true:=by rw[HTB.out,HQE.out];rfl
    have HT1:=hid ht;clear ht;go_wp2_with (go_at_call 67;refine HNU.out.mono ?_;rintro e w5 ⟨rfl,hb5⟩;have HB5:=hid hb5;clear hb5)
    go_meet
    obtain⟨a1,a2,a3,a4⟩:=H4.out;exact⟨by rw[HT1.out],aB HB5.out a1,bK a2 HB5.out a2.lt,a3.same fun i hi=>⟨⟨hi.1,by have:=HB5.out.size;omega⟩,HB5.out.block i hi.2⟩,a4.trans (HB5.out.mono (by have:=ltOf a1;omega))⟩
   ·have ht:tb=false:=by rw[HTB.out];simp
    have HT1:=hid ht;clear ht;go_wp2_with (go_at_call 67;refine HNU.out.mono ?_;rintro e w5 ⟨rfl,hb5⟩;have HB5:=hid hb5;clear hb5)
    go_meet
    obtain⟨a1,a2,a3,a4⟩:=H4.out;exact⟨by rw[HT1.out],aB HB5.out a1,bK a2 HB5.out a2.lt,a3.same fun i hi=>⟨⟨hi.1,by have:=HB5.out.size;omega⟩,HB5.out.block i hi.2⟩,a4.trans (HB5.out.mono (by have:=ltOf a1;omega))⟩
  ·have qe:(f.e==0)=false:=by simp[he]
   have ht:tb=false:=by rw[HTB.out];simp[he]
   have HT1:=hid ht;clear he ht;go_wp2
   go_meet
   exact⟨by rw[HT1.out],H4.out⟩
 case rest =>
 clear ce hl4 HNU H4;obtain⟨rfl,hz5,hr5,hv5,hb5⟩:=hcut;obtain⟨w5,hw5⟩:=ez wc
 rw[<-hw5] at hz5 hr5 hv5 hb5 ⊢;clear hw5;have hl5:=ld6 hz5;have hck:=iG c d w5 (hv5.same fun i hi=>⟨hi.2,rfl⟩) (HT.out.below (by rw[HN.out] at hb5;exact hb5));have HCK:=hid hck;have H5:=hid (show w5.heap[N]?=some (oV c 36)/\IsRd w5 b s f/\IsVal (fun i=>b<i/\i<w5.heap.size) w5 c d/\Below N w w5 from⟨hz5,hr5,hv5,hb5⟩);clear hz5 hr5 hv5 hb5 hck
 go_upto_if 21 with (fail)
 go_cut [] (fun wr=>wr.heap[N]?=some (oV c 36)/\wr.heap[b]?=some (.cells (rdA s f.nx f.k f.p f.t f.b f.n f.sc f.d f.x E f.o) 225)/\IsVal (fun i=>b<i/\i<wr.heap.size) wr c d/\Below N w wr)
 case first =>
  cases tb
  ·have HE2:=hid (show E=f.e by
    rw[HE.out,if_neg];intro ⟨h1,h2⟩;have:=HTB.out;rw[h1,h2] at this;exact absurd this gc)
   go_wp2
   go_meet
   obtain⟨a1,a2,a3,a4⟩:=H5.out;exact⟨a1,by rw[HE2.out];exact a2.at_,a3,a4⟩
  ·have HE2:=hid (show E=aR d by
    rw[HE.out,if_pos];have:=HTB.out.symm;rw[Bool.and_eq_true,decide_eq_true_eq] at this;exact⟨this.1,by simpa using this.2⟩)
   obtain⟨ck,hck⟩:=ez (aR d)
   have HC2:=hid hck;clear hck;go_wp2_with (go_at_call 66;refine HCK.out.mono ?_;rintro e w6 ⟨rfl,hb6⟩;have HB6:=hid hb6;have h6:=(HB6.out.block b H5.out.2.1.lt).trans H5.out.2.1.at_;have c10:=aA h6 10;have f10:=aC h6 10;have H6:=hid h6;clear hb6 h6)
   go_meet
   obtain⟨a1,a2,a3,a4⟩:=H5.out;have a1':=aB HB6.out a1;exact⟨cB _ _ a1' (by have:=HNB.out;dsimp only;omega),by rw[HE2.out];exact aE (o:=10) (I6 (aR d)) H6.out,
    a3.same fun i hi=>⟨⟨hi.1,by rw[World.size_setCell];have:=HB6.out.size;omega⟩,(Below.heap_setCell w6 ⟨b,10,none⟩ _ i gi).trans (HB6.out.block i hi.2)⟩,
    (a4.trans (HB6.out.mono (by have:=ltOf a1;omega))).setCell (p:=⟨b,10,none⟩) (by have:=HNB.out;dsimp only;omega) _⟩
 case rest =>
 clear hl5 HCK H5 HTB;obtain⟨hzr,hbr,hvr,hbw⟩:=hcut;obtain⟨wr,hwr⟩:=ez wc
 rw[<-hwr] at hzr hbr hvr hbw ⊢;clear hwr;have HZR:=hid hzr;have HBR:=hid hbr;have HVR:=hid hvr;have HBW:=hid hbw;have c10:Ce wr b 10 (I6 E):=aA hbr 10;have hlr:=ld6 hzr;clear hzr hbr hvr hbw;by_cases h0:E=0
 ·have HE0:=hid h0;have q0:(E != 0)=false:=by simp[h0]
  clear h0;obtain⟨hS9,hL9⟩:=HST.out wr _ rfl (I6 c.k) (I6 c.i) (I6 c.s) (.string c.t) (.slice c.la c.ll c.lc) (.slice c.fa c.fl c.fc) gm HZR.out;go_wp2;refine bodyPost_ret (v:=.tuple #[c.v,I6 0,I6 0]) (by simp[results,Tryz.results84,go_sem,hL9]) rfl ?_;have HSP:=hid (show eX s=(q.1,0,0) by rw[HPF.out,if_neg (by simp[HE0.out])]);rw[HSP.out];dsimp only;rw[<-HD0.out HE0.out];exact⟨c,rfl,HVR.out.same fun i hi=>⟨⟨by have:=HNB.out;omega,by rw[setRow_size];exact hi.2⟩,setRow_other wr N i _ (by have:=HNB.out;omega)⟩,HBW.out.trans (lR wr N _)⟩
 ·have HE0:=hid h0;have q0:(E != 0)=true:=by simp[h0]
  clear h0;have HC7:=hid (fun (w':World) (h:w'.heap[b]?=some (.cells (rdA s f.nx f.k f.p f.t f.b f.n f.sc f.d f.x E f.o) 225))=>(show Ce w' b 10 (I6 E)/\Ce w' b 11 (I6 (f.o:Int)) from⟨aA h 10,aA h 11⟩));obtain⟨hS9,hL9⟩:=HST.out wr.drew _ rfl (I6 0) (I6 0) (I6 0) (.string ⟨#[]⟩) (.slice none 0 0) (.slice none 0 0) gm (show wr.drew.heap[N]?=some (oV c 36) from HZR.out);go_upto_region 7 with (fail)
  refine wp_region_held_drew (S:=(fun w'=>w'.heap[b]?=some (.cells (rdA s f.nx f.k f.p f.t f.b f.n f.sc f.d f.x E f.o) 225))) ge (HBR.out) (fun hS=>?_);refine tc 0 HC7 ?_;refine tc 1 HC7 ?_;refine tc 2 HC7 ?_;refine tc 3 HC7 ?_;refine tc 4 HC7 ?_;refine tc 5 HC7 ?_;refine tc 6 HC7 ?_;refine tc 7 HC7 ?_;refine tc 8 HC7 ?_;refine yr 9 fun K hK=>?_;go_simp;refine hK.out _ _ ((setRow_other wr.drew N b _ HNB.out.2.2).trans hS) (fun hS=>?_);clear hK K
  (try simp only[Act.put,pq])
  refine tc 10 HC7 ?_;refine tc 11 HC7 ?_;refine wpAnyH_done ge ?_ _
  (try dsimp only)
  clear hS;go_wp2;refine bodyPost_ret (v:=.tuple #[.agg #[I6 0,I6 0,I6 0,.string ⟨#[]⟩,.slice none 0 0,.slice none 0 0],I6 (f.o:Int),I6 E]) (by simp[results,Tryz.results84,go_sem,hL9]) rfl ?_;have HSP:=hid (show eX s=(dA,f.o,E) by rw[HPF.out,if_pos HE0.out]);rw[HSP.out];exact⟨⟨0,0,0,⟨#[]⟩,none,0,0,none,0,0⟩,rfl,dT 0 0 gn gn,HBW.out.trans ((Below.refl N wr).drew.trans (lR wr.drew N _))⟩
end
end
end Go.Proofs.YtmgpghoamapfgaaGreatDoor
