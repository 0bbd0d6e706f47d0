/-
  The reader's advance: what ParLaw's Rd.adv says. Conditions: the reader's block holds its cells; the text's length fits; the tables lie below the reader's block.
-/
import Derived.Test.YtaofolgaiipcjaaGreatDoorJP1LMrg
import Derived.Test.YtaofolgaiipcjaaGreatDoorJP20Mrg
namespace Go.Proofs.YtaofolgaiipcjaaGreatDoor
set_option linter.unusedVariables false
set_option maxRecDepth 100000
set_option maxHeartbeats 16000000
set_option linter.unusedSimpArgs false
section
open Go Go.RowKit Go.Shelf
attribute [local go_sem] putC_setCell putC_cell putC_cell_ne putC_frozen putC_frozen_ne size_putC
def AdvMid (w:World) (b N:Nat) (s:ByteArray) (r:Rd) (a:Nat) (wz:World):Prop :=
 ∃r2:Rd,IsRd wz b s r2∧r.adv s=finF s a r2∧MidOK s a r2∧w.grownBy wz (some b)∧wz.heap[N]?=some tokZ∧wz.heap[N+1]?=some (tokO r)
theorem adv_mk {w W wz:World} {b N a:Nat} {s:ByteArray} {r r2:Rd} {cs0 cs:Array Value} (HG:w.grownBy (putC W b cs0) (some b)) (H0:W.heap[N]?=some tokZ) (H1:W.heap[N+1]?=some (tokO r)) (HNB:N≠b∧N+1≠b) (hg:(putC W b cs).grownBy wz (some b)) (h2:IsRd wz b s r2)
 (heq:r.adv s=finF s a r2) (hm:MidOK s a r2):AdvMid w b N s r a wz:=by
 have l0:N<(putC W b cs).heap.size:=by rw[size_putC];exact ltOf H0
 have l1:N+1<(putC W b cs).heap.size:=by rw[size_putC];exact ltOf H1
 exact⟨r2,h2,heq,hm,(HG.trans (putC_grown W b cs0 cs)).trans hg,(hg.block N l0 (by simp[HNB.1])).trans ((putC_other W b cs N HNB.1).trans H0),(hg.block (N+1) l1 (by simp[HNB.2])).trans ((putC_other W b cs (N+1) HNB.2).trans H1)⟩
theorem setRow_ext {w w':World} {row:Option Nat} (hg:w.grownBy w' row) (N:Nat) (cs:Array Value) (hN:w.heap.size≤N):w.grownBy (w'.setRow N cs) row :=
 ⟨hg.os,hg.tape,hg.output,by rw[setRow_size];exact hg.size,fun i hi hne=>by rw[setRow_other w' N i cs (by omega)];exact hg.block i hi hne⟩
theorem isRd_setRow {w:World} {b N:Nat} {s:ByteArray} {r:Rd} {cs:Array Value} (h:IsRd w b s r) (hN:N≠b):IsRd (w.setRow N cs) b s r:=⟨(setRow_other w N b cs (fun e=>hN e.symm)).trans h.at_,h.ok⟩
theorem r1F_ok {s:ByteArray} {a:Nat} (o:Nat) (h:a≤s.size):(r1F a o).Ok s:=⟨fun _=>rfl,h,h⟩
theorem sym_tab:∀n:Fin 256,symL.contains (UInt8.ofNat n.val)=decide (0≤Lib.indexByte symL (UInt8.ofNat n.val)):=by decide +kernel
theorem sym_idx (c:UInt8):symL.contains c=decide (0≤Lib.indexByte symL c):=by
 have:=sym_tab ⟨c.toNat,c.toNat_lt⟩
 simpa using this
theorem mid_word (s:ByteArray) (a o:Nat):MidOK s a { r1F a o with nx:=runI s.data.toList a wrdC,k:=1 }:=⟨runI_ge _ _ _,fun _=>by simp⟩
section
attribute [-go_sem] loadCellsFrom storeCells
attribute [local go_sem] lcf0 lcf1 lcf2 lcf3 lcf4 lcf5 lcf6 lcf7 stc0 stc1
theorem adv_good (b:Nat) (s:ByteArray) (r:Rd) (w:World) (h:IsRd w b s r) (hs:s.size≤100000) (hTB:TB w b) (he:r.e=0) :
 Calls Tryz.prog 275 #[.pointer (some ⟨b,0,none⟩)] w fun x w'=>x=.returned (tokV r)∧IsRd w' b s (r.adv s)∧w.grownBy w' (some b):=by
 have hln:s.data.toList.length=s.size:=rfl
 have HR:=hid h
 have HTB:=hid hTB
 have HE:=hid he
 have qe:(r.e==0)=true:=by simp[he]
 have qe':(r.e != 0)=false:=by simp[he]
 have hl1:=ld_rd (h.alloc tokZ)
 have hl2:=st_tokNew (w.alloc tokZ) #[.int .i64 0,.int .i64 0,.string ⟨#[]⟩,.string ⟨#[]⟩,.int .i64 0,.int .i64 0,.bool false,.bool false] rfl r
 have hce:w.cell? ⟨b,10,none⟩=some (.int .i64 r.e):=cellOf h.at_ 10
 have hlt:=h.lt
 simp only[World.size_alloc] at hl2
 clear h hTB he
 go_enter Tryz.func275,Tryz.ntmps275
 go_upto_region 4 with (fail)
 obtain⟨N,hN⟩:∃N,N=w.heap.size:=⟨_,rfl⟩
 obtain⟨w1,hw1⟩:∃w1,w1=(w.alloc tokZ).alloc (tokO r):=⟨_,rfl⟩
 rw[←hw1,←hN]
 have hr1:IsRd w1 b s r:=by rw[hw1];exact(HR.out.alloc _).alloc _
 have hg1:w.grownBy w1 (some b):=by rw[hw1];exact(World.grownBy_alloc _ _ _).trans (World.grownBy_alloc _ _ _)
 have h0:w1.heap[N]?=some tokZ:=by rw[hw1,hN];exact heapAlloc _ (heap_alloc_new w _)
 have h1:w1.heap[N+1]?=some (tokO r):=by rw[hw1,hN,←World.size_alloc w tokZ];exact heap_alloc_new (w.alloc tokZ) _
 have HTB1:=hid (HTB.out.grown hg1 (.inr rfl))
 have HNB:=hid (show N≠b∧N+1≠b by omega)
 have HNW:=hid (show w.heap.size≤N by omega)
 clear hw1 hN hl1 hl2 hce hlt
 obtain⟨a,ha⟩:∃a,a=runI s.data.toList r.nx spC:=⟨_,rfl⟩
 have hnz:r.nx≤s.size:=HR.out.ok.nx
 have haz:a≤s.size:=by rw[ha,←hln];exact runI_le _ _ _ hnz
 have HRUN:=hid (run_space b s r r.nx w1 hr1 hnz (by omega))
 rw[←ha] at HRUN
 obtain⟨W,hW,hw⟩:=hr1.put
 subst hw
 have HG1:=hid hg1
 have H0:=hid ((putC_other W b _ N HNB.out.1).symm.trans h0)
 have H1:=hid ((putC_other W b _ (N+1) HNB.out.2).symm.trans h1)
 have HA:=hid ha
 clear hg1 h0 h1 ha hr1
 have hz1:=fun k0 p0 t0 b0 n0 sc0 d0 x0=>st_rd hW s r.nx k0 p0 t0 b0 n0 sc0 d0 x0 r.e r.o 0 a ⟨#[]⟩ ⟨#[]⟩ 0 0 false false
 have HZ1:=hid (hz1 r.k r.p r.t r.b r.n r.sc r.d r.x)
 clear hz1
 have qz:=HZ1.out
 by_cases hend:a=s.size
 ·have qa:((a:Int)==(s.size:Int))=true:=by simp;omega
  have HEND:=hid hend
  clear hend
  have H00:=H0
  have hE0:=ld_tok (t:=274) (fr:=(0,0)) ((putC_other W b (rdA s a 0 a ⟨#[]⟩ ⟨#[]⟩ 0 0 false false r.e r.o) (N+1) HNB.out.2).trans H1.out)
  have hE1:=st_tok ((putC_other W b (rdA s a 0 a ⟨#[]⟩ ⟨#[]⟩ 0 0 false false r.e r.o) N HNB.out.1).trans H0.out) rfl r
  have hE2:=ld_tok (setRow_heap (putC W b (rdA s a 0 a ⟨#[]⟩ ⟨#[]⟩ 0 0 false false r.e r.o)) N _ (tokA r) 274 (0,0) ((putC_other W b (rdA s a 0 a ⟨#[]⟩ ⟨#[]⟩ 0 0 false false r.e r.o) N HNB.out.1).trans H0.out))
  go_wp2_with (go_at_call 308;refine HRUN.out.mono ?_;rintro e w2 ⟨rfl,rfl⟩)
  refine bodyPost_ret (v:=tokV r) (by simp[results,Tryz.results275,go_sem,hE2]) rfl ?_
  have hav:r.adv s=r1F a r.o:=by
   rw[adv_end HE.out (by rw[←HA.out,HEND.out];exact List.getElem?_eq_none (Nat.le_of_eq hln)),←HA.out]
  refine⟨rfl,?_,?_⟩
  ·rw[hav]
   exact isRd_setRow (isRd_put W b s (r1F a r.o) hW (r1F_ok _ haz) _ (by rw[HE.out];rfl)) HNB.out.1
  ·exact setRow_ext (HG1.out.trans (putC_grown _ _ _ _)) N _ HNW.out
 ·have halt:a<s.size:=by omega
  have qa:((a:Int)==(s.size:Int))=false:=by simp;omega
  have qa2:(a:Int)<(s.size:Int):=by omega
  have qa3:(a:Int)≤(s.size:Int):=by omega
  have qa0:(0:Int)≤(a:Int):=by omega
  have hg:=strGet s a halt
  have HAM:=hid (show r.adv s=finF s a (midF s a r.o s[a]) by
   have h1:=adv_mid HE.out (c:=s[a]) (by rw[←HA.out];exact hg)
   rw[←HA.out] at h1
   exact h1)
  obtain⟨c,hc⟩:∃c,c=s[a]:=⟨_,rfl⟩
  rw[←hc] at HAM
  have HC:=hid hc
  have HRD0:=hid (isRd_put W b s (r1F a r.o) hW (r1F_ok _ haz) (rdA s a 0 a ⟨#[]⟩ ⟨#[]⟩ 0 0 false false 0 r.o) rfl)
  have HTB2:=hid (HTB1.out.grown (putC_grown W b (rdA s r.nx r.k r.p r.t r.b r.n r.sc r.d r.x r.e r.o) (rdA s a 0 a ⟨#[]⟩ ⟨#[]⟩ 0 0 false false 0 r.o)) (.inr rfl))
  clear hg hc hend
  rw[show r.e=0 from HE.out] at *
  go_upto_block 0 with (go_at_call 308;refine HRUN.out.mono ?_;rintro e w2 ⟨rfl,rfl⟩)
  rw[←HC.out]
  clear qz HZ1
  go_cut [] (fun wz=>AdvMid w b N s r a wz)
  case first =>
   clear HRUN HTB1 qe qe'
   obtain⟨es,hes⟩:∃es,es=s.extract a s.size:=⟨_,rfl⟩
   have hesl:es.data.toList=s.data.toList.drop a:=by rw[hes,extract_drop]
   obtain⟨px,hpx⟩:∃px:Bool,px=Lib.hasPrefix (s.data.toList.drop a) [120,34]:=⟨_,rfl⟩
   obtain⟨pd,hpd⟩:∃pd:Bool,pd=Lib.hasPrefix (s.data.toList.drop a) [46,46]:=⟨_,rfl⟩
   obtain⟨lt,hlt⟩:∃lt:Bool,lt=letC c:=⟨_,rfl⟩
   obtain⟨dg,hdg⟩:∃dg:Bool,dg=digC c:=⟨_,rfl⟩
   obtain⟨iv,hiv⟩:∃iv:Int,iv=Lib.indexByte symL c:=⟨_,rfl⟩
   have HPX:=hid (fun w'=>Tryz.strings_HasPrefix (s.extract a s.size) ⟨#[120,34]⟩ w')
   have HPD:=hid (fun w'=>Tryz.strings_HasPrefix (s.extract a s.size) ⟨#[46,46]⟩ w')
   have HLET:=hid (fun w'=>letter_call c w')
   have HDIG:=hid (fun w'=>digit_call c w')
   have HIDX:=hid (fun w'=>Tryz.strings_IndexByte ⟨#[91,93,123,125,40,41,58,44,61,63,124]⟩ (c.toNat:Int) w')
   rw[show(s.extract a s.size).data.toList=s.data.toList.drop a by rw[←hes];exact hesl,←hpx] at HPX
   rw[show(s.extract a s.size).data.toList=s.data.toList.drop a by rw[←hes];exact hesl,←hpd] at HPD
   rw[←hlt] at HLET
   rw[←hdg] at HDIG
   rw[show((c.toNat:Int).toNat.toUInt8)=c by simp,show(⟨#[91,93,123,125,40,41,58,44,61,63,124]⟩:ByteArray).data.toList=symL from rfl,←hiv] at HIDX
   have HSY:=hid (show symL.contains c=decide (0≤iv) by rw[hiv];exact sym_idx c)
   have HX:=hid hpx
   have HD:=hid hpd
   have HL:=hid hlt
   have HG:=hid hdg
   clear hpx hpd hlt hdg hiv hes hesl
   by_cases h34:c.toNat=34
   ·have q34:((c.toNat:Int)==34)=true:=by simp;omega
    have H34:=hid h34
    clear h34
    have HS:=hid (readString_call b s (r1F a r.o) a _ HRD0.out (by omega) hs HTB2.out.tabs HTB2.out.nums)
    go_wp2_with ((go_at_call 310;refine HS.out.mono ?_;rintro e w2 ⟨rfl,h2,hg2⟩;have H2R:=hid h2;have HG2:=hid hg2;clear h2 hg2))
    go_meet
    exact adv_mk HG1.out H0.out H1.out HNB.out HG2.out H2R.out ((HAM.out).trans (congrArg (finF s a) (by rw[midF,if_pos H34.out]))) (mid_str s a r.o)
   have q34:((c.toNat:Int)==34)=false:=by simp;omega
   have H34:=hid h34
   clear h34
   obtain⟨q1,hq1⟩:∃q1:Bool,q1=(decide (c.toNat=120)&&px):=⟨_,rfl⟩
   have HQ1:=hid hq1
   clear hq1
   go_upto_region 14 with (fail)
   go_cut [55] (fun v wz=>v=.bool q1∧wz=(putC W b (rdA s a 0 a ⟨#[]⟩ ⟨#[]⟩ 0 0 false false 0 r.o)))
   case first =>
    have hq:=HQ1.out
    by_cases h120:c.toNat=120
    ·have q120:((c.toNat:Int)==120)=true:=by simp;omega
     have hqe:q1=px:=by rw[hq];simp[h120]
     clear hq h120
     go_wp2_with ((go_at_call 190;refine(HPX.out _).mono ?_;rintro e w2 ⟨rfl,hw2⟩;obtain rfl:=hw2.symm))
     go_meet
     exact⟨by rw[hqe],rfl⟩
    ·have q120:((c.toNat:Int)==120)=false:=by simp;omega
     have hqe:q1=false:=by rw[hq];simp[h120]
     clear hq h120
     go_wp2
     go_meet
     exact⟨by rw[hqe],rfl⟩
   case rest =>
   obtain⟨rfl,hwc⟩:=hcut
   obtain⟨wb,hwb⟩:∃u,u=wc:=⟨_,rfl⟩
   rw[←hwb] at hwc ⊢
   clear hwb
   subst hwc
   cases q1
   ·have HXX:=hid (show ¬ (c.toNat=120∧Lib.hasPrefix (s.data.toList.drop a) [120,34]=true) from fun h=>by
     have:=HQ1.out
     rw[HX.out,h.2] at this
     simp[h.1] at this)
    cases lt
    ·have HLL:=hid (show ¬ letC c=true by rw[←HL.out];decide)
     obtain⟨q2,hq2⟩:∃q2:Bool,q2=(dg||decide (c.toNat=45)):=⟨_,rfl⟩
     have HQ2:=hid hq2
     clear hq2
     go_upto_region 19 with (go_at_call 312;refine(HLET.out _).mono ?_;rintro e w2 ⟨rfl,hw2⟩;obtain rfl:=hw2.symm)
     go_cut [83] (fun v wz=>v=.bool q2∧wz=(putC W b (rdA s a 0 a ⟨#[]⟩ ⟨#[]⟩ 0 0 false false 0 r.o)))
     case first =>
      have hq:=HQ2.out
      cases dg
      ·by_cases h45:c.toNat=45
       ·have q45:((c.toNat:Int)==45)=true:=by simp;omega
        have hqe:q2=true:=by rw[hq];simp[h45]
        clear hq h45
        go_wp2_with ((go_at_call 314;refine(HDIG.out _).mono ?_;rintro e w2 ⟨rfl,hw2⟩;obtain rfl:=hw2.symm))
        go_meet
        exact⟨by rw[hqe],rfl⟩
       ·have q45:((c.toNat:Int)==45)=false:=by simp;omega
        have hqe:q2=false:=by rw[hq];simp[h45]
        clear hq h45
        go_wp2_with ((go_at_call 314;refine(HDIG.out _).mono ?_;rintro e w2 ⟨rfl,hw2⟩;obtain rfl:=hw2.symm))
        go_meet
        exact⟨by rw[hqe],rfl⟩
      ·have hqe:q2=true:=by rw[hq];rfl
       clear hq
       go_wp2_with ((go_at_call 314;refine(HDIG.out _).mono ?_;rintro e w2 ⟨rfl,hw2⟩;obtain rfl:=hw2.symm))
       go_meet
       exact⟨by rw[hqe],rfl⟩
     case rest =>
     obtain⟨rfl,hwc⟩:=hcut
     obtain⟨wb,hwb⟩:∃u,u=wc:=⟨_,rfl⟩
     rw[←hwb] at hwc ⊢
     clear hwb
     subst hwc
     have HDD:=hid (show(digC c||c.toNat==45)=q2 by
      rw[HQ2.out,HG.out]
      congr 1)
     cases q2
     ·have HD2:=hid (show ¬ (digC c||c.toNat==45)=true by rw[HDD.out];decide)
      cases pd
      ·have HP2:=hid (show ¬ Lib.hasPrefix (s.data.toList.drop a) [46,46]=true by rw[←HD.out];decide)
       by_cases hi0:0≤iv
       ·have HSS:=hid (show symL.contains c=true by rw[HSY.out];exact decide_eq_true hi0)
        have qi:decide (0≤iv)=true:=decide_eq_true hi0
        clear hi0
        go_wp2_with (first
  | (go_at_call 190; refine (HPD.out _).mono ?_; rintro e w2 ⟨rfl, hw2⟩; obtain rfl := hw2.symm)
  | (go_at_call 194; refine (HIDX.out _).mono ?_; rintro e w2 ⟨rfl, hw2⟩; obtain rfl := hw2.symm))
        go_meet
        exact adv_mk HG1.out H0.out H1.out HNB.out (putC_grown W b (rdA s a 0 a ⟨#[]⟩ ⟨#[]⟩ 0 0 false false 0 r.o) _) (isRd_put W b s { r1F a r.o with nx:=a+1,k:=5 } hW ⟨fun e=>(by cases e),by dsimp only;omega,haz⟩ _ rfl) ((HAM.out).trans (congrArg (finF s a) (by rw[midF,if_neg H34.out,if_neg HXX.out,if_neg HLL.out,if_neg HD2.out,if_neg HP2.out,if_pos HSS.out]))) (⟨Nat.le_succ _,fun _=>by simp⟩)
       ·have HSS:=hid (show ¬ symL.contains c=true by rw[HSY.out];simp[hi0])
        have qi:decide (0≤iv)=false:=decide_eq_false hi0
        clear hi0
        have HF:=hid (fail_call b s (r1F a r.o) a 13 _ HRD0.out)
        go_upto_region 11 with (first
         | (go_at_call 190;refine(HPD.out _).mono ?_;rintro e w2 ⟨rfl,hw2⟩;obtain rfl:=hw2.symm)
         | (go_at_call 194;refine(HIDX.out _).mono ?_;rintro e w2 ⟨rfl,hw2⟩;obtain rfl:=hw2.symm)
         | (go_at_call 274;refine HF.out.mono ?_;rintro e w2 ⟨rfl,h2,hg2⟩;have H2R:=hid h2;have HG2:=hid hg2;clear h2 hg2))
        obtain⟨W2,hW2,hw2⟩:=H2R.out.put
        subst hw2
        have l0:N<(putC W b (rdA s a 0 a ⟨#[]⟩ ⟨#[]⟩ 0 0 false false 0 r.o)).heap.size:=by rw[size_putC];exact ltOf H0.out
        have l1:N+1<(putC W b (rdA s a 0 a ⟨#[]⟩ ⟨#[]⟩ 0 0 false false 0 r.o)).heap.size:=by rw[size_putC];exact ltOf H1.out
        have H0':=hid ((putC_other W2 b _ N HNB.out.1).symm.trans ((HG2.out.block N l0 (by simp[HNB.out.1])).trans ((putC_other W b _ N HNB.out.1).trans H0.out)))
        have H1':=hid ((putC_other W2 b _ (N+1) HNB.out.2).symm.trans ((HG2.out.block (N+1) l1 (by simp[HNB.out.2])).trans ((putC_other W b _ (N+1) HNB.out.2).trans H1.out)))
        clear l0 l1
        obtain⟨rf,hrf⟩:∃rf,rf=(r1F a r.o).fail a 13:=⟨_,rfl⟩
        rw[←hrf] at H2R HG2 ⊢
        have HRF:=hid hrf
        clear hrf
        have hE0:=ld_tok (t:=274) (fr:=(0,0)) ((putC_other W2 b (rdA s rf.nx rf.k rf.p rf.t rf.b rf.n rf.sc rf.d rf.x rf.e rf.o) (N+1) HNB.out.2).trans H1'.out)
        have hE1:=st_tok ((putC_other W2 b (rdA s rf.nx rf.k rf.p rf.t rf.b rf.n rf.sc rf.d rf.x rf.e rf.o) N HNB.out.1).trans H0'.out) rfl r
        have hE2:=ld_tok (setRow_heap (putC W2 b (rdA s rf.nx rf.k rf.p rf.t rf.b rf.n rf.sc rf.d rf.x rf.e rf.o)) N _ (tokA r) 274 (0,0) ((putC_other W2 b (rdA s rf.nx rf.k rf.p rf.t rf.b rf.n rf.sc rf.d rf.x rf.e rf.o) N HNB.out.1).trans H0'.out))
        go_wp2
        refine bodyPost_ret (v:=tokV r) (by simp[results,Tryz.results275,go_sem,hE2]) rfl ?_
        have hav:r.adv s=rf:=by
         rw[HAM.out,midF,if_neg H34.out,if_neg HXX.out,if_neg HLL.out,if_neg HD2.out,if_neg HP2.out,if_neg HSS.out,←HRF.out,finF,if_neg (by rw[HRF.out];exact Rd.fail_e _ _ _ (by decide))]
        refine⟨rfl,?_,?_⟩
        ·rw[hav]
         exact isRd_setRow H2R.out HNB.out.1
        ·exact setRow_ext ((HG1.out.trans (putC_grown _ _ _ _)).trans HG2.out) N _ HNW.out
      ·have HP2:=hid (show Lib.hasPrefix (s.data.toList.drop a) [46,46]=true from HD.out.symm)
       have HA2:=hid (show a+2≤s.size by
        have h:=HP2.out
        rw[Lib.hasPrefix,List.isPrefixOf_iff_prefix] at h
        have:=h.length_le
        rw[List.length_drop,hln] at this
        simp at this;omega)
       go_wp2_with ((go_at_call 190;refine(HPD.out _).mono ?_;rintro e w2 ⟨rfl,hw2⟩;obtain rfl:=hw2.symm))
       go_meet
       exact adv_mk HG1.out H0.out H1.out HNB.out (putC_grown W b (rdA s a 0 a ⟨#[]⟩ ⟨#[]⟩ 0 0 false false 0 r.o) _) (isRd_put W b s { r1F a r.o with nx:=a+2,k:=5 } hW ⟨fun e=>(by cases e),HA2.out,haz⟩ _ rfl) ((HAM.out).trans (congrArg (finF s a) (by rw[midF,if_neg H34.out,if_neg HXX.out,if_neg HLL.out,if_neg HD2.out,if_pos HP2.out]))) (⟨Nat.le_add_right _ _,fun _=>by simp⟩)
     ·have HS:=hid (readNumber_call b s (r1F a r.o) a _ HRD0.out (by omega) hs ⟨rfl,rfl⟩ HTB2.out)
      go_wp2_with ((go_at_call 315;refine HS.out.mono ?_;rintro e w2 ⟨rfl,h2,hg2⟩;have H2R:=hid h2;have HG2:=hid hg2;clear h2 hg2))
      go_meet
      exact adv_mk HG1.out H0.out H1.out HNB.out HG2.out H2R.out ((HAM.out).trans (congrArg (finF s a) (by rw[midF,if_neg H34.out,if_neg HXX.out,if_neg HLL.out,if_pos HDD.out]))) (mid_num s a r.o)
    ·have HLL:=hid (show letC c=true from HL.out.symm)
     have HRW:=hid (run_word b s (r1F a r.o) a _ HRD0.out haz (by omega))
     obtain⟨rw_,hrw⟩:∃rw_,rw_=runI s.data.toList a wrdC:=⟨_,rfl⟩
     have HRZ:=hid (show rw_≤s.size by rw[hrw,←hln];exact runI_le _ _ _ haz)
     rw[←hrw] at HRW
     have HW2:=hid hrw
     clear hrw
     go_wp2_with (first
  | (go_at_call 312; refine (HLET.out _).mono ?_; rintro e w2 ⟨rfl, hw2⟩; obtain rfl := hw2.symm)
  | (go_at_call 308; refine HRW.out.mono ?_; rintro e w2 ⟨rfl, rfl⟩))
     go_meet
     exact adv_mk HG1.out H0.out H1.out HNB.out (putC_grown W b (rdA s a 0 a ⟨#[]⟩ ⟨#[]⟩ 0 0 false false 0 r.o) _) (isRd_put W b s { r1F a r.o with nx:=rw_,k:=1 } hW ⟨fun e=>(by cases e),HRZ.out,haz⟩ _ rfl) ((HAM.out).trans (congrArg (finF s a) (by rw[midF,if_neg H34.out,if_neg HXX.out,if_pos HLL.out,HW2.out]))) (HW2.out▸mid_word s a r.o)
   ·have HXX:=hid (show c.toNat=120∧Lib.hasPrefix (s.data.toList.drop a) [120,34]=true by
     have:=HQ1.out.symm
     rw[Bool.and_eq_true,decide_eq_true_eq] at this
     exact⟨this.1,HX.out.symm.trans this.2⟩)
    have ha2:a+2≤s.size:=by
     have h:=HXX.out.2
     rw[Lib.hasPrefix,List.isPrefixOf_iff_prefix] at h
     have:=h.length_le
     rw[List.length_drop,hln] at this
     simp at this;omega
    have HS:=hid (readBytes_call b s (r1F a r.o) a _ HRD0.out ha2 (by omega))
    go_wp2_with ((go_at_call 311;refine HS.out.mono ?_;rintro e w2 ⟨rfl,h2,hg2⟩;have H2R:=hid h2;have HG2:=hid hg2;clear h2 hg2))
    go_meet
    exact adv_mk HG1.out H0.out H1.out HNB.out HG2.out H2R.out ((HAM.out).trans (congrArg (finF s a) (by rw[midF,if_neg H34.out,if_pos HXX.out]))) (mid_byt s a r.o)
  case rest =>
  obtain⟨r2,h2,heq,hm,hg2,h0,h1⟩:=hcut
  obtain⟨wb,hwb⟩:∃u,u=wc:=⟨_,rfl⟩
  rw[←hwb] at h2 hg2 h0 h1 ⊢
  clear hwb
  have H2R:=hid h2
  have HEQ:=hid heq
  have HM:=hid hm
  have HG2:=hid hg2
  have H0c:=hid h0
  have H1c:=hid h1
  have hrp:=h2.ok.nx
  have hmn:=hm.1
  clear heq hm hg2 h0 h1 HRUN HTB1 HTB2 HRD0 HAM HC H0 H1 HG1 HA qe qe' halt qa qa2 qa3 hW
  by_cases he2:r2.e=0
  ·have HE2:=hid he2
   have qe2:(r2.e==0)=true:=by simp[he2]
   have HC26:=hid (fun (w':World) (h:IsRd w' b s r2∧w'.heap[N]?=some tokZ∧w'.heap[N+1]?=some (tokO r)∧w.grownBy w' (some b))=>(show w'.cell? ⟨b,0,none⟩=some (.string s)∧w'.cell? ⟨b,1,none⟩=some (.int .i64 (r2.nx:Int)) from⟨cellOf h.1.at_ 0,cellOf h.1.at_ 1⟩))
   have qmn:(a:Int)≤(r2.nx:Int):=by omega
   have qrp:(r2.nx:Int)≤(s.size:Int):=by omega
   have qn0:(0:Int)≤(r2.nx:Int):=by omega
   have qce:wb.cell? ⟨b,10,none⟩=some (.int .i64 r2.e):=cellOf h2.at_ 10
   have hIS:=hid (show IsRd wb b s r2∧wb.heap[N]?=some tokZ∧wb.heap[N+1]?=some (tokO r)∧w.grownBy wb (some b) from⟨h2,H0c.out,H1c.out,HG2.out⟩)
   clear he2 h2
   go_upto_region 26 with (fail)
   refine wp_region_split2 11 (fun w'=>IsRd w' b s r2∧w'.heap[N]?=some tokZ∧w'.heap[N+1]?=some (tokO r)∧w.grownBy w' (some b)) (by kernel_rfl) (by kernel_rfl) (by kernel_rfl) (by decide) (⟨hIS.out.1.grown (row:=none) ⟨rfl,rfl,rfl,Nat.le_refl _,fun _ _ _=>rfl⟩ (by simp),hIS.out.2.1,hIS.out.2.2.1,hIS.out.2.2.2.trans ⟨rfl,rfl,rfl,Nat.le_refl _,fun _ _ _=>rfl⟩⟩) (fun hS=>?_)
   simp only[List.take_succ_cons,List.take_zero,List.drop_succ_cons,List.drop_zero]
   refine tkQ 0 (v:=?_) ?_ hS ?_;rotate_left;· intro w' hw';have hcells:=HC26.out w' hw';go_simp;(try with_reducible rfl)
   simp only[Act.put,pt1,pt2,pt3,pt4,pt5,pt6]
   refine tkQ 1 (v:=?_) ?_ hS ?_;rotate_left;· intro w' hw';have hcells:=HC26.out w' hw';go_simp;(try with_reducible rfl)
   simp only[Act.put,pt1,pt2,pt3,pt4,pt5,pt6]
   refine tkQ 2 (v:=?_) ?_ hS ?_;rotate_left;· intro w' hw';have hcells:=HC26.out w' hw';go_simp;(try with_reducible rfl)
   simp only[Act.put,pt1,pt2,pt3,pt4,pt5,pt6]
   refine tkQ 3 (v:=?_) ?_ hS ?_;rotate_left;· intro w' hw';have hcells:=HC26.out w' hw';go_simp;(try with_reducible rfl)
   simp only[Act.put,pt1,pt2,pt3,pt4,pt5,pt6]
   refine tkQ 4 (v:=?_) ?_ hS ?_;rotate_left;· intro w' hw';have hcells:=HC26.out w' hw';go_simp;(try with_reducible rfl)
   simp only[Act.put,pt1,pt2,pt3,pt4,pt5,pt6]
   refine tkQ 5 (v:=?_) ?_ hS ?_;rotate_left;· intro w' hw';have hcells:=HC26.out w' hw';go_simp;(try with_reducible rfl)
   simp only[Act.put,pt1,pt2,pt3,pt4,pt5,pt6]
   refine tkQ 6 (v:=?_) ?_ hS ?_;rotate_left;· intro w' hw';have hcells:=HC26.out w' hw';go_simp;(try with_reducible rfl)
   simp only[Act.put,pt1,pt2,pt3,pt4,pt5,pt6]
   refine tkQ 7 (v:=?_) ?_ hS ?_;rotate_left;· intro w' hw';have hcells:=HC26.out w' hw';go_simp;(try with_reducible rfl)
   simp only[Act.put,pt1,pt2,pt3,pt4,pt5,pt6]
   refine tkQ 8 (v:=?_) ?_ hS ?_;rotate_left;· intro w' hw';have hcells:=HC26.out w' hw';go_simp;(try with_reducible rfl)
   simp only[Act.put,pt1,pt2,pt3,pt4,pt5,pt6]
   refine tkQ 9 (v:=?_) ?_ hS ?_;rotate_left;· intro w' hw';have hcells:=HC26.out w' hw';go_simp;(try with_reducible rfl)
   simp only[Act.put,pt1,pt2,pt3,pt4,pt5,pt6]
   refine tkQ 10 (v:=?_) ?_ hS ?_;rotate_left;· intro w' hw';have hcells:=HC26.out w' hw';go_simp;(try with_reducible rfl)
   simp only[Act.put,pt1,pt2,pt3,pt4,pt5,pt6]
   refine wpAnyH_done (by kernel_rfl) ?_ _
   (try dsimp only)
   obtain⟨w6,hw6⟩:∃w6,w6=wb.drew:=⟨_,rfl⟩
   rw[←hw6] at hS ⊢
   clear hw6
   obtain⟨hr6,ha6,hb6,hc6⟩:=hS
   have HR6:=hid hr6
   have HG6:=hid hc6
   obtain⟨W2,hW2,hw2⟩:=hr6.put
   subst hw2
   have H0:=hid ((putC_other W2 b _ N HNB.out.1).symm.trans ha6)
   have H1:=hid ((putC_other W2 b _ (N+1) HNB.out.2).symm.trans hb6)
   clear ha6 hb6 hc6 hr6
   have hE0:=ld_tok (t:=274) (fr:=(0,0)) ((putC_other W2 b (rdA s r2.nx r2.k r2.p (s.extract a r2.nx) r2.b r2.n r2.sc r2.d r2.x r2.e r2.o) (N+1) HNB.out.2).trans H1.out)
   have hE1:=st_tok ((putC_other W2 b (rdA s r2.nx r2.k r2.p (s.extract a r2.nx) r2.b r2.n r2.sc r2.d r2.x r2.e r2.o) N HNB.out.1).trans H0.out) rfl r
   have hE2:=ld_tok (setRow_heap (putC W2 b (rdA s r2.nx r2.k r2.p (s.extract a r2.nx) r2.b r2.n r2.sc r2.d r2.x r2.e r2.o)) N _ (tokA r) 274 (0,0) ((putC_other W2 b (rdA s r2.nx r2.k r2.p (s.extract a r2.nx) r2.b r2.n r2.sc r2.d r2.x r2.e r2.o) N HNB.out.1).trans H0.out))
   go_wp2
   refine bodyPost_ret (v:=tokV r) (by simp[results,Tryz.results275,go_sem,hE2]) rfl ?_
   have hav:r.adv s={ r2 with t:=s.extract a r2.nx }:=by rw[HEQ.out,finF,if_pos HE2.out]
   refine⟨rfl,?_,?_⟩
   ·rw[hav]
    exact isRd_setRow (isRd_put W2 b s { r2 with t:=s.extract a r2.nx } hW2 (by have h:=fin_ok HR6.out.ok HM.out;rw[finF,if_pos HE2.out] at h;exact h) _ rfl) HNB.out.1
   ·exact setRow_ext (HG6.out.trans (putC_grown _ _ _ _)) N _ HNW.out
  ·have HE2:=hid he2
   have qe2:(r2.e==0)=false:=by simp[he2]
   have qce:wb.cell? ⟨b,10,none⟩=some (.int .i64 r2.e):=cellOf h2.at_ 10
   clear he2
   obtain⟨W2,hW2,hw2⟩:=h2.put
   subst hw2
   have H0:=hid ((putC_other W2 b _ N HNB.out.1).symm.trans H0c.out)
   have H1:=hid ((putC_other W2 b _ (N+1) HNB.out.2).symm.trans H1c.out)
   clear qce
   have hE0:=ld_tok (t:=274) (fr:=(0,0)) ((putC_other W2 b (rdA s r2.nx r2.k r2.p r2.t r2.b r2.n r2.sc r2.d r2.x r2.e r2.o) (N+1) HNB.out.2).trans H1.out)
   have hE1:=st_tok ((putC_other W2 b (rdA s r2.nx r2.k r2.p r2.t r2.b r2.n r2.sc r2.d r2.x r2.e r2.o) N HNB.out.1).trans H0.out) rfl r
   have hE2:=ld_tok (setRow_heap (putC W2 b (rdA s r2.nx r2.k r2.p r2.t r2.b r2.n r2.sc r2.d r2.x r2.e r2.o)) N _ (tokA r) 274 (0,0) ((putC_other W2 b (rdA s r2.nx r2.k r2.p r2.t r2.b r2.n r2.sc r2.d r2.x r2.e r2.o) N HNB.out.1).trans H0.out))
   go_wp2
   refine bodyPost_ret (v:=tokV r) (by simp[results,Tryz.results275,go_sem,hE2]) rfl ?_
   have hav:r.adv s=r2:=by rw[HEQ.out,finF,if_neg HE2.out]
   refine⟨rfl,?_,?_⟩
   ·rw[hav]
    exact isRd_setRow H2R.out HNB.out.1
   ·exact setRow_ext HG2.out N _ HNW.out
end
end
section
open Go Go.RowKit Go.Shelf
structure Rd.Fit (s:ByteArray) (r:Rd):Prop where
 t:r.t.size≤s.size
 b:r.b.size≤4 * s.size
 n:I64 r.n
 sc:0≤r.sc∧r.sc≤s.size
theorem fit_fail {s:ByteArray} {r:Rd} (h:r.Fit s) (p:Nat) (e:Int):(r.fail p e).Fit s:=by
 unfold Rd.fail;split
 ·exact⟨h.t,h.b,h.n,h.sc⟩
 ·exact h
theorem fit_r1F (s:ByteArray) (a o:Nat):(r1F a o).Fit s:=⟨Nat.zero_le _,Nat.zero_le _,by simp[r1F,I64],by simp[r1F]⟩
theorem strGo_b:∀(f:Nat) (l:List UInt8) (i:Nat) (acc:List UInt8) (j:Nat) (a:List UInt8),strGo f l i acc=.inl (j,a)→a.length≤acc.length+4 * l.length
 | 0,_,_,_,_,_,h=>by simp[strGo] at h
 | _+1,[],_,_,_,_,h=>by simp[strGo] at h
 | f+1,c :: l,i,acc,j,a,h=>by
   unfold strGo at h
   split at h
   ·simp only[Sum.inl.injEq,Prod.mk.injEq] at h;rw[←h.2];omega
   split at h
   ·cases h
   split at h
   ·have:=strGo_b f _ _ _ _ _ h
    simp only[List.length_append,List.length_cons,List.length_nil] at this ⊢;omega
   split at h
   ·cases h
   dsimp only at h
   split at h
   ·cases h
   ·have:=strGo_b f _ _ _ _ _ h
    have h4:=(escF_sz l).2
    simp only[List.length_append,List.length_cons,List.length_drop] at this ⊢;omega
theorem bytGo_b:∀(l:List UInt8) (i:Nat) (odd:Int) (acc:List UInt8) (j:Nat) (a:List UInt8),bytGo l i odd acc=.inl (j,a)→a.length≤acc.length+l.length
 | [],_,_,_,_,_,h=>by simp[bytGo] at h
 | c :: l,i,odd,acc,j,a,h=>by
   unfold bytGo at h
   split at h
   ·simp only[Sum.inl.injEq,Prod.mk.injEq] at h;rw[←h.2];omega
   split at h
   ·cases h
   split at h
   ·have:=bytGo_b l _ _ _ _ _ h;simp only[List.length_cons];omega
   ·have:=bytGo_b l _ _ _ _ _ h
    simp only[List.length_append,List.length_cons,List.length_nil] at this ⊢;omega
theorem decP_bd (l:List UInt8):I64 (decP l).1∧(decP l).2.1≤l.length:=by
 unfold decP
 split
 ·exact⟨⟨by decide,by decide⟩,Nat.zero_le _⟩
 split
 ·exact⟨⟨by decide,by decide⟩,Nat.zero_le _⟩
 dsimp only
 split
 ·exact⟨⟨by decide,by decide⟩,Nat.zero_le _⟩
 ·exact⟨atoiV_bounds _,by have:=cut_len l [46];dsimp only;omega⟩
theorem trimS_len (l p:List UInt8):(Lib.trimSuffix l p).length≤l.length:=by
 unfold Lib.trimSuffix
 split
 ·rw[List.length_take];omega
 ·exact Nat.le_refl _
theorem ext_len (s:ByteArray) (a b:Nat):(s.extract a b).size≤s.size:=by
 have h:(s.extract a b).data.toList.length=(s.extract a b).size:=rfl
 rw[←h,Lib.extract_data,List.length_take,List.length_drop]
 have:s.data.toList.length=s.size:=rfl
 omega
theorem fit_str {s:ByteArray} {r:Rd} (h:r.Fit s) (a:Nat):(rdStr s.data.toList a r).Fit s:=by
 unfold rdStr
 split
 ·rename_i i b hq
  have h1:=strGo_b _ _ _ _ _ _ hq
  rw[List.length_drop] at h1
  have h0:s.data.toList.length=s.size:=rfl
  have hb:(⟨b.toArray⟩:ByteArray).size≤4 * s.size:=by rw[bSize];simp at h1;omega
  split
  ·have h2:=fit_fail h a 16
   exact⟨h2.t,hb,h2.n,h2.sc⟩
  ·exact⟨h.t,hb,h.n,h.sc⟩
 ·exact fit_fail h _ _
 ·exact fit_fail h _ _
theorem fit_byt {s:ByteArray} {r:Rd} (h:r.Fit s) (a:Nat):(rdByt s.data.toList a r).Fit s:=by
 unfold rdByt
 split
 ·rename_i i b hq
  have h1:=bytGo_b _ _ _ _ _ _ hq
  rw[List.length_drop] at h1
  have h0:s.data.toList.length=s.size:=rfl
  have hb:(⟨b.toArray⟩:ByteArray).size≤4 * s.size:=by rw[bSize];simp at h1;omega
  exact⟨h.t,hb,h.n,h.sc⟩
 ·exact fit_fail h _ _
 ·exact fit_fail h _ _
theorem fit_num {s:ByteArray} {r:Rd} (h:r.Fit s) (a:Nat):(rdNum s.data.toList s a r).Fit s:=by
 unfold rdNum
 dsimp only
 obtain⟨f,hf⟩:∃f,f=(if s.data.toList[a]?=some 45 then a+1 else a):=⟨_,rfl⟩
 rw[←hf]
 obtain⟨tq,htq⟩:∃tq,tq=runI s.data.toList f digC:=⟨_,rfl⟩
 rw[←htq]
 split
 ·exact fit_fail h _ _
 ·obtain⟨q,hq⟩:∃q,q=(if s.data.toList[tq]?=some 46∧(s.data.toList[tq+1]?.any digC)=true then (runI s.data.toList (tq+1) digC,true,false) else if s.data.toList[tq]?=some 100 then (tq+1,true,true) else (tq,false,false)):=⟨_,rfl⟩
  rw[←hq]
  obtain⟨l,hl⟩:∃l,l=Lib.trimSuffix (s.extract a q.1).data.toList [100]:=⟨_,rfl⟩
  have hll:l.length≤s.size:=by
   have h1:=trimS_len (s.extract a q.1).data.toList [100]
   have h2:=ext_len s a q.1
   have h3:(s.extract a q.1).data.toList.length=(s.extract a q.1).size:=rfl
   rw[hl];omega
  rw[←hl]
  obtain⟨d1,d2⟩:=decP_bd l
  have hsc:(0:Int)≤(((decP l).2.1:Nat):Int)∧(((decP l).2.1:Nat):Int)≤(s.size:Int):=by omega
  split
  ·have h2:=fit_fail (s:=s) (r:={ r with nx:=q.1,d:=q.2.1,x:=q.2.2 }) ⟨h.t,h.b,h.n,h.sc⟩ a (decP l).2.2
   exact⟨h2.t,h2.b,d1,hsc⟩
  ·exact⟨h.t,h.b,d1,hsc⟩
theorem fit_mid (s:ByteArray) (a o:Nat) (c:UInt8):(midF s a o c).Fit s:=by
 have h:=fit_r1F s a o
 unfold midF
 split;· exact fit_str h a
 split;· exact fit_byt h a
 split;· exact⟨h.t,h.b,h.n,h.sc⟩
 split;· exact fit_num h a
 split;· exact⟨h.t,h.b,h.n,h.sc⟩
 split;· exact⟨h.t,h.b,h.n,h.sc⟩
 exact fit_fail h _ _
theorem fit_adv {s:ByteArray} {r:Rd} (h:r.Fit s):(r.adv s).Fit s:=by
 by_cases he:r.e=0
 ·cases hc:s.data.toList[runI s.data.toList r.nx spC]? with
  | none=>rw[adv_end he hc];exact fit_r1F _ _ _
  | some c =>
    rw[adv_mid he hc]
    have hm:=fit_mid s (runI s.data.toList r.nx spC) r.o c
    unfold finF
    split
    ·exact⟨ext_len _ _ _,hm.b,hm.n,hm.sc⟩
    ·exact hm
 ·unfold Rd.adv;rw[if_pos he];exact h
end
section
open Go Go.RowKit Go.Shelf
attribute [local go_sem] putC_setCell putC_cell putC_cell_ne putC_frozen putC_frozen_ne size_putC
theorem adv_call (b:Nat) (s:ByteArray) (r:Rd) (w:World) (h:IsRd w b s r) (hs:s.size≤100000) (hTB:TB w b) :
 Calls Tryz.prog 275 #[.pointer (some ⟨b,0,none⟩)] w fun x w'=>x=.returned (tokV r)∧IsRd w' b s (r.adv s)∧w.grownBy w' (some b):=by
 by_cases he:r.e=0
 ·exact adv_good b s r w h hs hTB he
 ·exact adv_bad b s r w h he
def Rd.acc (s:ByteArray) (r:Rd) (t:ByteArray):Rd:=if r.is t=true then r.adv s else r
theorem accept_call (b:Nat) (s:ByteArray) (r:Rd) (t:ByteArray) (w:World) (h:IsRd w b s r) (hs:s.size≤100000) (hTB:TB w b) :
 Calls Tryz.prog 345 #[.pointer (some ⟨b,0,none⟩),.string t] w fun x w'=>x=.returned (.bool (r.is t))∧IsRd w' b s (r.acc s t)∧w.grownBy w' (some b):=by
 have HI:=hid (is_call b s r t w h)
 have HA:=hid (adv_call b s r w h hs hTB)
 have HR:=hid h
 obtain⟨q,hq⟩:∃q,q=r.is t:=⟨_,rfl⟩
 rw[←hq] at HI ⊢
 have HQ:=hid (show r.acc s t=if q=true then r.adv s else r by rw[hq];rfl)
 clear h hq
 cases q
 ·go_enter Tryz.func345,Tryz.ntmps345
  go_wp2_with (go_at_call 316;refine HI.out.mono ?_;rintro e w2 ⟨rfl,hw2⟩;obtain rfl:=hw2.symm)
  go_ret
  exact⟨rfl,by rw[HQ.out];exact HR.out,⟨rfl,rfl,rfl,Nat.le_refl _,fun _ _ _=>rfl⟩⟩
 ·go_enter Tryz.func345,Tryz.ntmps345
  go_wp2_with (first
   | (go_at_call 275;refine HA.out.mono ?_;rintro e w2 ⟨rfl,h2,hg2⟩;have H2R:=hid h2;have HG2:=hid hg2;clear h2 hg2)
   | (go_at_call 316;refine HI.out.mono ?_;rintro e w2 ⟨rfl,hw2⟩;obtain rfl:=hw2.symm))
  go_ret
  exact⟨rfl,by rw[HQ.out];exact H2R.out,HG2.out⟩
theorem expect_call (b:Nat) (s:ByteArray) (r:Rd) (t:ByteArray) (w:World) (h:IsRd w b s r) (hs:s.size≤100000) (hTB:TB w b) :
 Calls Tryz.prog 317 #[.pointer (some ⟨b,0,none⟩),.string t] w fun x w'=>x=.returned (.tuple #[])∧IsRd w' b s (r.expect s t)∧w.grownBy w' (some b):=by
 have HA:=hid (accept_call b s r t w h hs hTB)
 have HR:=hid h
 have HFL:=hid (fun (w':World) (h':IsRd w' b s r)=>fail_call b s r r.p 13 w' h')
 obtain⟨q,hq⟩:∃q,q=r.is t:=⟨_,rfl⟩
 rw[←hq] at HA
 have HQ:=hid (show r.expect s t=if r.e≠0 then r else if q=true then r.adv s else r.fail r.p 13 by rw[hq];rfl)
 have HC:=hid (show r.acc s t=if q=true then r.adv s else r by rw[hq];rfl)
 clear hq
 by_cases he:r.e=0
 ·have HE:=hid he
  have qe:(r.e==0)=true:=by simp[he]
  have qc:w.cell? ⟨b,10,none⟩=some (.int .i64 r.e):=cellOf h.at_ 10
  clear he h
  cases q
  ·have HPC:=hid (fun (w2:World) (h2:IsRd w2 b s r)=>(cellOf h2.at_ 3:w2.cell? ⟨b,3,none⟩=some (.int .i64 (r.p:Int))))
   go_enter Tryz.func317,Tryz.ntmps317
   go_wp2_with (first
    | (go_at_call 274;refine(HFL.out w2 H2R.out).mono ?_;rintro e w3 ⟨rfl,h3,hg3⟩;have H3R:=hid h3;have HG3:=hid hg3;clear h3 hg3)
    | (go_at_call 345;refine HA.out.mono ?_;rintro e w2 ⟨rfl,h2,hg2⟩;rw[HC.out] at h2;simp only[Bool.false_eq_true,if_false] at h2;have H2R:=hid h2;have HG2:=hid hg2;have hpc:=HPC.out w2 h2;clear h2 hg2))
   refine bodyPost_end (results_none rfl _ _ _) rfl ?_
   refine⟨rfl,?_,HG2.out.trans HG3.out⟩
   rw[HQ.out,if_neg (by simp[HE.out]),if_neg (by decide)]
   exact H3R.out
  ·go_enter Tryz.func317,Tryz.ntmps317
   go_wp2_with (go_at_call 345;refine HA.out.mono ?_;rintro e w2 ⟨rfl,h2,hg2⟩;rw[HC.out] at h2;simp only[if_true] at h2;have H2R:=hid h2;have HG2:=hid hg2;clear h2 hg2)
   refine bodyPost_end (results_none rfl _ _ _) rfl ?_
   refine⟨rfl,?_,HG2.out⟩
   rw[HQ.out,if_neg (by simp[HE.out])]
   first | rw[if_pos rfl] | rw[if_pos trivial]
   exact H2R.out
 ·have HE:=hid he
  have qe:(r.e==0)=false:=by simp[he]
  have qc:w.cell? ⟨b,10,none⟩=some (.int .i64 r.e):=cellOf h.at_ 10
  clear he h
  go_enter Tryz.func317,Tryz.ntmps317
  go_wp2
  refine bodyPost_end (results_none rfl _ _ _) rfl ?_
  refine⟨rfl,?_,⟨rfl,rfl,rfl,Nat.le_refl _,fun _ _ _=>rfl⟩⟩
  rw[HQ.out,if_pos HE.out]
  exact HR.out
def takeT (r:Rd) (k:Nat):Rd:=if r.e=0∧r.k=k then r else r1F 0 0
section
attribute [-go_sem] loadCellsFrom storeCells
attribute [local go_sem] lcf0 lcf1 lcf2 lcf3 lcf4 lcf5 lcf6 lcf7 stc0 stc1
theorem take_call (b:Nat) (s:ByteArray) (r:Rd) (k:Nat) (w:World) (h:IsRd w b s r) (hs:s.size≤100000) (hTB:TB w b) :
 Calls Tryz.prog 346 #[.pointer (some ⟨b,0,none⟩),.int .i64 k] w fun x w'=>x=.returned (tokV (takeT r k))∧IsRd w' b s (r.take s k)∧w.grownBy w' (some b):=by
 obtain⟨N,hN⟩:∃N,N=w.heap.size:=⟨_,rfl⟩
 have HG1:=hid (World.grownBy_alloc w tokZ (some b))
 have HNB:=hid (show N≠b by rw[hN];exact fun e=>Nat.lt_irrefl _ (e▸h.lt))
 have hr1:=h.alloc tokZ
 have hcz:(w.alloc tokZ).heap[N]?=some tokZ:=by rw[hN];exact heap_alloc_new w _
 have hNz:N<(w.alloc tokZ).heap.size:=by rw[hN,World.size_alloc];exact Nat.lt_succ_self _
 have HNW:=hid (show w.heap.size≤N by omega)
 have HTB1:=hid (hTB.grown HG1.out (.inr rfl))
 have HADV:=hid (adv_call b s r (w.alloc tokZ) hr1 hs HTB1.out)
 have HFL:=hid (fail_call b s r r.p 13 (w.alloc tokZ) hr1)
 have HZ:=hid hcz
 have HNZ:=hid hNz
 have qe10:(w.alloc tokZ).cell? ⟨b,10,none⟩=some (.int .i64 r.e):=cellOf hr1.at_ 10
 have qk2:(w.alloc tokZ).cell? ⟨b,2,none⟩=some (.int .i64 (r.k:Int)):=cellOf hr1.at_ 2
 have qp3:(w.alloc tokZ).cell? ⟨b,3,none⟩=some (.int .i64 (r.p:Int)):=cellOf hr1.at_ 3
 have HR1:=hid hr1
 clear hcz hNz hr1 h hTB
 -- the end: token z stored into the result's block of w2
 have HEND:=hid (fun (w2:World) (hg:(w.alloc tokZ).grownBy w2 (some b)) (z:Rd)=>(show(storeCells ⟨N,0,none⟩ [.int .i64 z.k,.int .i64 z.p,.string z.t,.string z.b,.int .i64 z.n,.int .i64 z.sc,.bool z.d,.bool z.x] 0).run Tryz.prog w2=.ok () (w2.setRow N (tokA z))∧(loadCellsFrom ⟨N,0,none⟩ 0 8 #[]).run Tryz.prog (w2.setRow N (tokA z))=.ok (tokA z) (w2.setRow N (tokA z)) from by
  have h0:=(hg.block N HNZ.out (by simp[HNB.out])).trans HZ.out
  exact⟨st_tok h0 rfl z,ld_tok (setRow_heap w2 N _ (tokA z) 274 (0,0) h0)⟩))
 have HEZ:=hid (fun (w2:World) (hg:(w.alloc tokZ).grownBy w2 (some b))=>(show(storeCells ⟨N,0,none⟩ [.int .i64 0,.int .i64 0,.string ⟨#[]⟩,.string ⟨#[]⟩,.int .i64 0,.int .i64 0,.bool false,.bool false] 0).run Tryz.prog w2=.ok () (w2.setRow N #[.int .i64 0,.int .i64 0,.string ⟨#[]⟩,.string ⟨#[]⟩,.int .i64 0,.int .i64 0,.bool false,.bool false])∧(loadCellsFrom ⟨N,0,none⟩ 0 8 #[]).run Tryz.prog (w2.setRow N #[.int .i64 0,.int .i64 0,.string ⟨#[]⟩,.string ⟨#[]⟩,.int .i64 0,.int .i64 0,.bool false,.bool false])=.ok #[.int .i64 0,.int .i64 0,.string ⟨#[]⟩,.string ⟨#[]⟩,.int .i64 0,.int .i64 0,.bool false,.bool false] (w2.setRow N #[.int .i64 0,.int .i64 0,.string ⟨#[]⟩,.string ⟨#[]⟩,.int .i64 0,.int .i64 0,.bool false,.bool false]) from HEND.out w2 hg (r1F 0 0)))
 by_cases he:r.e=0
 ·have HE:=hid he
  have qe:(r.e==0)=true:=by simp[he]
  have qe':(r.e != 0)=false:=by simp[he]
  by_cases hk:r.k=k
  ·have HT:=hid (show takeT r k=r by rw[takeT,if_pos ⟨he,hk⟩])
   have HS:=hid (show r.take s k=r.adv s by rw[Rd.take,if_neg (by simp[he]),if_neg (by simp[hk])])
   have qk:((r.k:Int)==(k:Int))=true:=by simp;omega
   have qk':((r.k:Int) != (k:Int))=false:=by simp;omega
   clear he hk
   go_enter Tryz.func346,Tryz.ntmps346
   go_wp2_with (go_at_call 275;refine HADV.out.mono ?_;rintro e w2 ⟨rfl,h2,hg2⟩;have H2R:=hid h2;have HG2:=hid hg2;obtain⟨hE1,hE2⟩:=HEND.out w2 hg2 r;rw[hN] at hE1 hE2;clear h2 hg2)
   refine bodyPost_ret (v:=tokV r) (by simp[results,Tryz.results346,go_sem,hE2]) rfl ?_
   rw[HT.out,HS.out]
   exact⟨rfl,isRd_setRow H2R.out (hN▸HNB.out),setRow_ext (HG1.out.trans HG2.out) _ _ (Nat.le_refl _)⟩
  ·have HT:=hid (show takeT r k=r1F 0 0 by rw[takeT,if_neg (fun h=>hk h.2)])
   have HS:=hid (show r.take s k=r.fail r.p 13 by rw[Rd.take,if_neg (by simp[he]),if_pos hk])
   have HFE:=hid (show(r.fail r.p 13).e≠0 from Rd.fail_e _ _ _ (by decide))
   have qk:((r.k:Int)==(k:Int))=false:=by simp;omega
   have qk':((r.k:Int) != (k:Int))=true:=by simp;omega
   obtain⟨rf,hrf⟩:∃rf,rf=r.fail r.p 13:=⟨_,rfl⟩
   rw[←hrf] at HFE HFL HS
   have qf:(rf.e==0)=false:=by simp[HFE.out]
   have qf':(rf.e != 0)=true:=by simp[HFE.out]
   clear he hk hrf
   go_enter Tryz.func346,Tryz.ntmps346
   go_wp2_with (go_at_call 274;refine HFL.out.mono ?_;rintro e w2 ⟨rfl,h2,hg2⟩;have H2R:=hid h2;have HG2:=hid hg2;obtain⟨hE1,hE2⟩:=HEZ.out w2 hg2;rw[hN] at hE1 hE2;have qc10:=(cellOf h2.at_ 10:w2.cell? ⟨b,10,none⟩=some (.int .i64 rf.e));clear h2 hg2)
   refine bodyPost_ret (v:=.agg #[.int .i64 0,.int .i64 0,.string ⟨#[]⟩,.string ⟨#[]⟩,.int .i64 0,.int .i64 0,.bool false,.bool false]) (by simp[results,Tryz.results346,go_sem,hE2]) rfl ?_
   rw[HT.out,HS.out]
   exact⟨rfl,isRd_setRow H2R.out (hN▸HNB.out),setRow_ext (HG1.out.trans HG2.out) _ _ (Nat.le_refl _)⟩
 ·have HT:=hid (show takeT r k=r1F 0 0 by rw[takeT,if_neg (fun h=>he h.1)])
  have HS:=hid (show r.take s k=r by rw[Rd.take,if_pos he])
  have qe:(r.e==0)=false:=by simp[he]
  have qe':(r.e != 0)=true:=by simp[he]
  obtain⟨hE1,hE2⟩:=HEZ.out (w.alloc tokZ) ⟨rfl,rfl,rfl,Nat.le_refl _,fun _ _ _=>rfl⟩
  rw[hN] at hE1 hE2
  clear he
  go_enter Tryz.func346,Tryz.ntmps346
  go_wp2
  refine bodyPost_ret (v:=.agg #[.int .i64 0,.int .i64 0,.string ⟨#[]⟩,.string ⟨#[]⟩,.int .i64 0,.int .i64 0,.bool false,.bool false]) (by simp[results,Tryz.results346,go_sem,hE2]) rfl ?_
  rw[HT.out,HS.out]
  exact⟨rfl,isRd_setRow HR1.out (hN▸HNB.out),setRow_ext HG1.out _ _ (Nat.le_refl _)⟩
end
end
section
open Go Go.RowKit Go.Shelf
theorem inN_call (a x y:Int) (w:World):Calls Tryz.prog 330 #[.int .i64 a,.int .i64 x,.int .i64 y] w fun e w'=>e=.returned (.bool (decide (x≤a)&&decide (a≤y)))∧w'=w:=by
 by_cases h1:x≤a<;>by_cases h2:a≤y <;>
  (go_enter Tryz.func330,Tryz.ntmps330;go_wp2;go_ret;exact⟨by simp[h1,h2],rfl⟩)
theorem numD_len:∀(k n:Nat) (l:List UInt8),l.length<k→numD k n l=none
 | 0,_,_,h=>absurd h (by omega)
 | k+1,_,[],_=>rfl
 | k+1,n,c :: l,h=>by
   rw[numD]
   split
   ·exact numD_len k _ l (by simp at h;omega)
   ·rfl
theorem numD_step (k n:Nat) (c:UInt8) (l:List UInt8) (h:digC c=true):numD (k+1) n (c :: l)=numD k (10 * n+(c.toNat-48)) l:=by rw[numD,if_pos h]
theorem numD_fail (k n:Nat) (c:UInt8) (l:List UInt8) (h:digC c=false):numD (k+1) n (c :: l)=none:=by rw[numD,if_neg (by rw[h];decide)]
def NumRes (o:Option (Nat × List UInt8)) (v:Value):Prop:=match o with
 | some (n,r)=>v=.tuple #[.int .i64 n,.string ⟨r.toArray⟩,.bool true]
 | none=>∃t:ByteArray,v=.tuple #[.int .i64 0,.string t,.bool false]
theorem calNumber_call (s:ByteArray) (hs:s.size≤1000000) (k:Nat) (hk:k≤9) (w:World) :
 Calls Tryz.prog 351 #[.string s,.int .i64 k] w fun x w'=>(∃v,x=.returned v∧NumRes (numD k 0 s.data.toList) v)∧Below w.heap.size w w':=by
 have hln:s.data.toList.length=s.size:=rfl
 by_cases hsh:s.size<k
 ·have hsh':(s.size:Int)<(k:Int):=by omega
  have HE:=hid (numD_len k 0 s.data.toList (by omega))
  go_enter Tryz.func351,Tryz.ntmps351
  go_wp2
  refine bodyPost_ret (v:=.tuple #[.int .i64 0,.string s,.bool false]) (by simp[results,Tryz.results351,go_sem]) rfl ?_
  exact⟨⟨_,rfl,by rw[HE.out];exact⟨_,rfl⟩⟩,Below.refl _ _⟩
 have hsh':¬ (s.size:Int)<(k:Int):=by omega
 go_enter Tryz.func351,Tryz.ntmps351
 go_wp2
 go_loopw [4,14] (fun nv iv wr=>∃n i:Nat,nv=.int .i64 n∧iv=.int .i64 i∧i≤k∧n<10 ^ i∧numD k 0 s.data.toList=numD (k-i) n (s.data.toList.drop i)∧wr=w) (fun _ iv _=>k-(intOf iv).toNat)
 case atStart=>exact⟨0,0,rfl,rfl,Nat.zero_le _,by decide,rfl,rfl⟩
 case round =>
  obtain⟨n,i,rfl,rfl,hi,hn,heq,hwr⟩:=hrel
  obtain rfl:=hwr.symm
  have HEQ:=hid heq
  clear heq
  by_cases hlt:i<k
  ·have hlt':(i:Int)<(k:Int):=by omega
   have his:(i:Int)<(s.size:Int):=by omega
   have hi0:(0:Int)≤(i:Int):=by omega
   have hd:=drop_at s i (by omega)
   obtain⟨j,hj⟩:∃j,k-i=j+1:=⟨k-i-1,by omega⟩
   have h1:=numD_step j n s[i] (s.data.toList.drop (i+1))
   have h2:=numD_fail j n s[i] (s.data.toList.drop (i+1))
   rw[←hd,←hj,←HEQ.out] at h1 h2
   have hd10:n<1000000000 / 10:=Nat.lt_of_lt_of_le hn (by have:10 ^ i≤10 ^ 8:=Nat.pow_le_pow_right (by decide) (by omega);omega)
   have hin:=inN_call (s[i].toNat:Int) 48 57 w
   have hdg:digC s[i]=(decide ((48:Int)≤s[i].toNat)&&decide ((s[i].toNat:Int)≤57)):=by
    unfold digC;congr 2<;>simp<;>omega
   rw[←hdg] at hin
   have hcv:=s[i].toNat_lt
   have hpow:10 * n+10≤10 ^ (i+1):=by rw[Nat.pow_succ];omega
   obtain⟨q,hq⟩:∃q,q=digC s[i]:=⟨_,rfl⟩
   rw[←hq] at hin h1 h2
   have hqc:q=true→48≤s[i].toNat∧s[i].toNat≤57:=by
    intro h
    rw[hq,hdg,Bool.and_eq_true,decide_eq_true_eq,decide_eq_true_eq] at h
    omega
   have HIN:=hid hin
   have H1:=hid h1
   have H2:=hid h2
   have HJ:=hid hj
   clear h1 h2 hin hdg hq hd hj hn HEQ
   cases q
   ·go_wp2_with (go_at_call 330;refine HIN.out.mono ?_;rintro e w2 ⟨rfl,hw2⟩;obtain rfl:=hw2.symm)
    refine bodyPost_ret (v:=.tuple #[.int .i64 0,.string s,.bool false]) (by simp[results,Tryz.results351,go_sem]) rfl ?_
    exact⟨⟨_,rfl,by rw[H2.out trivial];exact⟨_,rfl⟩⟩,Below.refl _ _⟩
   ·obtain⟨c1,c2⟩:=hqc rfl
    have e1:IntKind.i64.wrap (10 * (n:Int))=10 * n:=IntWalk.i64_in _ ⟨by omega,by omega⟩
    have e2:IntKind.u8.wrap ((s[i].toNat:Int)-48)=(s[i].toNat:Int)-48:=IntWalk.u8_in _ ⟨by omega,by omega⟩
    have e3:IntKind.i64.wrap ((s[i].toNat:Int)-48)=(s[i].toNat:Int)-48:=IntWalk.i64_in _ ⟨by omega,by omega⟩
    have e4:IntKind.i64.wrap (10 * (n:Int)+((s[i].toNat:Int)-48))=10 * (n:Int)+((s[i].toNat:Int)-48):=IntWalk.i64_in _ ⟨by omega,by omega⟩
    go_wp2_with (go_at_call 330;refine HIN.out.mono ?_;rintro e w2 ⟨rfl,hw2⟩;obtain rfl:=hw2.symm)
    refine⟨⟨10 * n+(s[i].toNat-48),i+1,by congr 1;omega,by go_num,by omega,by omega,?_,trivial⟩,by simp[intOf];omega⟩
    rw[H1.out trivial,show k-(i+1)=k-i-1 by omega,HJ.out]
    rfl
  ·obtain rfl:i=k:=by omega
   have HE:=hid (show numD i 0 s.data.toList=some (n,s.data.toList.drop i) by rw[HEQ.out,Nat.sub_self];rfl)
   clear HEQ
   have hz1:(i:Int)≤(s.size:Int):=by omega
   have hz0:(0:Int)≤(i:Int):=by omega
   go_upto_region 10 with (fail)
   go_quiet (fail)
   go_wp2
   refine bodyPost_ret (v:=.tuple #[.int .i64 (n:Int),.string (s.extract i s.size),.bool true]) (by simp[results,Tryz.results351,go_sem]) rfl ?_
   refine⟨⟨_,rfl,?_⟩,⟨rfl,rfl,rfl,Nat.le_refl _,fun _ _=>rfl⟩⟩
   rw[HE.out]
   show _=_
   rw[←extract_drop]
end
section
open Go Go.RowKit Go.Shelf
def ymOK (y m:Nat):Bool:=(decide (1≤y)&&decide (y≤9999))&&(decide (1≤m)&&decide (m≤12))
theorem monthDays2_call (y m:Nat) (w:World):Calls Tryz.prog 368 #[.int .i64 y,.int .i64 m] w fun e w'=>e=.returned (if ymOK y m=true then .tuple #[.int .i64 (mdays y m),.int .i64 0] else .tuple #[.int .i64 0,.int .i64 17])∧w'=w:=by
 obtain⟨V,hV⟩:∃V:Value,V=if ymOK y m=true then .tuple #[.int .i64 (mdays y m),.int .i64 0] else .tuple #[.int .i64 0,.int .i64 17]:=⟨_,rfl⟩
 rw[←hV]
 have HV:=hid hV
 clear hV
 by_cases hy:1≤y∧y≤9999<;>by_cases hm:1≤m∧m≤12
 ·have HMD:=hid (mdays_call y m hy.1 hy.2 hm.1 hm.2 w)
  have HO:=hid (show ymOK y m=true by unfold ymOK;simp[hy,hm])
  have a1:(1:Int)≤(y:Int):=by omega
  have a2:(y:Int)≤9999:=by omega
  have a3:(1:Int)≤(m:Int):=by omega
  have a4:(m:Int)≤12:=by omega
  clear hy hm
  go_enter Tryz.func368,Tryz.ntmps368
  go_wp2_with (first
   | (go_at_call 332;refine HMD.out.mono ?_;rintro e w2 ⟨rfl,hw2⟩;obtain rfl:=hw2)
   | (go_at_call 330;refine(inN_call _ _ _ _).mono ?_;rintro e w2 ⟨rfl,hw2⟩;obtain rfl:=hw2.symm))
  refine bodyPost_ret (v:=.tuple #[.int .i64 (mdays y m),.int .i64 0]) (by simp[results,Tryz.results368,go_sem]) rfl ?_
  exact⟨by rw[HV.out,HO.out];simp,rfl⟩
 all_goals
  have HO:=hid (show ymOK y m=false by unfold ymOK;simp;omega)
  have hc:(¬ (1:Int)≤(y:Int)∨¬ (y:Int)≤9999)∨((1:Int)≤(y:Int)∧(y:Int)≤9999∧(m=0∨¬ (m:Int)≤12)):=by omega
  clear hy hm
  rcases hc with (h1 | h1) | ⟨h1,h2,rfl | h3⟩
  all_goals
   (try have h1m:(1:Int)≤(m:Int):=by omega)
   go_enter Tryz.func368,Tryz.ntmps368
   go_wp2_with (go_at_call 330;refine(inN_call _ _ _ _).mono ?_;rintro e w2 ⟨rfl,hw2⟩;obtain rfl:=hw2.symm)
   all_goals first
    | (exfalso;simp_all<;>omega)
    | (refine bodyPost_ret (v:=.tuple #[.int .i64 0,.int .i64 17]) (by simp[results,Tryz.results368,go_sem]) rfl ?_;exact⟨by rw[HV.out,HO.out];simp,rfl⟩)
end
section
open Go Go.RowKit Go.Shelf
theorem sumFrom_snoc (y:Nat):∀(j m:Nat),sumFrom y (j+1) m=sumFrom y j m+mdays y (m+j)
 | 0,m=>by simp[sumFrom]
 | j+1,m=>by
   rw[sumFrom,sumFrom_snoc y j (m+1),sumFrom]
   rw[show m+1+j=m+(j+1) by omega];omega
theorem sumFrom_le (y:Nat):∀(j m:Nat),sumFrom y j m≤31 * j
 | 0,m=>by simp[sumFrom]
 | j+1,m=>by
   have:=sumFrom_le y j (m+1)
   have:=mdays_le y m
   rw[sumFrom];omega
theorem befY_le (y:Nat) (h:y≤10000):befY y≤4000000:=by unfold befY;omega
theorem days_call (y m d:Nat) (hy:y≤99999) (hm:m≤99999) (hd:d≤99999) (w:World):Calls Tryz.prog 350 #[.int .i64 y,.int .i64 m,.int .i64 d] w fun e w'=>e=.returned (.tuple #[.int .i64 (daysF y m d).1,.int .i64 (daysF y m d).2])∧w'=w:=by
 obtain⟨z1,hz1⟩:∃z1,z1=(daysF y m d).1:=⟨_,rfl⟩
 obtain⟨z2,hz2⟩:∃z2,z2=(daysF y m d).2:=⟨_,rfl⟩
 rw[←hz1,←hz2]
 have HZ:=hid (show daysF y m d=(z1,z2) by rw[hz1,hz2])
 clear hz1 hz2
 have hMD:=monthDays2_call y m w
 obtain⟨q,hq⟩:∃q,q=ymOK y m:=⟨_,rfl⟩
 rw[←hq] at hMD
 have HQ:=hid hq
 clear hq
 cases q
 ·have HMD:Hid (Calls Tryz.prog 368 #[.int .i64 y,.int .i64 m] w fun e w'=>e=.returned (.tuple #[.int .i64 0,.int .i64 17])∧w'=w):=hid (hMD.mono fun e w' ⟨h1,h2⟩=>⟨by rw[h1];rfl,h2⟩)
  clear hMD
  go_enter Tryz.func350,Tryz.ntmps350
  go_wp2_with (go_at_call 368;refine HMD.out.mono ?_;rintro e w2 ⟨rfl,hw2⟩;obtain rfl:=hw2.symm)
  go_ret2
  refine⟨?_,rfl⟩
  have hn:=HQ.out.symm
  have hz:=HZ.out
  unfold daysF at hz
  rw[if_pos (by unfold ymOK at hn;simp only[Bool.and_eq_false_iff,decide_eq_false_iff_not] at hn;omega)] at hz
  cases hz;rfl
 ·have hn:=HQ.out.symm
  unfold ymOK at hn
  simp only[Bool.and_eq_true,decide_eq_true_eq] at hn
  obtain⟨⟨y1,y2⟩,m1,m2⟩:=hn
  have HMD:Hid (Calls Tryz.prog 368 #[.int .i64 y,.int .i64 m] w fun e w'=>e=.returned (.tuple #[.int .i64 (mdays y m),.int .i64 0])∧w'=w):=hid (hMD.mono fun e w' ⟨h1,h2⟩=>⟨by rw[h1];rfl,h2⟩)
  clear hMD
  have HIN:=hid (inN_call d 1 (mdays y m) w)
  obtain⟨mx,hmx⟩:∃mx:Nat,mx=mdays y m:=⟨_,rfl⟩
  rw[←hmx] at HMD HIN
  have HMX:=hid hmx
  clear hmx
  by_cases hd1:1≤d∧d≤mx
  ·have HD1:=hid hd1
   have q1:(decide ((1:Int)≤(d:Int))&&decide ((d:Int)≤(mx:Int)))=true:=by simp;omega
   rw[q1] at HIN
   have HBF:=hid (before_call y y1 (by omega) w)
   have hbl:=befY_le y (by omega)
   obtain⟨bf,hbf⟩:∃bf,bf=befY y:=⟨_,rfl⟩
   rw[←hbf] at HBF hbl
   have HB:=hid hbf
   have HML:=hid (fun (k:Nat) (h1:1≤k) (h2:k≤12)=>mdays_call y k y1 y2 h1 h2 w)
   have HSB:=hid (fun (k:Nat)=>(sumFrom_le y k 1))
   have HMLE:=hid (fun k=>mdays_le y k)
   have e1:IntKind.i64.wrap (-719162+(bf:Int)) = -719162+bf:=IntWalk.i64_in _ ⟨by omega,by omega⟩
   have e2:IntKind.i64.wrap (-719162+(bf:Int)+d) = -719162+bf+d:=IntWalk.i64_in _ ⟨by omega,by omega⟩
   have e3:IntKind.i64.wrap (-719162+(bf:Int)+d-1) = -719162+bf+d-1:=IntWalk.i64_in _ ⟨by omega,by omega⟩
   clear hd1 q1 hbf
   go_enter Tryz.func350,Tryz.ntmps350
   go_wp2_with (first
    | (go_at_call 331;refine HBF.out.mono ?_;rintro e w2 ⟨rfl,rfl⟩)
    | (go_at_call 330;refine HIN.out.mono ?_;rintro e w2 ⟨rfl,hw2⟩;obtain rfl:=hw2.symm)
    | (go_at_call 368;refine HMD.out.mono ?_;rintro e w2 ⟨rfl,hw2⟩;obtain rfl:=hw2.symm))
   go_loop [10,11] (fun a i=>∃k S:Nat,1≤k∧k≤m∧i=.int .i64 k∧S=sumFrom y (k-1) 1∧S≤31 * (k-1)∧a=.int .i64 (-719162+bf+d-1+S)) (fun _ i=>m-(intOf i).toNat)
   case atStart=>exact⟨1,0,Nat.le_refl _,m1,rfl,rfl,by omega,by simp⟩
   case round =>
    obtain⟨k,S,k1,k2,rfl,hS,hSl,rfl⟩:=hrel
    have HS:=hid hS
    clear hS e1 e2 e3
    by_cases hlt:k<m
    ·have hlt':(k:Int)<(m:Int):=by omega
     have hMk:=HML.out k k1 (by omega)
     have hml:=HMLE.out k
     have HSN:=hid (show sumFrom y k 1=S+mdays y k by
      have:=sumFrom_snoc y (k-1) 1
      rw[show k-1+1=k by omega,show 1+(k-1)=k by omega] at this
      rw[this,HS.out])
     obtain⟨mk,hmk⟩:∃mk,mk=mdays y k:=⟨_,rfl⟩
     rw[←hmk] at hMk hml HSN
     have HMK:=hid hMk
     have e4:IntKind.i64.wrap (-719162+(bf:Int)+d-1+S+mk) = -719162+bf+d-1+S+mk:=IntWalk.i64_in _ ⟨by omega,by omega⟩
     clear hMk hmk
     go_wp2_with (go_at_call 332;refine HMK.out.mono ?_;rintro e w2 ⟨rfl,rfl⟩)
     go_round
     case rel=>exact⟨k+1,S+mk,by omega,by omega,by go_num,by rw[show k+1-1=k by omega];exact HSN.out.symm,by omega,by congr 1;omega⟩
     case measure=>simp[intOf];omega
    ·have hlt':¬ (k:Int)<(m:Int):=by omega
     obtain rfl:k=m:=by omega
     go_wp2
     go_ret2
     refine⟨?_,rfl⟩
     have hz:=HZ.out
     unfold daysF at hz
     rw[if_neg (by have:=HD1.out;have:=HMX.out;omega),←HB.out,←HS.out] at hz
     cases hz;rfl
  ·have HD1:=hid hd1
   have q1:(decide ((1:Int)≤(d:Int))&&decide ((d:Int)≤(mx:Int)))=false:=by
    rw[Bool.and_eq_false_iff];simp only[decide_eq_false_iff_not];omega
   rw[q1] at HIN
   clear hd1 q1
   go_enter Tryz.func350,Tryz.ntmps350
   go_wp2_with (first
    | (go_at_call 330;refine HIN.out.mono ?_;rintro e w2 ⟨rfl,hw2⟩;obtain rfl:=hw2.symm)
    | (go_at_call 368;refine HMD.out.mono ?_;rintro e w2 ⟨rfl,hw2⟩;obtain rfl:=hw2.symm))
   go_ret2
   refine⟨?_,rfl⟩
   have hz:=HZ.out
   unfold daysF at hz
   rw[if_pos (by have:=HD1.out;have:=HMX.out;omega)] at hz
   cases hz;rfl
theorem joinC_call (a b:Int) (h1 : -719162≤a) (h2:a≤2932896) (h3:0≤b) (h4:b≤86399999) (w:World):Calls Tryz.prog 352 #[.int .i64 a,.int .i64 b] w fun e w'=>e=.returned (.tuple #[.int .i64 (a * 86400000+b),.int .i64 0])∧w'=w:=by
 have e1:IntKind.i64.wrap (a * 86400000)=a * 86400000:=IntWalk.i64_in _ ⟨by omega,by omega⟩
 have e2:IntKind.i64.wrap (a * 86400000+b)=a * 86400000+b:=IntWalk.i64_in _ ⟨by omega,by omega⟩
 go_enter Tryz.func352,Tryz.ntmps352
 go_wp2_with (go_at_call 330;refine(inN_call _ _ _ _).mono ?_;rintro e w2 ⟨rfl,hw2⟩;obtain rfl:=hw2.symm)
 go_ret2
 exact⟨rfl,rfl⟩
end
section
open Go Go.RowKit Go.Shelf
theorem infoIntC:(Tryz.prog.info? 3).map (fun i=>(i.zero,i.size,i.bytes))=some (some (.int .i64 0),1,8):=by kernel_rfl
def NumsRes (o:Option (List Nat × List UInt8)) (B:Nat) (w':World) (v:Value):Prop:=match o with
 | some (ns,r)=>∃row,v=.tuple #[row,.string ⟨r.toArray⟩,.bool true]∧w'.ownsRow B 3 1 row ns.length (ns.map fun (n:Nat)=>Value.int .i64 n)
 | none=>∃t:ByteArray,v=.tuple #[.slice none 0 0,.string t,.bool false]
theorem marks_fail (m:List UInt8) (k:Nat) (ms:List (List UInt8 × Nat)) (l:List UInt8) (h:Lib.hasPrefix l m=false):marksK ((m,k) :: ms) l=none:=by rw[marksK,if_pos h]
theorem marks_num (m:List UInt8) (k:Nat) (ms:List (List UInt8 × Nat)) (l:List UInt8) (h:Lib.hasPrefix l m=true):marksK ((m,k) :: ms) l=match numD k 0 (Lib.trimPrefix l m) with
 | none=>none
 | some (n,l)=>(marksK ms l).map (fun (q:List Nat × List UInt8)=>(n :: q.1,q.2)):=by
 rw[marksK,if_neg (by simp[h]),Lib.trimPrefix,if_pos h]
 cases numD k 0 (l.drop m.length) with
 | none=>rfl
 | some q=>dsimp only;cases marksK ms q.2<;>rfl
theorem map_pre (o:Option (List Nat × List UInt8)) (pre:List Nat) (n:Nat):(o.map (fun (q:List Nat × List UInt8)=>(n :: q.1,q.2))).map (fun (q:List Nat × List UInt8)=>(pre++q.1,q.2))=o.map (fun (q:List Nat × List UInt8)=>((pre++[n])++q.1,q.2)):=by cases o<;>simp
theorem trimP_len (l p:List UInt8):(Lib.trimPrefix l p).length≤l.length:=by
 unfold Lib.trimPrefix
 split
 ·rw[List.length_drop];omega
 ·exact Nat.le_refl _
theorem numD_bd:∀(k n:Nat) (l:List UInt8) (v:Nat) (r:List UInt8),numD k n l=some (v,r)→r.length≤l.length∧v<(n+1) * 10 ^ k
 | 0,n,l,v,r,h=>by
   simp only[numD,Option.some.injEq,Prod.mk.injEq] at h
   obtain⟨rfl,rfl⟩:=h
   simp
 | k+1,n,[],v,r,h=>by simp[numD] at h
 | k+1,n,c :: l,v,r,h=>by
   rw[numD] at h
   split at h
   ·rename_i hc
    have hd:48≤c.toNat∧c.toNat≤57:=by unfold digC at hc;simpa using hc
    have:=numD_bd k _ l v r h
    refine⟨by simp only[List.length_cons];omega,Nat.lt_of_lt_of_le this.2 ?_⟩
    rw[Nat.pow_succ,←Nat.mul_assoc,Nat.mul_comm ((n+1) * 10 ^ k) 10,←Nat.mul_assoc]
    exact Nat.mul_le_mul_right _ (by omega)
   ·cases h
theorem numbers_call (s:ByteArray) (hs:s.size≤500000) (L:List (List UInt8 × Nat)) (n:Nat) (hn:n=L.length) (h20:n≤20) (bm bd:Nat) (w:World) (hm:∀j (h:j<L.length),w.cell? ⟨bm,j,none⟩=some (.string ⟨L[j].1.toArray⟩)) (hd:∀j (h:j<L.length),w.cell? ⟨bd,j,none⟩=some (.int .i64 (L[j].2:Nat)))
 (hk:∀j (h:j<L.length),L[j].2≤9) (hbm:bm<w.heap.size) (hbd:bd<w.heap.size) :
 Calls Tryz.prog 349 #[.string s,.slice (some ⟨bm,0,none⟩) n n,.slice (some ⟨bd,0,none⟩) n n] w fun x w'=>(∃v,x=.returned v∧NumsRes (marksK L s.data.toList) w.heap.size w' v)∧Below w.heap.size w w':=by
 obtain⟨ti,hi,hz0,hz1,hz2⟩:=info_parts infoIntC
 have HM:=hid hm
 have HD:=hid hd
 have HK:=hid hk
 have HN:=hid hn
 clear hm hd hk hn
 go_enter Tryz.func349,Tryz.ntmps349
 go_wp2
 go_loopw [6,7,15] (fun vv rv iv wr=>∃(k:Nat) (pre:List Nat) (v:Value) (rest:ByteArray),v=vv∧rv=.string rest∧iv=.int .i64 k∧k≤n∧pre.length=k∧rest.size≤500000∧wr.ownsRow w.heap.size 3 1 v pre.length (pre.map fun (n:Nat)=>Value.int .i64 n)∧marksK L s.data.toList=(marksK (L.drop k) rest.data.toList).map (fun (q:List Nat × List UInt8)=>(pre++q.1,q.2))∧Below w.heap.size w wr) (fun _ _ iv _=>n-(intOf iv).toNat)
 case atStart=>exact⟨0,[],_,s,rfl,rfl,rfl,Nat.zero_le _,rfl,hs,World.ownsRow_nil _ _ _ _,by rw[List.drop_zero];cases marksK L s.data.toList<;>rfl,Below.refl _ _⟩
 case round =>
  obtain⟨k,pre,v,rest,rfl,rfl,rfl,hkn,hpl,hrz,hown,heq,hbr⟩:=hrel
  have HOWN:=hid hown
  have HEQ:=hid heq
  have HBR:=hid hbr
  have HPL:=hid hpl
  clear hown heq hbr hpl
  by_cases hlt:k<n
  ·have hlt':(k:Int)<(n:Int):=by omega
   have hk0:(0:Int)≤(k:Int):=by omega
   have hkl:k<L.length:=by have:=HN.out;omega
   obtain⟨m,d,hmd⟩:∃m d,(m,d)=L[k]:=⟨_,_,rfl⟩
   have hdk:d≤9:=by have:=HK.out k hkl;rw[←hmd] at this;exact this
   have hcm:wr.cell? ⟨bm,k,none⟩=some (.string ⟨m.toArray⟩):=by
    have:=HM.out k hkl
    rw[←hmd] at this
    exact(HBR.out.cell (p:=⟨bm,k,none⟩) hbm).trans this
   have hcd:wr.cell? ⟨bd,k,none⟩=some (.int .i64 (d:Nat)):=by
    have:=HD.out k hkl
    rw[←hmd] at this
    exact(HBR.out.cell (p:=⟨bd,k,none⟩) hbd).trans this
   have HDR:=hid (show L.drop k=(m,d) :: L.drop (k+1) by rw[hmd];exact List.drop_eq_getElem_cons hkl)
   have hcp:=Tryz.strings_CutPrefix rest ⟨m.toArray⟩ wr
   rw[show(⟨m.toArray⟩:ByteArray).data.toList=m from rfl] at hcp
   have HTL:=hid (trimP_len rest.data.toList m)
   have hln:rest.data.toList.length=rest.size:=rfl
   obtain⟨t,ht⟩:∃t:List UInt8,t=Lib.trimPrefix rest.data.toList m:=⟨_,rfl⟩
   obtain⟨p,hp⟩:∃p:Bool,p=Lib.hasPrefix rest.data.toList m:=⟨_,rfl⟩
   rw[←ht,←hp] at hcp
   have htl:t.length≤rest.size:=by have:=HTL.out;rw[←ht,hln] at this;exact this
   have HCP:=hid hcp
   have HT:=hid ht
   have HP:=hid hp
   clear hcp ht hp hmd
   cases p
   ·have HF:=hid (show marksK L s.data.toList=none by rw[HEQ.out,HDR.out,marks_fail _ _ _ _ HP.out.symm];rfl)
    go_wp2_with (go_at_call 132;refine HCP.out.mono ?_;rintro e w2 ⟨rfl,hw2⟩;obtain rfl:=hw2.symm)
    refine bodyPost_ret (v:=.tuple #[.slice none 0 0,.string s,.bool false]) (by simp[results,Tryz.results349,go_sem]) rfl ?_
    exact⟨⟨_,rfl,by rw[HF.out];exact⟨_,rfl⟩⟩,HBR.out⟩
   ·have HNB:=hid (calNumber_call ⟨t.toArray⟩ (by rw[bSize];omega) d hdk wr)
    rw[show(⟨t.toArray⟩:ByteArray).data.toList=t from rfl] at HNB
    have HMN:=hid (show marksK L s.data.toList=(match numD d 0 t with
     | none=>none
     | some (n,l)=>(marksK (L.drop (k+1)) l).map (fun (q:List Nat × List UInt8)=>(n :: q.1,q.2))).map (fun (q:List Nat × List UInt8)=>(pre++q.1,q.2)) by
     rw[HEQ.out,HDR.out,marks_num _ _ _ _ HP.out.symm,←HT.out])
    have HBD:=hid (fun v r=>numD_bd d 0 t v r)
    obtain⟨o,ho⟩:∃o,o=numD d 0 t:=⟨_,rfl⟩
    rw[←ho] at HNB HMN
    rw[←ho] at HBD
    clear ho
    cases o with
    | none =>
      have HF:=hid (show marksK L s.data.toList=none by rw[HMN.out];rfl)
      go_wp2_with (first
       | (go_at_call 351;refine HNB.out.mono ?_;rintro e w2 ⟨⟨v2,rfl,tz,rfl⟩,hb2⟩;have HB2:=hid hb2;clear hb2)
       | (go_at_call 132;refine HCP.out.mono ?_;rintro e w2 ⟨rfl,hw2⟩;obtain rfl:=hw2.symm))
      refine bodyPost_ret (v:=.tuple #[.slice none 0 0,.string s,.bool false]) (by simp[results,Tryz.results349,go_sem]) rfl ?_
      exact⟨⟨_,rfl,by rw[HF.out];exact⟨_,rfl⟩⟩,HBR.out.trans (HB2.out.mono HBR.out.size)⟩
    | some nr =>
      obtain⟨nv,nr⟩:=nr
      have hbd2:=(HBD.out nv nr rfl).1
      have HMN2:=hid (HMN.out.trans (map_pre _ _ _))
      have hcap1:pre.length+1≤maxLen:=by unfold maxLen;have:=HPL.out;omega
      have hcap2:(pre.length+1) * 8≤140737488355328:=by have:=HPL.out;omega
      clear HBD HMN
      go_wp2_with (first
       | (at_builtin;refine wpList_append_own_at _ (by rfl) _ _ 26 (by rfl) w.heap.size 3 ti _ 1 8 Tryz.underlying26 hi hz0 hz1 hz2 rfl (by omega) _ _ _ (by rfl) ((ownExt HOWN.out HB2.out).alloc _) ⟨w2.heap.size,0,none⟩ 1 1 [.int .i64 (nv:Nat)] (by rfl) (by rfl) (cell_one_new _ _ _) (by simp[Value.oneCell']) hcap1 hcap2 (by have:=HBR.out.size;have:=HB2.out.size;simp at *;omega) ?_;intro v' w5 hown' hgrow hnil hloc;have HO2:=hid hown';have HG:=hid hgrow;clear hown' hgrow hnil hloc)
       | (go_at_call 351;refine HNB.out.mono ?_;rintro e w2 ⟨⟨v2,rfl,rfl⟩,hb2⟩;have HB2:=hid hb2;clear hb2)
       | (go_at_call 132;refine HCP.out.mono ?_;rintro e w2 ⟨rfl,hw2⟩;obtain rfl:=hw2.symm))
      have hst:Below w.heap.size w w2:=HBR.out.trans (HB2.out.mono HBR.out.size)
      refine⟨⟨k+1,pre++[nv],_,⟨nr.toArray⟩,rfl,rfl,by go_num,by omega,by rw[List.length_append,HPL.out];rfl,by rw[bSize];omega,?_,HMN2.out,(hst.alloc hst.size _).grown HG.out (by have:=hst.size;simp at this ⊢;omega) (fun r e=>own_ge2 HOWN.out r e)⟩,by simp[intOf];omega⟩
      have h:=HO2.out
      simp only[List.map_append,List.map_cons,List.map_nil,List.length_append,List.length_cons,List.length_nil] at h ⊢
      exact h
  ·obtain rfl:k=n:=by omega
   have hlt':¬ (k:Int)<(k:Int):=by omega
   have HF:=hid (show marksK L s.data.toList=some (pre,rest.data.toList) by
    rw[HEQ.out,List.drop_eq_nil_of_le (by have:=HN.out;omega)]
    simp[marksK])
   go_wp2
   refine bodyPost_ret (v:=.tuple #[v,.string rest,.bool true]) (by simp[results,Tryz.results349,go_sem]) rfl ?_
   exact⟨⟨_,rfl,by rw[HF.out];exact⟨v,rfl,HOWN.out⟩⟩,HBR.out⟩
end
section
open Go Go.RowKit Go.Shelf
theorem row_succC {w:World} {base:Nat} {e:TypeId} {size n:Nat} {v:Value} {xs:List Value} (h:w.ownsRow base e size v (n+1) xs):∃g cap,v=.slice (some ⟨g,0,none⟩) (n+1) cap:=by
 rcases h.2 with ⟨_,h0⟩ | ⟨g,cap,cur,hv,_⟩
 ·omega
 ·exact⟨g,cap,hv⟩
theorem ltOf' {w:World} {base:Nat} {e:TypeId} {size n g cap:Nat} {xs:List Value} (h:w.ownsRow base e size (.slice (some ⟨g,0,none⟩) n cap) n xs):g<w.heap.size:=by
 rcases h.2 with ⟨h0,_⟩ | ⟨g',cap',cur,hv,_,hg,_⟩
 ·cases h0
 ·cases hv;exact ltOf hg
theorem marks_bd:∀(L:List (List UInt8 × Nat)) (l:List UInt8) (ns:List Nat) (r:List UInt8),(∀x∈L,x.2≤4)→marksK L l=some (ns,r)→ns.length=L.length∧(∀n∈ns,n≤9999)∧r.length≤l.length
 | [],l,ns,r,_,h=>by
   simp only[marksK,Option.some.injEq,Prod.mk.injEq] at h
   obtain⟨rfl,rfl⟩:=h
   exact⟨rfl,fun n hn=>(by cases hn),Nat.le_refl _⟩
 | (m,k) :: L,l,ns,r,hL,h=>by
   rw[marksK] at h
   split at h
   ·cases h
   cases hd:numD k 0 (l.drop m.length) with
   | none=>rw[hd] at h;cases h
   | some q =>
     rw[hd] at h
     dsimp only at h
     cases hm:marksK L q.2 with
     | none=>rw[hm] at h;cases h
     | some p =>
       rw[hm] at h
       simp only[Option.some.injEq,Prod.mk.injEq] at h
       obtain⟨rfl,rfl⟩:=h
       obtain⟨h1,h2,h3⟩:=marks_bd L q.2 p.1 p.2 (fun x hx=>hL x (List.mem_cons_of_mem _ hx)) hm
       obtain⟨h4,h5⟩:=numD_bd k 0 _ q.1 q.2 hd
       have hk:k≤4:=hL (m,k) (List.mem_cons_self ..)
       have hp:(10:Nat) ^ k≤10 ^ 4:=Nat.pow_le_pow_right (by decide) hk
       refine⟨by rw[List.length_cons,List.length_cons,h1],?_,by rw[List.length_drop] at h4;omega⟩
       intro n hn
       rcases List.mem_cons.1 hn with rfl | hn
       ·omega
       ·exact h2 n hn
theorem calP_bad {l:List UInt8} (h:marksK [([],4),([45],2),([45],2)] l=none):calP l=(0,13):=by unfold calP;rw[h]
theorem calP_rest {l:List UInt8} {y m d:Nat} {r:List UInt8} (h:marksK [([],4),([45],2),([45],2)] l=some ([y,m,d],r)) (hr:r≠[]):calP l=(0,13):=by
 unfold calP;rw[h]
 cases r with
 | nil=>exact absurd rfl hr
 | cons c r=>rfl
theorem calP_good {l:List UInt8} {y m d:Nat} (h:marksK [([],4),([45],2),([45],2)] l=some ([y,m,d],[])):calP l=daysF y m d:=by unfold calP;rw[h]
theorem three_of {ns:List Nat} (h:ns.length=3):∃y m d,ns=[y,m,d]:=by
 match ns,h with
 | [y,m,d],_=>exact⟨y,m,d,rfl⟩
theorem calParse_call (s:ByteArray) (hs:s.size≤500000) (w:World):Calls Tryz.prog 325 #[.string s] w fun x w'=>x=.returned (.tuple #[.int .i64 (calP s.data.toList).1,.int .i64 (calP s.data.toList).2])∧Below w.heap.size w w':=by
 obtain⟨z1,hz1⟩:∃z1,z1=(calP s.data.toList).1:=⟨_,rfl⟩
 obtain⟨z2,hz2⟩:∃z2,z2=(calP s.data.toList).2:=⟨_,rfl⟩
 rw[←hz1,←hz2]
 have HZ:=hid (show calP s.data.toList=(z1,z2) by rw[hz1,hz2])
 clear hz1 hz2
 have HNS:=hid (numbers_call s hs [([],4),([45],2),([45],2)] 3 rfl (by decide) w.heap.size (w.heap.size+1) ((w.alloc (.cells #[.string ⟨#[]⟩,.string ⟨#[45]⟩,.string ⟨#[45]⟩] 9)).alloc (.cells #[.int .i64 4,.int .i64 2,.int .i64 2] 3))
  (by intro j h;match j,h with | 0,_=>simp | 1,_=>simp | 2,_=>simp) (by intro j h;match j,h with | 0,_=>simp | 1,_=>simp | 2,_=>simp) (by intro j h;match j,h with | 0,_=>exact(by decide:4≤9) | 1,_=>exact(by decide:2≤9) | 2,_=>exact(by decide:2≤9)) (by simp;omega) (by simp))
 have HB0:=hid (show Below w.heap.size w ((w.alloc (.cells #[.string ⟨#[]⟩,.string ⟨#[45]⟩,.string ⟨#[45]⟩] 9)).alloc (.cells #[.int .i64 4,.int .i64 2,.int .i64 2] 3)) from((Below.refl _ w).alloc (Nat.le_refl _) _).alloc (by simp) _)
 have HBD:=hid (fun ns r=>marks_bd [([],4),([45],2),([45],2)] s.data.toList ns r (by decide))
 obtain⟨o,ho⟩:∃o,o=marksK [([],4),([45],2),([45],2)] s.data.toList:=⟨_,rfl⟩
 rw[←ho] at HNS HBD
 have HO:=hid ho
 clear ho
 cases o with
 | none =>
   go_enter Tryz.func325,Tryz.ntmps325
   go_wp2_with (go_at_call 349;refine HNS.out.mono ?_;rintro e w2 ⟨⟨v2,rfl,tz,rfl⟩,hb2⟩;have HB2:=hid hb2;clear hb2)
   go_ret2
   refine⟨?_,HB0.out.trans (HB2.out.mono HB0.out.size)⟩
   have hz:=HZ.out
   rw[calP_bad HO.out.symm] at hz
   cases hz;rfl
 | some q =>
   obtain⟨ns,r⟩:=q
   obtain⟨hl,h9,hrl⟩:=HBD.out ns r rfl
   obtain⟨y,m,d,rfl⟩:=three_of hl
   have hy:y≤9999:=h9 y (by simp)
   have hm:m≤9999:=h9 m (by simp)
   have hd:d≤9999:=h9 d (by simp)
   clear HBD hl h9 hrl
   by_cases hr:r=[]
   ·subst hr
    have HDY:=hid (fun w'=>days_call y m d (by omega) (by omega) (by omega) w')
    rw[←calP_good HO.out.symm,HZ.out] at HDY
    dsimp only at HDY
    go_enter Tryz.func325,Tryz.ntmps325
    go_upto_region 4 with (go_at_call 349;refine HNS.out.mono ?_;rintro e w2 ⟨⟨v2,rfl,row,rfl,hrow⟩,hb2⟩;have HB2:=hid hb2;have HROW:=hid hrow;clear hb2 hrow)
    obtain⟨g,cap,rfl⟩:=row_succC HROW.out
    have hc0:w2.cell? ⟨g,0,none⟩=some (.int .i64 (y:Nat)):=HROW.out.cellAt 0 (by simp)
    have hc1:w2.cell? ⟨g,1,none⟩=some (.int .i64 (m:Nat)):=HROW.out.cellAt 1 (by simp)
    have hc2:w2.cell? ⟨g,2,none⟩=some (.int .i64 (d:Nat)):=HROW.out.cellAt 2 (by simp)
    go_quiet ((go_at_call 350;exact Calls.quiet_of_same (HDY.out _)))
    go_wp2
    go_ret2
    exact⟨rfl,HB0.out.trans ((HB2.out.mono HB0.out.size).trans ⟨rfl,rfl,rfl,Nat.le_refl _,fun _ _=>rfl⟩)⟩
   ·have hr3:r.isEmpty=false:=by cases r with | nil=>exact absurd rfl hr | cons a b=>rfl
    have HRR:=hid hr
    clear hr
    go_enter Tryz.func325,Tryz.ntmps325
    go_wp2_with (go_at_call 349;refine HNS.out.mono ?_;rintro e w2 ⟨⟨v2,rfl,row,rfl,hrow⟩,hb2⟩;have HB2:=hid hb2;have HROW:=hid hrow;clear hb2 hrow)
    go_ret2
    refine⟨?_,HB0.out.trans (HB2.out.mono HB0.out.size)⟩
    have hz:=HZ.out
    rw[calP_rest HO.out.symm HRR.out] at hz
    cases hz;rfl
def fracF (r:List UInt8):Option (Nat × List UInt8):=if Lib.hasPrefix r [46] then (match numD 3 0 (r.drop 1) with | some (n,r)=>if n=0 then none else some (n,r) | none=>none) else some (0,r)
theorem calT_bad {l:List UInt8} (h:marksK [([],4),([45],2),([45],2),([84],2),([58],2),([58],2)] l=none):calT l=(0,13):=by unfold calT;rw[h]
theorem calT_six {l:List UInt8} {y m d h i s:Nat} {r:List UInt8} (hm:marksK [([],4),([45],2),([45],2),([84],2),([58],2),([58],2)] l=some ([y,m,d,h,i,s],r)):calT l=(match fracF r with
 | none=>(0,13)
 | some (z,r)=>if r≠[90] then (0,13) else if (daysF y m d).2≠0∨23<h∨59<i∨59<s then (0,17) else ((daysF y m d).1 * 86400000+(((60 * h+i) * 60+s) * 1000+z:Nat),0)):=by
 unfold calT;rw[hm];rfl
theorem six_of {ns:List Nat} (h:ns.length=6):∃y m d h i s,ns=[y,m,d,h,i,s]:=by
 match ns,h with
 | [y,m,d,h,i,s],_=>exact⟨y,m,d,h,i,s,rfl⟩
theorem sumFrom_mono (y:Nat):∀(j k m:Nat),sumFrom y j m≤sumFrom y (j+k) m
 | j,0,m=>Nat.le_refl _
 | j,k+1,m=>by
   have:=sumFrom_mono y j k m
   rw[show j+(k+1)=(j+k)+1 by omega,sumFrom_snoc];omega
theorem befY_top (y:Nat) (h:y≤10000):befY y≤3652059:=by unfold befY;omega
theorem daysF_bd {y m d:Nat} (h:(daysF y m d).2=0) : -719162≤(daysF y m d).1∧(daysF y m d).1≤2932896:=by
 unfold daysF at h ⊢
 split at h
 ·cases h
 ·rename_i hn
  rw[if_neg hn]
  have hy:1≤y∧y≤9999:=by omega
  have hm:1≤m∧m≤12:=by omega
  have hd:1≤d∧d≤mdays y m:=by omega
  have h1:=year_len y hy.1
  have h2:=befY_top (y+1) (by omega)
  have h3:=sumFrom_snoc y (m-1) 1
  rw[show 1+(m-1)=m by omega,show m-1+1=m by omega] at h3
  have h4:=sumFrom_mono y m (12-m) 1
  rw[show m+(12-m)=12 by omega] at h4
  dsimp only
  omega
def FracRel (r:List UInt8) (w:World) (v5 v7:Value) (wz:World):Prop:=∃z rr,v7=.int .i64 (z:Nat)∧v5=.string ⟨rr.toArray⟩∧fracF r=some (z,rr)∧z≤999∧Below w.heap.size w wz
theorem calTime_call (s:ByteArray) (hs:s.size≤500000) (w:World):Calls Tryz.prog 327 #[.string s] w fun x w'=>x=.returned (.tuple #[.int .i64 (calT s.data.toList).1,.int .i64 (calT s.data.toList).2])∧Below w.heap.size w w':=by
 have hln:s.data.toList.length=s.size:=rfl
 obtain⟨z1,hz1⟩:∃z1,z1=(calT s.data.toList).1:=⟨_,rfl⟩
 obtain⟨z2,hz2⟩:∃z2,z2=(calT s.data.toList).2:=⟨_,rfl⟩
 rw[←hz1,←hz2]
 have HZ:=hid (show calT s.data.toList=(z1,z2) by rw[hz1,hz2])
 clear hz1 hz2
 have HNS:=hid (numbers_call s hs [([],4),([45],2),([45],2),([84],2),([58],2),([58],2)] 6 rfl (by decide) w.heap.size (w.heap.size+1) ((w.alloc (.cells #[.string ⟨#[]⟩,.string ⟨#[45]⟩,.string ⟨#[45]⟩,.string ⟨#[84]⟩,.string ⟨#[58]⟩,.string ⟨#[58]⟩] 9)).alloc (.cells #[.int .i64 4,.int .i64 2,.int .i64 2,.int .i64 2,.int .i64 2,.int .i64 2] 3))
  (by intro j h;match j,h with | 0,_=>simp | 1,_=>simp | 2,_=>simp | 3,_=>simp | 4,_=>simp | 5,_=>simp) (by intro j h;match j,h with | 0,_=>simp | 1,_=>simp | 2,_=>simp | 3,_=>simp | 4,_=>simp | 5,_=>simp)
  (by intro j h;match j,h with | 0,_=>exact(by decide:4≤9) | 1,_=>exact(by decide:2≤9) | 2,_=>exact(by decide:2≤9) | 3,_=>exact(by decide:2≤9) | 4,_=>exact(by decide:2≤9) | 5,_=>exact(by decide:2≤9)) (by simp;omega) (by simp))
 have HB0:=hid (show Below w.heap.size w ((w.alloc (.cells #[.string ⟨#[]⟩,.string ⟨#[45]⟩,.string ⟨#[45]⟩,.string ⟨#[84]⟩,.string ⟨#[58]⟩,.string ⟨#[58]⟩] 9)).alloc (.cells #[.int .i64 4,.int .i64 2,.int .i64 2,.int .i64 2,.int .i64 2,.int .i64 2] 3)) from((Below.refl _ w).alloc (Nat.le_refl _) _).alloc (by simp) _)
 have HBD:=hid (fun ns r=>marks_bd [([],4),([45],2),([45],2),([84],2),([58],2),([58],2)] s.data.toList ns r (by decide))
 obtain⟨o,ho⟩:∃o,o=marksK [([],4),([45],2),([45],2),([84],2),([58],2),([58],2)] s.data.toList:=⟨_,rfl⟩
 rw[←ho] at HNS HBD
 have HO:=hid ho
 clear ho
 cases o with
 | none =>
   go_enter Tryz.func327,Tryz.ntmps327
   go_wp2_with (go_at_call 349;refine HNS.out.mono ?_;rintro e w2 ⟨⟨v2,rfl,tz,rfl⟩,hb2⟩;have HB2:=hid hb2;clear hb2)
   go_ret2
   refine⟨?_,HB0.out.trans (HB2.out.mono HB0.out.size)⟩
   have hz:=HZ.out
   rw[calT_bad HO.out.symm] at hz
   cases hz;rfl
 | some q =>
   obtain⟨ns,r⟩:=q
   obtain⟨hl,h9,hrl⟩:=HBD.out ns r rfl
   obtain⟨y,m,d,h,i,s6,rfl⟩:=six_of hl
   have hy:y≤9999:=h9 y (by simp)
   have hm:m≤9999:=h9 m (by simp)
   have hd:d≤9999:=h9 d (by simp)
   have hh:h≤9999:=h9 h (by simp)
   have hi:i≤9999:=h9 i (by simp)
   have hs6:s6≤9999:=h9 s6 (by simp)
   have HSX:=hid ((calT_six HO.out.symm).symm.trans HZ.out)
   have hcp:=fun w'=>Tryz.strings_CutPrefix ⟨r.toArray⟩ ⟨#[46]⟩ w'
   rw[show(⟨r.toArray⟩:ByteArray).data.toList=r from rfl,show(⟨#[46]⟩:ByteArray).data.toList=[46] from rfl] at hcp
   obtain⟨p,hp⟩:∃p:Bool,p=Lib.hasPrefix r [46]:=⟨_,rfl⟩
   obtain⟨t,ht⟩:∃t:List UInt8,t=Lib.trimPrefix r [46]:=⟨_,rfl⟩
   rw[←hp,←ht] at hcp
   have HCP:=hid hcp
   have htl:t.length≤s.size:=by have:=trimP_len r [46];rw[←ht] at this;omega
   have HFR:=hid (show fracF r=if p=true then (match numD 3 0 t with | some (n,r)=>if n=0 then none else some (n,r) | none=>none) else some (0,r) by
    unfold fracF
    rw[←hp]
    cases p
    ·rfl
    ·rw[ht,Lib.trimPrefix,if_pos hp.symm];rfl)
   clear HBD hl h9 hrl hcp hp ht
   go_enter Tryz.func327,Tryz.ntmps327
   go_upto_if 27 with (first
    | (go_at_call 349;refine HNS.out.mono ?_;rintro e w2 ⟨⟨v2,rfl,row,rfl,hrow⟩,hb2⟩;have HB2:=hid (HB0.out.trans (hb2.mono HB0.out.size));have HROW:=hid hrow;clear hb2 hrow)
    | (go_at_call 132;refine(HCP.out _).mono ?_;rintro e w3 ⟨rfl,hw3⟩;obtain rfl:=hw3.symm))
   obtain⟨g,cap,rfl⟩:=row_succC HROW.out
   have hc0:w2.cell? ⟨g,0,none⟩=some (.int .i64 (y:Nat)):=HROW.out.cellAt 0 (by simp)
   have hc1:w2.cell? ⟨g,1,none⟩=some (.int .i64 (m:Nat)):=HROW.out.cellAt 1 (by simp)
   have hc2:w2.cell? ⟨g,2,none⟩=some (.int .i64 (d:Nat)):=HROW.out.cellAt 2 (by simp)
   have hc3:w2.cell? ⟨g,3,none⟩=some (.int .i64 (h:Nat)):=HROW.out.cellAt 3 (by simp)
   have hc4:w2.cell? ⟨g,4,none⟩=some (.int .i64 (i:Nat)):=HROW.out.cellAt 4 (by simp)
   have hc5:w2.cell? ⟨g,5,none⟩=some (.int .i64 (s6:Nat)):=HROW.out.cellAt 5 (by simp)
   have HCC:=hid (show(w2.cell? ⟨g,0,none⟩=_∧w2.cell? ⟨g,1,none⟩=_∧w2.cell? ⟨g,2,none⟩=_∧w2.cell? ⟨g,3,none⟩=_∧w2.cell? ⟨g,4,none⟩=_∧w2.cell? ⟨g,5,none⟩=_) from⟨hc0,hc1,hc2,hc3,hc4,hc5⟩)
   clear hc0 hc1 hc2 hc3 hc4 hc5
   go_cut [5,7] (fun v5 v7 wz=>FracRel r w v5 v7 wz∧Below w2.heap.size w2 wz)
   case first =>
    cases p
    ·go_wp2
     go_meet
     exact⟨⟨0,r,rfl,rfl,by rw[HFR.out];rfl,by decide,HB2.out⟩,Below.refl _ _⟩
    ·have HNB:=hid (calNumber_call ⟨t.toArray⟩ (by rw[bSize];omega) 3 (by decide) w2)
     rw[show(⟨t.toArray⟩:ByteArray).data.toList=t from rfl] at HNB
     have HBD:=hid (fun v r=>numD_bd 3 0 t v r)
     obtain⟨o,ho⟩:∃o,o=numD 3 0 t:=⟨_,rfl⟩
     rw[←ho] at HNB HFR
     rw[←ho] at HBD
     clear ho
     cases o with
     | none =>
       go_wp2_with (go_at_call 351;refine HNB.out.mono ?_;rintro e w4 ⟨⟨v2,rfl,tz,rfl⟩,hb4⟩;have HB4:=hid hb4;clear hb4)
       go_ret2
       refine⟨?_,HB2.out.trans (HB4.out.mono HB2.out.size)⟩
       have hz:=HSX.out
       rw[HFR.out] at hz
       cases hz;rfl
     | some nr =>
       obtain⟨nv,nr⟩:=nr
       have hbd2:=(HBD.out nv nr rfl).2
       by_cases hz0:nv=0
       ·subst hz0
        go_wp2_with (go_at_call 351;refine HNB.out.mono ?_;rintro e w4 ⟨⟨v2,rfl,rfl⟩,hb4⟩;have HB4:=hid hb4;clear hb4)
        go_ret2
        refine⟨?_,HB2.out.trans (HB4.out.mono HB2.out.size)⟩
        have hz:=HSX.out
        rw[HFR.out] at hz
        cases hz;rfl
       ·have qz:((nv:Int)==0)=false:=by simp;omega
        have HZ0:=hid hz0
        clear hz0
        go_wp2_with (go_at_call 351;refine HNB.out.mono ?_;rintro e w4 ⟨⟨v2,rfl,rfl⟩,hb4⟩;have HB4:=hid hb4;clear hb4)
        go_meet
        refine⟨⟨nv,nr,rfl,rfl,?_,by omega,HB2.out.trans (HB4.out.mono HB2.out.size)⟩,HB4.out⟩
        rw[HFR.out]
        exact if_neg HZ0.out
   case rest =>
   obtain⟨⟨z,rr,rfl,rfl,hfr,hz9,hbw⟩,hbz⟩:=hcut
   obtain⟨wb,hwb⟩:∃u,u=wc:=⟨_,rfl⟩
   rw[←hwb] at hbw hbz ⊢
   clear hwb HFR HCP HNS HB0
   have hgl:g<w2.heap.size:=ltOf' HROW.out
   obtain⟨k0,k1,k2,k3,k4,k5⟩:=HCC.out
   have c0:=(hbz.cell (p:=⟨g,0,none⟩) hgl).trans k0
   have c1:=(hbz.cell (p:=⟨g,1,none⟩) hgl).trans k1
   have c2:=(hbz.cell (p:=⟨g,2,none⟩) hgl).trans k2
   have c3:=(hbz.cell (p:=⟨g,3,none⟩) hgl).trans k3
   have c4:=(hbz.cell (p:=⟨g,4,none⟩) hgl).trans k4
   have c5:=(hbz.cell (p:=⟨g,5,none⟩) hgl).trans k5
   have HS2:=hid (show(if rr≠[90] then ((0:Int),(13:Int)) else if (daysF y m d).2≠0∨23<h∨59<i∨59<s6 then (0,17) else ((daysF y m d).1 * 86400000+(((60 * h+i) * 60+s6) * 1000+z:Nat),0))=(z1,z2) by
    have:=HSX.out
    rw[hfr] at this
    exact this)
   have HBW:=hid hbw
   clear k0 k1 k2 k3 k4 k5 hfr hbw hbz HCC
   by_cases hr:rr=[90]
   ·subst hr
    have HDY:=hid (fun w'=>days_call y m d (by omega) (by omega) (by omega) w')
    have HDB:=hid (daysF_bd (y:=y) (m:=m) (d:=d))
    rw[if_neg (by simp)] at HS2
    obtain⟨d1,hd1⟩:∃d1,d1=(daysF y m d).1:=⟨_,rfl⟩
    obtain⟨d2,hd2⟩:∃d2,d2=(daysF y m d).2:=⟨_,rfl⟩
    rw[←hd1,←hd2] at HDB HS2
    have HDY2:Hid (∀w',Calls Tryz.prog 350 #[.int .i64 y,.int .i64 m,.int .i64 d] w' fun e w2=>e=.returned (.tuple #[.int .i64 d1,.int .i64 d2])∧w2=w'):=hid (by rw[hd1,hd2];exact HDY.out)
    clear hd1 hd2 HDY
    go_upto_region 12 with (fail)
    go_quiet ((go_at_call 350;exact Calls.quiet_of_same (HDY2.out _)))
    rename_i nq
    obtain⟨wq,hwq⟩:∃u,u=wb.drewN nq:=⟨_,rfl⟩
    rw[←hwq]
    have d3:wq.cell? ⟨g,3,none⟩=some (.int .i64 (h:Nat)):=by rw[hwq];exact c3
    have d4:wq.cell? ⟨g,4,none⟩=some (.int .i64 (i:Nat)):=by rw[hwq];exact c4
    have d5:wq.cell? ⟨g,5,none⟩=some (.int .i64 (s6:Nat)):=by rw[hwq];exact c5
    have HBQ:=hid (show Below w.heap.size w wq from HBW.out.trans (by rw[hwq];exact⟨rfl,rfl,rfl,Nat.le_refl _,fun _ _=>rfl⟩))
    clear hwq c0 c1 c2 c3 c4 c5
    by_cases he:d2=0
    ·have qe:(d2==0)=true:=by simp[he]
     have qe':(d2 != 0)=false:=by simp[he]
     have HDB2:=HDB.out he
     have HE:=hid he
     clear he
     by_cases hbad:23<h∨59<i∨59<s6
     ·have HBAD:=hid hbad
      by_cases h23:23<h
      ·have q23:(23:Int)<(h:Int):=by omega
       clear hbad
       go_wp2
       go_ret2
       refine⟨?_,HBQ.out.trans ⟨rfl,rfl,rfl,Nat.le_refl _,fun _ _=>rfl⟩⟩
       have hz:=HS2.out
       rw[if_pos (.inr HBAD.out)] at hz
       cases hz;rfl
      ·by_cases h59:59<i
       ·have q23:¬ (23:Int)<(h:Int):=by omega
        have q59:(59:Int)<(i:Int):=by omega
        clear hbad
        go_wp2
        go_ret2
        refine⟨?_,HBQ.out.trans ⟨rfl,rfl,rfl,Nat.le_refl _,fun _ _=>rfl⟩⟩
        have hz:=HS2.out
        rw[if_pos (.inr HBAD.out)] at hz
        cases hz;rfl
       ·have q23:¬ (23:Int)<(h:Int):=by omega
        have q59:¬ (59:Int)<(i:Int):=by omega
        have q60:(59:Int)<(s6:Int):=by omega
        clear hbad
        go_wp2
        go_ret2
        refine⟨?_,HBQ.out.trans ⟨rfl,rfl,rfl,Nat.le_refl _,fun _ _=>rfl⟩⟩
        have hz:=HS2.out
        rw[if_pos (.inr HBAD.out)] at hz
        cases hz;rfl
     ·have HBAD:=hid hbad
      have q23:¬ (23:Int)<(h:Int):=by omega
      have q59:¬ (59:Int)<(i:Int):=by omega
      have q60:¬ (59:Int)<(s6:Int):=by omega
      have h23:h≤23:=by omega
      have i59:i≤59:=by omega
      have s59:s6≤59:=by omega
      clear hbad
      have e1:IntKind.i64.wrap (60 * (h:Int))=60 * h:=IntWalk.i64_in _ ⟨by omega,by omega⟩
      have e2:IntKind.i64.wrap (60 * (h:Int)+i)=60 * h+i:=IntWalk.i64_in _ ⟨by omega,by omega⟩
      have e3:IntKind.i64.wrap ((60 * (h:Int)+i) * 60)=(60 * h+i) * 60:=IntWalk.i64_in _ ⟨by omega,by omega⟩
      have e4:IntKind.i64.wrap ((60 * (h:Int)+i) * 60+s6)=(60 * h+i) * 60+s6:=IntWalk.i64_in _ ⟨by omega,by omega⟩
      have e5:IntKind.i64.wrap (((60 * (h:Int)+i) * 60+s6) * 1000)=((60 * h+i) * 60+s6) * 1000:=IntWalk.i64_in _ ⟨by omega,by omega⟩
      have e6:IntKind.i64.wrap (((60 * (h:Int)+i) * 60+s6) * 1000+z)=((60 * h+i) * 60+s6) * 1000+z:=IntWalk.i64_in _ ⟨by omega,by omega⟩
      have HJN:=hid (fun w'=>joinC_call d1 (((60 * (h:Int)+i) * 60+s6) * 1000+z) HDB2.1 HDB2.2 (by omega) (by omega) w')
      clear HDB2
      go_upto_region 15 with (fail)
      go_quiet ((go_at_call 352;exact Calls.quiet_of_same (HJN.out _)))
      go_wp2
      go_ret2
      refine⟨?_,HBQ.out.trans ⟨rfl,rfl,rfl,Nat.le_refl _,fun _ _=>rfl⟩⟩
      have hz:=HS2.out
      rw[if_neg (by rw[HE.out];intro h;rcases h with h | h;exact h rfl;exact HBAD.out h)] at hz
      cases hz
      congr 3
    ·have qe:(d2==0)=false:=by simp[he]
     have qe':(d2 != 0)=true:=by simp[he]
     have HE:=hid he
     clear he
     go_wp2
     go_ret2
     refine⟨?_,HBQ.out.trans ⟨rfl,rfl,rfl,Nat.le_refl _,fun _ _=>rfl⟩⟩
     have hz:=HS2.out
     rw[if_pos (.inl HE.out)] at hz
     cases hz;rfl
   ·have hr1:(rr==([90]:List UInt8))=false:=by rw[beq_eq_false_iff_ne];exact hr
    have hr2:(rr != ([90]:List UInt8))=true:=by rw[bne,hr1];rfl
    have HRR:=hid hr
    clear hr
    go_wp2
    go_ret2
    refine⟨?_,HBW.out⟩
    have hz:=HS2.out
    rw[if_pos HRR.out] at hz
    cases hz;rfl
end
section
open Go Go.RowKit Go.Shelf
attribute [local go_sem] putC_setCell putC_cell putC_cell_ne putC_frozen putC_frozen_ne size_putC
theorem ld_tokNew (w:World) (r:Rd):(loadCellsFrom ⟨w.heap.size,0,none⟩ 0 8 #[]).run Tryz.prog (w.alloc (tokO r))=.ok (tokA r) (w.alloc (tokO r)) :=
 run_loadCellsFrom_new w 274 (tokA r) 8 rfl
section
attribute [-go_sem] loadCellsFrom storeCells
attribute [local go_sem] lcf0 lcf1 lcf2 lcf3 lcf4 lcf5 lcf6 lcf7 stc0 stc1
theorem name_call (b:Nat) (s:ByteArray) (r:Rd) (w:World) (h:IsRd w b s r) (hf:r.Fit s) (hs:s.size≤100000) (hTB:TB w b) :
 Calls Tryz.prog 318 #[.pointer (some ⟨b,0,none⟩)] w fun x w'=>x=.returned (.string (takeT r 1).t)∧IsRd w' b s (r.name s)∧w.grownBy w' (some b):=by
 have HT:=hid (take_call b s r 1 w h hs hTB)
 obtain⟨tk,htk⟩:∃tk,tk=takeT r 1:=⟨_,rfl⟩
 obtain⟨r1,hr1⟩:∃r1,r1=r.take s 1:=⟨_,rfl⟩
 rw[←htk,←hr1] at HT
 rw[←htk]
 have HTK:=hid htk
 have HR1:=hid hr1
 have htt:tk.t.size≤100000:=by
  rw[htk];unfold takeT
  split
  ·have:=hf.t;omega
  ·exact Nat.zero_le _
 clear htk hr1
 have HSN:=hid (fun w2=>st_tokNew w2 #[.int .i64 0,.int .i64 0,.string ⟨#[]⟩,.string ⟨#[]⟩,.int .i64 0,.int .i64 0,.bool false,.bool false] rfl tk)
 have HPC:=hid (fun (w2:World) (h2:IsRd w2 b s r1)=>(cellOf h2.at_ 10:w2.cell? ⟨b,10,none⟩=some (.int .i64 r1.e)))
 have HIN:=hid (fun w'=>isName_call tk.t w' (by omega))
 by_cases he:r1.e=0
 ·have HE:=hid he
  have hk:r.e=0∧r.k=1:=by
   have h1:=HR1.out
   unfold Rd.take at h1
   split at h1
   ·rename_i hx;rw[h1] at he;exact absurd he hx
   split at h1
   ·rename_i hx hy;rw[h1] at he;exact absurd he (Rd.fail_e _ _ _ (by decide))
   ·rename_i hx hy;exact⟨Decidable.not_not.1 hx,Decidable.not_not.1 hy⟩
  have HTE:=hid (show tk=r by rw[HTK.out,takeT,if_pos hk])
  have qe:(r1.e==0)=true:=by simp[he]
  have qe':(r1.e != 0)=false:=by simp[he]
  obtain⟨q,hq⟩:∃q,q=isNameB tk.t:=⟨_,rfl⟩
  rw[←hq] at HIN
  have HM:=hid (show r.name s=if q=false then r1.fail r.p 12 else r1 by
   unfold Rd.name
   dsimp only
   rw[←HR1.out,hq,HTE.out]
   simp only[HE.out,true_and])
  clear hq he hk
  cases q
  ·have HM2:=hid (show r.name s=r1.fail r.p 12 from HM.out.trans (by first | exact if_pos rfl | exact if_pos trivial))
   have HFL:=hid (fun (w':World) (h':IsRd w' b s r1)=>fail_call b s r1 tk.p 12 w' h')
   go_enter Tryz.func318,Tryz.ntmps318
   go_upto_region 3 with (first
    | (go_at_call 236;refine(HIN.out _).mono ?_;rintro e w3 ⟨rfl,hb3⟩;have HB3:=hid hb3;clear hb3)
    | (go_at_call 346;refine HT.out.mono ?_;rintro e w2 ⟨rfl,h2,hg2⟩;have H2R:=hid h2;have HG2:=hid hg2;have hpc:=HPC.out w2 h2;have hsn:=HSN.out w2;have hbl:=h2.lt;clear h2 hg2))
   have hbb:=World.grownBy_alloc w2 (tokO tk) (some b)
   have HR3:=hid (isRd_low (H2R.out.alloc (tokO tk)) HB3.out (by rw[World.size_alloc];omega))
   have HG3:=hid (HG2.out.trans (hbb.trans (grownOf HB3.out (some b))))
   have hT3:w3.heap[w2.heap.size]?=some (tokO tk):=heapExt HB3.out (heap_alloc_new w2 _)
   have hcp:w3.cell? ⟨w2.heap.size,1,none⟩=some (.int .i64 (tk.p:Int)):=cellOf hT3 1
   have HTL:=hid (show w2.heap.size<w3.heap.size∧w2.heap.size≠b∧w3.heap[w2.heap.size]?=some (tokO tk) from⟨ltOf hT3,by omega,hT3⟩)
   clear hbb hT3
   go_wp2_with (go_at_call 274;refine(HFL.out w3 HR3.out).mono ?_;rintro e w4 ⟨rfl,h4,hg4⟩;have H4R:=hid h4;have HG4:=hid hg4;have hct:=(cellOf ((hg4.block w2.heap.size HTL.out.1 (by simp[HTL.out.2.1])).trans HTL.out.2.2) 2:w4.cell? ⟨w2.heap.size,2,none⟩=some (.string tk.t));clear h4 hg4)
   go_ret
   rw[HM2.out,←HTE.out]
   exact⟨rfl,H4R.out,HG3.out.trans HG4.out⟩
  ·go_enter Tryz.func318,Tryz.ntmps318
   go_upto_region 4 with (first
    | (go_at_call 236;refine(HIN.out _).mono ?_;rintro e w3 ⟨rfl,hb3⟩;have HB3:=hid hb3;clear hb3)
    | (go_at_call 346;refine HT.out.mono ?_;rintro e w2 ⟨rfl,h2,hg2⟩;have H2R:=hid h2;have HG2:=hid hg2;have hpc:=HPC.out w2 h2;have hsn:=HSN.out w2;have hbl:=h2.lt;clear h2 hg2))
   have hbb:=World.grownBy_alloc w2 (tokO tk) (some b)
   have HR3:=hid (isRd_low (H2R.out.alloc (tokO tk)) HB3.out (by rw[World.size_alloc];omega))
   have HG3:=hid (HG2.out.trans (hbb.trans (grownOf HB3.out (some b))))
   have hT3:w3.heap[w2.heap.size]?=some (tokO tk):=heapExt HB3.out (heap_alloc_new w2 _)
   have hct:w3.cell? ⟨w2.heap.size,2,none⟩=some (.string tk.t):=cellOf hT3 2
   clear hbb hT3
   go_wp2
   go_ret
   rw[HM.out,if_neg (by decide)]
   exact⟨rfl,HR3.out,HG3.out⟩
 ·have HE:=hid he
  have qe:(r1.e==0)=false:=by simp[he]
  have qe':(r1.e != 0)=true:=by simp[he]
  clear he
  go_enter Tryz.func318,Tryz.ntmps318
  go_wp2_with (go_at_call 346;refine HT.out.mono ?_;rintro e w2 ⟨rfl,h2,hg2⟩;have H2R:=hid h2;have HG2:=hid hg2;have hpc:=HPC.out w2 h2;have hsn:=HSN.out w2;have hbl:=h2.lt;clear h2 hg2)
  go_ret
  have HM:r.name s=r1:=by
   unfold Rd.name
   dsimp only
   rw[←HR1.out,if_neg (fun h=>HE.out h.1)]
  rw[HM]
  exact⟨rfl,H2R.out.alloc _,HG2.out.trans (World.grownBy_alloc _ _ _)⟩
theorem moment_date (b:Nat) (s:ByteArray) (r:Rd) (w:World) (h:IsRd w b s r) (hf:r.Fit s) (hs:s.size≤100000) (hTB:TB w b) :
 Calls Tryz.prog 324 #[.pointer (some ⟨b,0,none⟩),.func (.func 325) #[] #[]] w fun x w'=>x=.returned (.int .i64 (r.moment s calP).1)∧IsRd w' b s (r.moment s calP).2∧w.grownBy w' (some b):=by
 have HT:=hid (take_call b s r 3 w h hs hTB)
 obtain⟨tk,htk⟩:∃tk,tk=takeT r 3:=⟨_,rfl⟩
 obtain⟨r1,hr1⟩:∃r1,r1=r.take s 3:=⟨_,rfl⟩
 rw[←htk,←hr1] at HT
 have HTK:=hid htk
 have HR1:=hid hr1
 have HLT:=hid h.lt
 have htb:tk.b.size≤400000:=by
  rw[htk];unfold takeT
  split
  ·have:=hf.b;omega
  ·exact Nat.zero_le _
 clear htk hr1
 have HLN:=hid (fun w2=>ld_tokNew w2 tk)
 have HSN:=hid (fun w2=>st_tokNew w2 #[.int .i64 0,.int .i64 0,.string ⟨#[]⟩,.string ⟨#[]⟩,.int .i64 0,.int .i64 0,.bool false,.bool false] rfl tk)
 have HPC:=hid (fun (w2:World) (h2:IsRd w2 b s r1)=>(cellOf h2.at_ 10:w2.cell? ⟨b,10,none⟩=some (.int .i64 r1.e)))
 by_cases he:r1.e=0
 ·have HE:=hid he
  have hk:r.e=0∧r.k=3:=by
   have h1:=HR1.out
   unfold Rd.take at h1
   split at h1
   ·rename_i hx;rw[h1] at he;exact absurd he hx
   split at h1
   ·rename_i hx hy;rw[h1] at he;exact absurd he (Rd.fail_e _ _ _ (by decide))
   ·rename_i hx hy;exact⟨Decidable.not_not.1 hx,Decidable.not_not.1 hy⟩
  have HTE:=hid (show tk=r by rw[HTK.out,takeT,if_pos hk])
  have qe:(r1.e==0)=true:=by simp[he]
  have qe':(r1.e != 0)=false:=by simp[he]
  have HCAL:=hid (fun w'=>calParse_call tk.b (by omega) w')
  obtain⟨n,hn⟩:∃n,n=(calP tk.b.data.toList).1:=⟨_,rfl⟩
  obtain⟨e,hee⟩:∃e,e=(calP tk.b.data.toList).2:=⟨_,rfl⟩
  rw[←hn,←hee] at HCAL
  have HM:=hid (show r.moment s calP=(n,if e≠0 then r1.fail r.p e else r1) by
   unfold Rd.moment
   dsimp only
   rw[←HR1.out,if_neg (by simp[HE.out]),hn,hee,HTE.out])
  clear hn hee he hk
  by_cases hez:e=0
  ·have qz:(e==0)=true:=by simp[hez]
   have qz':(e != 0)=false:=by simp[hez]
   have HEZ:=hid hez
   clear hez
   go_enter Tryz.func324,Tryz.ntmps324
   go_wp2_with (first
    | (go_at_call 325;refine(HCAL.out _).mono ?_;rintro e w3 ⟨rfl,hb3⟩;have HB3:=hid hb3;clear hb3)
    | (go_at_call 346;refine HT.out.mono ?_;rintro e w2 ⟨rfl,h2,hg2⟩;have H2R:=hid h2;have HG2:=hid hg2;have hpc:=HPC.out w2 h2;have hsn:=HSN.out w2;have hbl:=h2.lt;clear h2 hg2))
   go_ret
   rw[HM.out,if_neg (by simp[HEZ.out])]
   have hbb:=World.grownBy_alloc w2 (tokO tk) (some b)
   exact⟨rfl,isRd_low (H2R.out.alloc _) HB3.out (by rw[World.size_alloc];omega),HG2.out.trans (hbb.trans (grownOf HB3.out (some b)))⟩
  ·have qz:(e==0)=false:=by simp[hez]
   have qz':(e != 0)=true:=by simp[hez]
   have HEZ:=hid hez
   have HFL:=hid (fun (w':World) (h':IsRd w' b s r1)=>fail_call b s r1 tk.p e w' h')
   clear hez
   go_enter Tryz.func324,Tryz.ntmps324
   go_upto_region 5 with (first
    | (go_at_call 325;refine(HCAL.out _).mono ?_;rintro e w3 ⟨rfl,hb3⟩;have HB3:=hid hb3;clear hb3)
    | (go_at_call 346;refine HT.out.mono ?_;rintro e w2 ⟨rfl,h2,hg2⟩;have H2R:=hid h2;have HG2:=hid hg2;have hpc:=HPC.out w2 h2;have hsn:=HSN.out w2;have hbl:=h2.lt;clear h2 hg2))
   have hbb:=World.grownBy_alloc w2 (tokO tk) (some b)
   have HR3:=hid (isRd_low (H2R.out.alloc (tokO tk)) HB3.out (by rw[World.size_alloc];omega))
   have HG3:=hid (HG2.out.trans (hbb.trans (grownOf HB3.out (some b))))
   have hT3:w3.heap[w2.heap.size]?=some (tokO tk):=heapExt HB3.out (heap_alloc_new w2 _)
   have hcp:w3.cell? ⟨w2.heap.size,1,none⟩=some (.int .i64 (tk.p:Int)):=cellOf hT3 1
   clear hbb hT3
   go_wp2_with (go_at_call 274;refine(HFL.out w3 HR3.out).mono ?_;rintro e w4 ⟨rfl,h4,hg4⟩;have H4R:=hid h4;have HG4:=hid hg4;clear h4 hg4)
   go_ret
   rw[HM.out,if_pos HEZ.out,←HTE.out]
   exact⟨rfl,H4R.out,HG3.out.trans HG4.out⟩
 ·have HE:=hid he
  have qe:(r1.e==0)=false:=by simp[he]
  have qe':(r1.e != 0)=true:=by simp[he]
  clear he
  go_enter Tryz.func324,Tryz.ntmps324
  go_wp2_with (go_at_call 346;refine HT.out.mono ?_;rintro e w2 ⟨rfl,h2,hg2⟩;have H2R:=hid h2;have HG2:=hid hg2;have hpc:=HPC.out w2 h2;have hsn:=HSN.out w2;have hbl:=h2.lt;clear h2 hg2)
  go_ret
  have HM:r.moment s calP=(0,r1):=by
   unfold Rd.moment
   dsimp only
   rw[←HR1.out,if_pos HE.out]
  rw[HM]
  exact⟨rfl,H2R.out.alloc _,HG2.out.trans (World.grownBy_alloc _ _ _)⟩
theorem moment_time (b:Nat) (s:ByteArray) (r:Rd) (w:World) (h:IsRd w b s r) (hf:r.Fit s) (hs:s.size≤100000) (hTB:TB w b) :
 Calls Tryz.prog 324 #[.pointer (some ⟨b,0,none⟩),.func (.func 327) #[] #[]] w fun x w'=>x=.returned (.int .i64 (r.moment s calT).1)∧IsRd w' b s (r.moment s calT).2∧w.grownBy w' (some b):=by
 have HT:=hid (take_call b s r 3 w h hs hTB)
 obtain⟨tk,htk⟩:∃tk,tk=takeT r 3:=⟨_,rfl⟩
 obtain⟨r1,hr1⟩:∃r1,r1=r.take s 3:=⟨_,rfl⟩
 rw[←htk,←hr1] at HT
 have HTK:=hid htk
 have HR1:=hid hr1
 have HLT:=hid h.lt
 have htb:tk.b.size≤400000:=by
  rw[htk];unfold takeT
  split
  ·have:=hf.b;omega
  ·exact Nat.zero_le _
 clear htk hr1
 have HLN:=hid (fun w2=>ld_tokNew w2 tk)
 have HSN:=hid (fun w2=>st_tokNew w2 #[.int .i64 0,.int .i64 0,.string ⟨#[]⟩,.string ⟨#[]⟩,.int .i64 0,.int .i64 0,.bool false,.bool false] rfl tk)
 have HPC:=hid (fun (w2:World) (h2:IsRd w2 b s r1)=>(cellOf h2.at_ 10:w2.cell? ⟨b,10,none⟩=some (.int .i64 r1.e)))
 by_cases he:r1.e=0
 ·have HE:=hid he
  have hk:r.e=0∧r.k=3:=by
   have h1:=HR1.out
   unfold Rd.take at h1
   split at h1
   ·rename_i hx;rw[h1] at he;exact absurd he hx
   split at h1
   ·rename_i hx hy;rw[h1] at he;exact absurd he (Rd.fail_e _ _ _ (by decide))
   ·rename_i hx hy;exact⟨Decidable.not_not.1 hx,Decidable.not_not.1 hy⟩
  have HTE:=hid (show tk=r by rw[HTK.out,takeT,if_pos hk])
  have qe:(r1.e==0)=true:=by simp[he]
  have qe':(r1.e != 0)=false:=by simp[he]
  have HCAL:=hid (fun w'=>calTime_call tk.b (by omega) w')
  obtain⟨n,hn⟩:∃n,n=(calT tk.b.data.toList).1:=⟨_,rfl⟩
  obtain⟨e,hee⟩:∃e,e=(calT tk.b.data.toList).2:=⟨_,rfl⟩
  rw[←hn,←hee] at HCAL
  have HM:=hid (show r.moment s calT=(n,if e≠0 then r1.fail r.p e else r1) by
   unfold Rd.moment
   dsimp only
   rw[←HR1.out,if_neg (by simp[HE.out]),hn,hee,HTE.out])
  clear hn hee he hk
  by_cases hez:e=0
  ·have qz:(e==0)=true:=by simp[hez]
   have qz':(e != 0)=false:=by simp[hez]
   have HEZ:=hid hez
   clear hez
   go_enter Tryz.func324,Tryz.ntmps324
   go_wp2_with (first
    | (go_at_call 327;refine(HCAL.out _).mono ?_;rintro e w3 ⟨rfl,hb3⟩;have HB3:=hid hb3;clear hb3)
    | (go_at_call 346;refine HT.out.mono ?_;rintro e w2 ⟨rfl,h2,hg2⟩;have H2R:=hid h2;have HG2:=hid hg2;have hpc:=HPC.out w2 h2;have hsn:=HSN.out w2;have hbl:=h2.lt;clear h2 hg2))
   go_ret
   rw[HM.out,if_neg (by simp[HEZ.out])]
   have hbb:=World.grownBy_alloc w2 (tokO tk) (some b)
   exact⟨rfl,isRd_low (H2R.out.alloc _) HB3.out (by rw[World.size_alloc];omega),HG2.out.trans (hbb.trans (grownOf HB3.out (some b)))⟩
  ·have qz:(e==0)=false:=by simp[hez]
   have qz':(e != 0)=true:=by simp[hez]
   have HEZ:=hid hez
   have HFL:=hid (fun (w':World) (h':IsRd w' b s r1)=>fail_call b s r1 tk.p e w' h')
   clear hez
   go_enter Tryz.func324,Tryz.ntmps324
   go_upto_region 5 with (first
    | (go_at_call 327;refine(HCAL.out _).mono ?_;rintro e w3 ⟨rfl,hb3⟩;have HB3:=hid hb3;clear hb3)
    | (go_at_call 346;refine HT.out.mono ?_;rintro e w2 ⟨rfl,h2,hg2⟩;have H2R:=hid h2;have HG2:=hid hg2;have hpc:=HPC.out w2 h2;have hsn:=HSN.out w2;have hbl:=h2.lt;clear h2 hg2))
   have hbb:=World.grownBy_alloc w2 (tokO tk) (some b)
   have HR3:=hid (isRd_low (H2R.out.alloc (tokO tk)) HB3.out (by rw[World.size_alloc];omega))
   have HG3:=hid (HG2.out.trans (hbb.trans (grownOf HB3.out (some b))))
   have hT3:w3.heap[w2.heap.size]?=some (tokO tk):=heapExt HB3.out (heap_alloc_new w2 _)
   have hcp:w3.cell? ⟨w2.heap.size,1,none⟩=some (.int .i64 (tk.p:Int)):=cellOf hT3 1
   clear hbb hT3
   go_wp2_with (go_at_call 274;refine(HFL.out w3 HR3.out).mono ?_;rintro e w4 ⟨rfl,h4,hg4⟩;have H4R:=hid h4;have HG4:=hid hg4;clear h4 hg4)
   go_ret
   rw[HM.out,if_pos HEZ.out,←HTE.out]
   exact⟨rfl,H4R.out,HG3.out.trans HG4.out⟩
 ·have HE:=hid he
  have qe:(r1.e==0)=false:=by simp[he]
  have qe':(r1.e != 0)=true:=by simp[he]
  clear he
  go_enter Tryz.func324,Tryz.ntmps324
  go_wp2_with (go_at_call 346;refine HT.out.mono ?_;rintro e w2 ⟨rfl,h2,hg2⟩;have H2R:=hid h2;have HG2:=hid hg2;have hpc:=HPC.out w2 h2;have hsn:=HSN.out w2;have hbl:=h2.lt;clear h2 hg2)
  go_ret
  have HM:r.moment s calT=(0,r1):=by
   unfold Rd.moment
   dsimp only
   rw[←HR1.out,if_pos HE.out]
  rw[HM]
  exact⟨rfl,H2R.out.alloc _,HG2.out.trans (World.grownBy_alloc _ _ _)⟩
end
end
section
open Go Go.RowKit Go.Shelf
structure RdI (s:ByteArray) (r:Rd):Prop where
 t0:r.e=0→r.k=0→r.t=⟨#[]⟩
 fit:r.Fit s
 k5:r.k≤5
theorem fail_k (r:Rd) (p:Nat) (e:Int):(r.fail p e).k=r.k:=by unfold Rd.fail;split<;>rfl
theorem mid_k (s:ByteArray) (a o:Nat) (c:UInt8):(midF s a o c).k≤5:=by
 unfold midF
 split
 ·unfold rdStr
  split
  ·dsimp only;omega
  ·rw[fail_k];exact Nat.zero_le _
  ·rw[fail_k];exact Nat.zero_le _
 split
 ·unfold rdByt
  split
  ·dsimp only;omega
  ·rw[fail_k];exact Nat.zero_le _
  ·rw[fail_k];exact Nat.zero_le _
 split
 ·dsimp only;omega
 split
 ·unfold rdNum
  extract_lets fq tq
  split
  ·rw[fail_k];exact Nat.zero_le _
  ·exact(by decide:2≤5)
 split
 ·exact Nat.le_refl _
 split
 ·exact Nat.le_refl _
 ·rw[fail_k];exact Nat.zero_le _
theorem adv_k {s:ByteArray} {r:Rd} (h:r.k≤5):(r.adv s).k≤5:=by
 by_cases he:r.e=0
 ·cases hc:s.data.toList[runI s.data.toList r.nx spC]? with
  | none=>rw[adv_end he hc];exact Nat.zero_le _
  | some c =>
    rw[adv_mid he hc]
    have hm:=mid_k s (runI s.data.toList r.nx spC) r.o c
    unfold finF
    split<;>exact hm
 ·unfold Rd.adv;rw[if_pos he];exact h
theorem mid_any (s:ByteArray) (a o:Nat) (c:UInt8) (hc:s.data.toList[a]?=some c):(midF s a o c).e=0→(midF s a o c).k≠0∧a<(midF s a o c).nx:=by
 unfold midF
 split
 ·intro he
  refine⟨(mid_str s a o).2 he,?_⟩
  revert he
  unfold rdStr
  split
  ·rename_i i b h
   intro _
   have:=strGo_le _ _ _ _ _ _ h
   dsimp only;omega
  ·rename_i i e h
   intro he;exact absurd he (Rd.fail_e _ _ _ (strGo_err _ _ _ _ _ _ h))
  ·intro he;exact absurd he (Rd.fail_e _ _ _ (by decide))
 split
 ·intro he
  refine⟨(mid_byt s a o).2 he,?_⟩
  revert he
  unfold rdByt
  split
  ·rename_i i b h
   intro _
   have:=(bytGo_le _ _ _ _ _ _ h).1
   dsimp only;omega
  ·intro he;exact absurd he (Rd.fail_e _ _ _ (by decide))
  ·intro he;exact absurd he (Rd.fail_e _ _ _ (by decide))
 split
 ·rename_i hl
  intro _
  refine⟨by simp,?_⟩
  exact runI_gt _ _ _ c hc (by unfold wrdC;rw[hl];rfl)
 split
 ·intro he
  refine⟨(mid_num s a o).2 he,?_⟩
  revert he
  unfold rdNum
  dsimp only
  have h1:a≤(if s.data.toList[a]?=some 45 then a+1 else a):=by split<;>omega
  obtain⟨f,hf⟩:∃f,f=(if s.data.toList[a]?=some 45 then a+1 else a):=⟨_,rfl⟩
  rw[←hf] at h1 ⊢
  have h2:=runI_ge s.data.toList f digC
  obtain⟨tq,htq⟩:∃tq,tq=runI s.data.toList f digC:=⟨_,rfl⟩
  rw[←htq] at h2 ⊢
  have h3:=runI_ge s.data.toList (tq+1) digC
  split
  ·intro he;exact absurd he (Rd.fail_e _ _ _ (by decide))
  ·rename_i hne
   obtain⟨q,hq⟩:∃q,q=(if s.data.toList[tq]?=some 46∧(s.data.toList[tq+1]?.any digC)=true then (runI s.data.toList (tq+1) digC,true,false) else if s.data.toList[tq]?=some 100 then (tq+1,true,true) else (tq,false,false)):=⟨_,rfl⟩
   rw[←hq]
   have h4:tq≤q.1:=by
    rw[hq]
    split
    ·dsimp only;omega
    ·split<;>dsimp only<;>omega
   intro _
   dsimp only
   split
   ·rw[fail_nx];dsimp only;omega
   ·dsimp only;omega
 split
 ·intro _;exact⟨by simp,by dsimp only;omega⟩
 split
 ·intro _;exact⟨by simp,by dsimp only;omega⟩
 ·intro he;exact absurd he (Rd.fail_e _ _ _ (by decide))
theorem rdI_fail {s:ByteArray} {r:Rd} (h:RdI s r) (p:Nat) (e:Int) (he:e≠0):RdI s (r.fail p e):=⟨fun h1=>absurd h1 (Rd.fail_e _ _ _ he),fit_fail h.fit _ _,by rw[fail_k];exact h.k5⟩
theorem rdI_adv {s:ByteArray} {r:Rd} (h:RdI s r):RdI s (r.adv s):=by
 refine⟨?_,fit_adv h.fit,adv_k h.k5⟩
 by_cases he:r.e=0
 ·cases hc:s.data.toList[runI s.data.toList r.nx spC]? with
  | none=>rw[adv_end he hc];intro _ _;rfl
  | some c =>
    rw[adv_mid he hc]
    intro h1 h2
    have hm:=mid_any s _ r.o c hc
    unfold finF at h1 h2
    split at h2
    ·rename_i h3;exact absurd h2 (hm h3).1
    ·rename_i h3;rw[if_neg h3] at h1;exact absurd h1 h3
 ·unfold Rd.adv;rw[if_pos he];exact h.t0
theorem mu_good {s:ByteArray} {r:Rd} (he:r.e=0):r.mu s=1+2 * (s.size-r.nx)+(if r.k=0 then 0 else 1):=by unfold Rd.mu;rw[if_neg (by simp[he])]
theorem adv_mu_le {s:ByteArray} {r:Rd}:(r.adv s).mu s≤r.mu s:=by
 by_cases he:r.e=0
 ·rw[mu_good he]
  cases hc:s.data.toList[runI s.data.toList r.nx spC]? with
  | none =>
    rw[adv_end he hc,mu_good (r:=r1F _ _) rfl,if_pos (show(r1F (runI s.data.toList r.nx spC) r.o).k=0 from rfl)]
    have:=runI_ge s.data.toList r.nx spC
    simp only[r1F]
    omega
  | some c =>
    rw[adv_mid he hc]
    have hm:=mid_any s _ r.o c hc
    have hg:=runI_ge s.data.toList r.nx spC
    have hlt:runI s.data.toList r.nx spC<s.size:=(List.getElem?_eq_some_iff.1 hc).1
    unfold finF
    by_cases h3:(midF s (runI s.data.toList r.nx spC) r.o c).e=0
    ·rw[if_pos h3,mu_good (r:={ midF s (runI s.data.toList r.nx spC) r.o c with t:=s.extract (runI s.data.toList r.nx spC) (midF s (runI s.data.toList r.nx spC) r.o c).nx }) h3]
     have:=(hm h3).2
     dsimp only
     split<;>split<;>omega
    ·rw[if_neg h3,Rd.mu_bad h3];exact Nat.zero_le _
 ·unfold Rd.adv;rw[if_pos he];exact Nat.le_refl _
theorem adv_mu_lt {s:ByteArray} {r:Rd} (he:r.e=0) (hk:r.k≠0):(r.adv s).mu s<r.mu s:=by
 rw[mu_good he,if_neg hk]
 cases hc:s.data.toList[runI s.data.toList r.nx spC]? with
 | none =>
   rw[adv_end he hc,mu_good (r:=r1F _ _) rfl,if_pos (show(r1F (runI s.data.toList r.nx spC) r.o).k=0 from rfl)]
   have:=runI_ge s.data.toList r.nx spC
   simp only[r1F]
   omega
 | some c =>
   rw[adv_mid he hc]
   have hm:=mid_any s _ r.o c hc
   have hg:=runI_ge s.data.toList r.nx spC
   have hlt:runI s.data.toList r.nx spC<s.size:=(List.getElem?_eq_some_iff.1 hc).1
   unfold finF
   by_cases h3:(midF s (runI s.data.toList r.nx spC) r.o c).e=0
   ·rw[if_pos h3,mu_good (r:={ midF s (runI s.data.toList r.nx spC) r.o c with t:=s.extract (runI s.data.toList r.nx spC) (midF s (runI s.data.toList r.nx spC) r.o c).nx }) h3]
    have:=(hm h3).2
    dsimp only
    split<;>omega
   ·rw[if_neg h3,Rd.mu_bad h3];omega
theorem fail_mu_le {s:ByteArray} (r:Rd) (p:Nat) (e:Int) (he:e≠0):(r.fail p e).mu s≤r.mu s:=by rw[Rd.fail_mu r p e he];exact Nat.zero_le _
theorem rdI_expect {s:ByteArray} {r:Rd} (h:RdI s r) (t:ByteArray):RdI s (r.expect s t):=by
 unfold Rd.expect
 split;· exact h
 split;· exact rdI_adv h
 exact rdI_fail h _ _ (by decide)
theorem expect_mu {s:ByteArray} {r:Rd} (t:ByteArray):(r.expect s t).mu s≤r.mu s:=by
 unfold Rd.expect
 split;· exact Nat.le_refl _
 split;· exact adv_mu_le
 exact fail_mu_le _ _ _ (by decide)
theorem rdI_take {s:ByteArray} {r:Rd} (h:RdI s r) (k:Nat):RdI s (r.take s k):=by
 unfold Rd.take
 split;· exact h
 split;· exact rdI_fail h _ _ (by decide)
 exact rdI_adv h
theorem take_mu {s:ByteArray} {r:Rd} (k:Nat):(r.take s k).mu s≤r.mu s:=by
 unfold Rd.take
 split;· exact Nat.le_refl _
 split;· exact fail_mu_le _ _ _ (by decide)
 exact adv_mu_le
theorem rdI_name {s:ByteArray} {r:Rd} (h:RdI s r):RdI s (r.name s):=by
 unfold Rd.name
 dsimp only
 split
 ·exact rdI_fail (rdI_take h 1) _ _ (by decide)
 ·exact rdI_take h 1
theorem name_mu {s:ByteArray} {r:Rd}:(r.name s).mu s≤r.mu s:=by
 unfold Rd.name
 dsimp only
 split
 ·rw[Rd.fail_mu _ _ _ (by decide)];exact Nat.zero_le _
 ·exact take_mu 1
theorem rdI_moment {s:ByteArray} {r:Rd} (h:RdI s r) (f:List UInt8→Int × Int):RdI s (r.moment s f).2:=by
 unfold Rd.moment
 dsimp only
 split
 ·exact rdI_take h 3
 ·dsimp only
  split
  ·rename_i h1;exact rdI_fail (rdI_take h 3) _ _ h1
  ·exact rdI_take h 3
theorem moment_mu {s:ByteArray} {r:Rd} (f:List UInt8→Int × Int):(r.moment s f).2.mu s≤r.mu s:=by
 unfold Rd.moment
 dsimp only
 split
 ·exact take_mu 3
 ·dsimp only
  split
  ·rename_i h1;rw[Rd.fail_mu _ _ _ h1];exact Nat.zero_le _
  ·exact take_mu 3
def RdOK (s:ByteArray) (rd:Rd→Val × Rd):Prop:=∀r,RdI s r→RdI s (rd r).2∧(rd r).2.mu s≤r.mu s∧(r.e=0→(rd r).2.mu s<r.mu s)∧((rd r).2.e=0→r.e=0)
theorem expect_e {s:ByteArray} {r:Rd} {t:ByteArray} (h:(r.expect s t).e=0):r.e=0:=by
 unfold Rd.expect at h
 split at h
 ·rename_i h1;exact absurd h h1
 ·rename_i h1;exact Decidable.not_not.1 h1
theorem take_e {s:ByteArray} {r:Rd} {k:Nat} (h:(r.take s k).e=0):r.e=0:=by
 unfold Rd.take at h
 split at h
 ·rename_i h1;exact absurd h h1
 ·rename_i h1;exact Decidable.not_not.1 h1
theorem name_e {s:ByteArray} {r:Rd} (h:(r.name s).e=0):r.e=0:=by
 unfold Rd.name at h
 dsimp only at h
 split at h
 ·exact absurd h (Rd.fail_e _ _ _ (by decide))
 ·exact take_e h
theorem fail_e0 {r:Rd} {p:Nat} {e:Int} (h:(r.fail p e).e=0):r.e=0:=by
 unfold Rd.fail at h
 split at h
 ·rename_i h1;exact h1
 ·rename_i h1;exact absurd h h1
theorem list_round {s:ByteArray} {rd:Rd→Val × Rd} (hrd:RdOK s rd) {r:Rd} (h:RdI s r) (he:r.e=0) (first:Bool) (t:ByteArray) :
 RdI s (rd (if first then r else r.expect s t)).2∧(rd (if first then r else r.expect s t)).2.mu s<r.mu s:=by
 cases first
 ·simp only[Bool.false_eq_true,if_false]
  have h1:=rdI_expect h t
  have h2:=expect_mu (s:=s) (r:=r) t
  obtain⟨a,b,c,d⟩:=hrd _ h1
  refine⟨a,?_⟩
  by_cases hx:(r.expect s t).e=0
  ·exact Nat.lt_of_lt_of_le (c hx) h2
  ·rw[Rd.mu_bad hx] at b
   have:=Rd.mu_pos (s:=s) he
   omega
 ·simp only[if_true]
  obtain⟨a,b,c,d⟩:=hrd _ h
  exact⟨a,c he⟩
theorem listGo_ok {s:ByteArray} {rd:Rd→Val × Rd} (hrd:RdOK s rd):∀(F:Nat) (first:Bool) (r:Rd) (acc:List Val),RdI s r→RdI s (listGo s rd F first r acc).2∧(listGo s rd F first r acc).2.mu s≤r.mu s∧((listGo s rd F first r acc).2.e=0→r.e=0)
 | 0,_,r,_,h=>⟨h,Nat.le_refl _,fun h=>h⟩
 | F+1,first,r,acc,h=>by
   rw[listGo]
   split
   ·exact⟨h,Nat.le_refl _,fun h=>h⟩
   ·rename_i hc
    have he:r.e=0:=Decidable.not_not.1 fun h=>hc (.inl h)
    obtain⟨a,b⟩:=list_round hrd h he first ⟨#[44]⟩
    obtain⟨c,d,e⟩:=listGo_ok hrd F false _ (acc++[(rd (if first then r else r.expect s ⟨#[44]⟩)).1]) a
    exact⟨c,by dsimp only;omega,fun _=>he⟩
def recR (s:ByteArray) (first:Bool) (r:Rd) (acc:List (ByteArray × Val)):Rd :=
 let r1:=if first then r else r.expect s ⟨#[44]⟩
 let r2:=r1.name s
 let nm:ByteArray:=if r1.e=0∧r1.k=1 then r1.t else ⟨#[]⟩
 (if r2.e=0∧acc.any (fun x=>decide (x.1=nm))=true then r2.fail r1.p 7 else r2).expect s ⟨#[58]⟩
def recN (s:ByteArray) (first:Bool) (r:Rd):ByteArray :=
 let r1:=if first then r else r.expect s ⟨#[44]⟩
 if r1.e=0∧r1.k=1 then r1.t else ⟨#[]⟩
theorem recGo_eq (s:ByteArray) (rd:Rd→Val × Rd) (f:Nat) (first:Bool) (r:Rd) (acc:List (ByteArray × Val)):recGo s rd (f+1) first r acc=if r.e≠0∨r.is ⟨#[125]⟩=true then (acc,r) else
 recGo s rd f false (rd (recR s first r acc)).2 (acc++[(recN s first r,(rd (recR s first r acc)).1)]):=by
 rw[recGo];rfl
theorem recR_ok {s:ByteArray} {r:Rd} (h:RdI s r) (first:Bool) (acc:List (ByteArray × Val)):RdI s (recR s first r acc)∧(recR s first r acc).mu s≤r.mu s∧((recR s first r acc).e=0→r.e=0):=by
 have h1:RdI s (if first then r else r.expect s ⟨#[44]⟩)∧(if first then r else r.expect s ⟨#[44]⟩).mu s≤r.mu s∧((if first then r else r.expect s ⟨#[44]⟩).e=0→r.e=0):=by
  split
  ·exact⟨h,Nat.le_refl _,fun h=>h⟩
  ·exact⟨rdI_expect h _,expect_mu _,expect_e⟩
 unfold recR
 dsimp only
 obtain⟨r1,hr1⟩:∃r1,r1=(if first then r else r.expect s ⟨#[44]⟩):=⟨_,rfl⟩
 rw[←hr1] at h1 ⊢
 obtain⟨a,b,c⟩:=h1
 have h2:=rdI_name a
 have h3:=name_mu (s:=s) (r:=r1)
 obtain⟨nm,hnm⟩:∃nm:ByteArray,nm=(if r1.e=0∧r1.k=1 then r1.t else ⟨#[]⟩):=⟨_,rfl⟩
 rw[←hnm]
 have h4:RdI s (if (r1.name s).e=0∧acc.any (fun x=>decide (x.1=nm))=true then (r1.name s).fail r1.p 7 else r1.name s)∧(if (r1.name s).e=0∧acc.any (fun x=>decide (x.1=nm))=true then (r1.name s).fail r1.p 7 else r1.name s).mu s≤(r1.name s).mu s∧((if (r1.name s).e=0∧acc.any (fun x=>decide (x.1=nm))=true then (r1.name s).fail r1.p 7 else r1.name s).e=0→(r1.name s).e=0):=by
  split
  ·exact⟨rdI_fail h2 _ _ (by decide),fail_mu_le _ _ _ (by decide),fail_e0⟩
  ·exact⟨h2,Nat.le_refl _,fun h=>h⟩
 obtain⟨d,e,f⟩:=h4
 refine⟨rdI_expect d _,?_,fun hx=>c (name_e (f (expect_e hx)))⟩
 have:=expect_mu (s:=s) (r:=(if (r1.name s).e=0∧acc.any (fun x=>decide (x.1=nm))=true then (r1.name s).fail r1.p 7 else r1.name s)) ⟨#[58]⟩
 omega
theorem rec_round {s:ByteArray} {rd:Rd→Val × Rd} (hrd:RdOK s rd) {r:Rd} (h:RdI s r) (he:r.e=0) (first:Bool) (acc:List (ByteArray × Val)) :
 RdI s (rd (recR s first r acc)).2∧(rd (recR s first r acc)).2.mu s<r.mu s:=by
 obtain⟨h1,h2,h3⟩:=recR_ok h first acc
 obtain⟨a,b,c,d⟩:=hrd _ h1
 refine⟨a,?_⟩
 by_cases hx:(recR s first r acc).e=0
 ·have:=c hx;omega
 ·rw[Rd.mu_bad hx] at b
  have:=Rd.mu_pos (s:=s) he
  omega
theorem recGo_ok {s:ByteArray} {rd:Rd→Val × Rd} (hrd:RdOK s rd):∀(F:Nat) (first:Bool) (r:Rd) (acc:List (ByteArray × Val)),RdI s r→RdI s (recGo s rd F first r acc).2∧(recGo s rd F first r acc).2.mu s≤r.mu s∧((recGo s rd F first r acc).2.e=0→r.e=0)
 | 0,_,r,_,h=>⟨h,Nat.le_refl _,fun h=>h⟩
 | F+1,first,r,acc,h=>by
   rw[recGo_eq]
   split
   ·exact⟨h,Nat.le_refl _,fun h=>h⟩
   ·rename_i hc
    have he:r.e=0:=Decidable.not_not.1 fun h=>hc (.inl h)
    obtain⟨a,b⟩:=rec_round hrd h he first acc
    obtain⟨c,d,e⟩:=recGo_ok hrd F false _ (acc++[(recN s first r,(rd (recR s first r acc)).1)]) a
    exact⟨c,by omega,fun _=>he⟩
theorem rdV_bad (s:ByteArray) (f:Nat) (r:Rd) (he:r.e≠0):rdV s f r=(nulV,r):=by unfold rdV;rw[if_pos he]
theorem rdV_ok (s:ByteArray):∀f,RdOK s (rdV s f):=by
 intro f
 induction f with
 | zero =>
   intro r h
   by_cases he:r.e=0
   ·have hp:=Rd.mu_pos (s:=s) he
    unfold rdV
    rw[if_neg (by simp[he])]
    by_cases hk:(r.k=0∨r.k=5)∧r.t≠⟨#[91]⟩∧r.t≠⟨#[123]⟩
    ·rw[if_pos hk]
     exact⟨rdI_fail h _ _ (by decide),fail_mu_le _ _ _ (by decide),fun _=>by dsimp only;rw[Rd.fail_mu _ _ _ (by decide)];exact hp,fun _=>he⟩
    ·rw[if_neg hk]
     exact⟨rdI_fail h _ _ (by decide),fail_mu_le _ _ _ (by decide),fun _=>by dsimp only;rw[Rd.fail_mu _ _ _ (by decide)];exact hp,fun _=>he⟩
   ·rw[rdV_bad s 0 r he]
    exact⟨h,Nat.le_refl _,fun h1=>absurd h1 he,fun h1=>h1⟩
 | succ f ih =>
   intro r h
   by_cases he:r.e=0
   ·have hp:=Rd.mu_pos (s:=s) he
    have hF:∀(x:Rd) (p:Nat) (e:Int),RdI s x→e≠0→RdI s (nulV,x.fail p e).2∧(nulV,x.fail p e).2.mu s≤r.mu s∧(r.e=0→(nulV,x.fail p e).2.mu s<r.mu s)∧((nulV,x.fail p e).2.e=0→r.e=0):=fun x p e hx hne=>⟨rdI_fail hx _ _ hne,by dsimp only;rw[Rd.fail_mu _ _ _ hne];exact Nat.zero_le _,fun _=>by dsimp only;rw[Rd.fail_mu _ _ _ hne];exact hp,fun _=>he⟩
    have hL:∀(v:Val) (x:Rd),RdI s x→x.mu s<r.mu s→RdI s (v,x).2∧(v,x).2.mu s≤r.mu s∧(r.e=0→(v,x).2.mu s<r.mu s)∧((v,x).2.e=0→r.e=0):=fun v x hx hm=>⟨hx,by dsimp only;omega,fun _=>hm,fun _=>he⟩
    unfold rdV
    rw[if_neg (by simp[he])]
    by_cases hk:(r.k=0∨r.k=5)∧r.t≠⟨#[91]⟩∧r.t≠⟨#[123]⟩
    ·rw[if_pos hk]
     exact hF _ _ _ h (by decide)
    ·rw[if_neg hk]
     have hk0:r.k≠0:=by
      intro h0
      refine hk ⟨.inl h0,?_⟩
      rw[h.t0 he h0]
      exact⟨by simp,by simp⟩
     dsimp only
     have a1:=rdI_adv h
     have a2:=adv_mu_lt (s:=s) he hk0
     obtain⟨r1,hr1⟩:∃r1,r1=r.adv s:=⟨_,rfl⟩
     rw[←hr1] at a1 a2 ⊢
     by_cases c0:r.k=2
     ·rw[if_pos c0]
      exact hL _ _ a1 a2
     rw[if_neg c0]
     by_cases c1:r.k=3
     ·rw[if_pos c1]
      exact hL _ _ a1 a2
     rw[if_neg c1]
     by_cases c2:r.k=4
     ·rw[if_pos c2]
      exact hL _ _ a1 a2
     rw[if_neg c2]
     by_cases c3:r.t=⟨#[91]⟩
     ·rw[if_pos c3]
      obtain⟨b1,b2,_⟩:=listGo_ok ih (r1.mu s+1) true r1 [] a1
      have b3:=expect_mu (s:=s) (r:=(listGo s (rdV s f) (r1.mu s+1) true r1 []).2) ⟨#[93]⟩
      exact hL _ _ (rdI_expect b1 _) (by omega)
     rw[if_neg c3]
     by_cases c4:r.t=⟨#[123]⟩
     ·rw[if_pos c4]
      obtain⟨b1,b2,_⟩:=recGo_ok ih (r1.mu s+1) true r1 [] a1
      have b3:=expect_mu (s:=s) (r:=(recGo s (rdV s f) (r1.mu s+1) true r1 []).2) ⟨#[125]⟩
      exact hL _ _ (rdI_expect b1 _) (by omega)
     rw[if_neg c4]
     by_cases c5:r1.e≠0
     ·rw[if_pos c5]
      exact hL _ _ a1 a2
     rw[if_neg c5]
     by_cases c6:r1.is ⟨#[40]⟩=true
     ·rw[if_pos c6]
      by_cases cn:isNameB r.t=false
      ·rw[if_pos cn]
       exact hF _ _ _ a1 (by decide)
      ·rw[if_neg cn]
       obtain⟨c1,c2,_,_⟩:=ih _ (rdI_adv a1)
       have c3:=adv_mu_le (s:=s) (r:=r1)
       have b3:=expect_mu (s:=s) (r:=(rdV s f (r1.adv s)).2) ⟨#[41]⟩
       exact hL _ _ (rdI_expect c1 _) (by omega)
     rw[if_neg c6]
     by_cases c7:r.t=⟨#[116,114,117,101]⟩
     ·rw[if_pos c7]
      exact hL _ _ a1 a2
     rw[if_neg c7]
     by_cases c8:r.t=⟨#[102,97,108,115,101]⟩
     ·rw[if_pos c8]
      exact hL _ _ a1 a2
     rw[if_neg c8]
     by_cases c9:r.t=⟨#[100,97,116,101]⟩
     ·rw[if_pos c9]
      exact hL _ _ (rdI_moment a1 _) (Nat.lt_of_le_of_lt (moment_mu _) a2)
     rw[if_neg c9]
     by_cases c10:r.t=⟨#[116,105,109,101]⟩
     ·rw[if_pos c10]
      exact hL _ _ (rdI_moment a1 _) (Nat.lt_of_le_of_lt (moment_mu _) a2)
     rw[if_neg c10]
     by_cases c11:r.t=⟨#[110,117,108,108]⟩∧f=7
     ·rw[if_pos c11]
      exact hL _ _ a1 a2
     ·rw[if_neg c11]
      exact hF _ _ _ a1 (by decide)
   ·rw[rdV_bad s (f+1) r he]
    exact⟨h,Nat.le_refl _,fun h1=>absurd h1 he,fun h1=>h1⟩
end
section
open Go Go.RowKit Go.Shelf
theorem mkInt_call (n:Int) (w:World):Calls Tryz.prog 57 #[.int .i64 n] w fun x w'=>x=.returned (.agg #[.int .i64 2,.int .i64 n,.int .i64 0,.string ⟨#[]⟩,.slice none 0 0,.slice none 0 0])∧Below w.heap.size w w':=by
 go_enter Tryz.func57,Tryz.ntmps57
 go_wp2
 refine bodyPost_ret (v:=.agg #[.int .i64 2,.int .i64 n,.int .i64 0,.string ⟨#[]⟩,.slice none 0 0,.slice none 0 0]) (by simp[results,Tryz.results57,go_sem]) rfl ?_
 exact⟨rfl,(Below.refl _ w).alloc (Nat.le_refl _) _⟩
theorem mkDec_call (n m:Int) (w:World):Calls Tryz.prog 276 #[.int .i64 n,.int .i64 m] w fun x w'=>x=.returned (.agg #[.int .i64 3,.int .i64 n,.int .i64 m,.string ⟨#[]⟩,.slice none 0 0,.slice none 0 0])∧Below w.heap.size w w':=by
 go_enter Tryz.func276,Tryz.ntmps276
 go_wp2
 refine bodyPost_ret (v:=.agg #[.int .i64 3,.int .i64 n,.int .i64 m,.string ⟨#[]⟩,.slice none 0 0,.slice none 0 0]) (by simp[results,Tryz.results276,go_sem]) rfl ?_
 exact⟨rfl,(Below.refl _ w).alloc (Nat.le_refl _) _⟩
theorem mkText_call (z:ByteArray) (w:World):Calls Tryz.prog 56 #[.string z] w fun x w'=>x=.returned (.agg #[.int .i64 4,.int .i64 0,.int .i64 0,.string z,.slice none 0 0,.slice none 0 0])∧Below w.heap.size w w':=by
 go_enter Tryz.func56,Tryz.ntmps56
 go_wp2
 refine bodyPost_ret (v:=.agg #[.int .i64 4,.int .i64 0,.int .i64 0,.string z,.slice none 0 0,.slice none 0 0]) (by simp[results,Tryz.results56,go_sem]) rfl ?_
 exact⟨rfl,(Below.refl _ w).alloc (Nat.le_refl _) _⟩
theorem mkBytes_call (z:ByteArray) (w:World):Calls Tryz.prog 277 #[.string z] w fun x w'=>x=.returned (.agg #[.int .i64 5,.int .i64 0,.int .i64 0,.string z,.slice none 0 0,.slice none 0 0])∧Below w.heap.size w w':=by
 go_enter Tryz.func277,Tryz.ntmps277
 go_wp2
 refine bodyPost_ret (v:=.agg #[.int .i64 5,.int .i64 0,.int .i64 0,.string z,.slice none 0 0,.slice none 0 0]) (by simp[results,Tryz.results277,go_sem]) rfl ?_
 exact⟨rfl,(Below.refl _ w).alloc (Nat.le_refl _) _⟩
theorem mkDate_call (n:Int) (w:World):Calls Tryz.prog 323 #[.int .i64 n] w fun x w'=>x=.returned (.agg #[.int .i64 6,.int .i64 n,.int .i64 0,.string ⟨#[]⟩,.slice none 0 0,.slice none 0 0])∧Below w.heap.size w w':=by
 go_enter Tryz.func323,Tryz.ntmps323
 go_wp2
 refine bodyPost_ret (v:=.agg #[.int .i64 6,.int .i64 n,.int .i64 0,.string ⟨#[]⟩,.slice none 0 0,.slice none 0 0]) (by simp[results,Tryz.results323,go_sem]) rfl ?_
 exact⟨rfl,(Below.refl _ w).alloc (Nat.le_refl _) _⟩
theorem mkTime_call (n:Int) (w:World):Calls Tryz.prog 326 #[.int .i64 n] w fun x w'=>x=.returned (.agg #[.int .i64 7,.int .i64 n,.int .i64 0,.string ⟨#[]⟩,.slice none 0 0,.slice none 0 0])∧Below w.heap.size w w':=by
 go_enter Tryz.func326,Tryz.ntmps326
 go_wp2
 refine bodyPost_ret (v:=.agg #[.int .i64 7,.int .i64 n,.int .i64 0,.string ⟨#[]⟩,.slice none 0 0,.slice none 0 0]) (by simp[results,Tryz.results326,go_sem]) rfl ?_
 exact⟨rfl,(Below.refl _ w).alloc (Nat.le_refl _) _⟩
theorem mkTrue_call (w:World):Calls Tryz.prog 322 #[.bool true] w fun x w'=>x=.returned (.agg #[.int .i64 1,.int .i64 1,.int .i64 0,.string ⟨#[]⟩,.slice none 0 0,.slice none 0 0])∧Below w.heap.size w w':=by
 go_enter Tryz.func322,Tryz.ntmps322
 go_wp2
 refine bodyPost_ret (v:=.agg #[.int .i64 1,.int .i64 1,.int .i64 0,.string ⟨#[]⟩,.slice none 0 0,.slice none 0 0]) (by simp[results,Tryz.results322,go_sem]) rfl ?_
 exact⟨rfl,(Below.refl _ w).alloc (Nat.le_refl _) _⟩
theorem mkFalse_call (w:World):Calls Tryz.prog 322 #[.bool false] w fun x w'=>x=.returned (.agg #[.int .i64 1,.int .i64 0,.int .i64 0,.string ⟨#[]⟩,.slice none 0 0,.slice none 0 0])∧Below w.heap.size w w':=by
 go_enter Tryz.func322,Tryz.ntmps322
 go_wp2
 refine bodyPost_ret (v:=.agg #[.int .i64 1,.int .i64 0,.int .i64 0,.string ⟨#[]⟩,.slice none 0 0,.slice none 0 0]) (by simp[results,Tryz.results322,go_sem]) rfl ?_
 exact⟨rfl,(Below.refl _ w).alloc (Nat.le_refl _) _⟩
theorem ld6 {w:World} {N:Nat} {x0 x1 x2 x3 x4 x5:Value} {t:TypeId} {fr:Nat × Nat} (h:w.heap[N]?=some (.cells #[x0,x1,x2,x3,x4,x5] t fr)):(loadCellsFrom ⟨N,0,none⟩ 0 6 #[]).run Tryz.prog w=.ok #[x0,x1,x2,x3,x4,x5] w:=by
 have:=run_loadCells_list (P:=Tryz.prog) w ⟨N,0,none⟩ [x0,x1,x2,x3,x4,x5] (fun j v hv=>by
  rw[add_at,Nat.zero_add,cellOf h j];simpa using hv)
 exact this
theorem st6 {w:World} {N:Nat} {cur:Array Value} (h:w.heap[N]?=some (.cells cur 25 (0,0))) (hc:cur.size=6) (x0 x1 x2 x3 x4 x5:Value) (h1:∀v∈[x0,x1,x2,x3,x4,x5],v.oneCell'=true) :
 (storeCells ⟨N,0,none⟩ [x0,x1,x2,x3,x4,x5] 0).run Tryz.prog w=.ok () (w.setRow N #[x0,x1,x2,x3,x4,x5]):=by
 have:=run_storeCells_from (P:=Tryz.prog) N 25 [x0,x1,x2,x3,x4,x5] 0 cur w h (by rw[hc];rfl) h1
 simpa using this
theorem infoVal:(Tryz.prog.info? 25).map (·.size)=some 6:=by kernel_rfl
theorem st6New (w:World) (z:Array Value) (hz:z.size=6) (x0 x1 x2 x3 x4 x5:Value) (h1:∀v∈[x0,x1,x2,x3,x4,x5],v.oneCell'=true) :
 (storeCells ⟨w.heap.size,0,none⟩ [x0,x1,x2,x3,x4,x5] 0).run Tryz.prog (w.alloc (.cells z 25))=.ok () (w.alloc (.cells #[x0,x1,x2,x3,x4,x5] 25)):=by
 have:=run_storeCells_new (P:=Tryz.prog) w 25 z #[x0,x1,x2,x3,x4,x5] (by rw[infoVal];rfl) (by rw[hz];rfl) (by
  rw[Array.all_eq_true_iff_forall_mem];intro v hv;exact h1 v (by simpa using hv))
 exact this
abbrev valZ:Obj:=.cells #[.int .i64 0,.int .i64 0,.int .i64 0,.string ⟨#[]⟩,.slice none 0 0,.slice none 0 0] 25
theorem BuiltV.grownB {T B b:Nat} {w w':World} {v:Value} {k:Nat} {l:List Val} (h:BuiltV T B w v k l) (hg:w.grownBy w' (some b)) (hb:b<B):BuiltV T B w' v k l:=by
 have ho:=h.own
 obtain⟨cs,h1,h2,h3⟩:=h
 refine⟨cs,h1,h2.kept hg ?_,fun j hj hj'=>(h3 j hj hj').same fun i hi=>⟨⟨hi.1,by have:=hg.size;omega,hi.2.2⟩,hg.block i hi.2.1 (by have:=hi.1;simp;omega)⟩⟩
 cases hv:v.ownBlock with
 | none=>exact .inl rfl
 | some g=>right;intro e;have:=(ho g hv).1;cases e;omega
theorem grownN {w w':World} {b N:Nat} {o:Obj} (hg:w.grownBy w' (some b)) (h:w.heap[N]?=some o) (hne:N≠b):w'.heap[N]?=some o:=(hg.block N (ltOf h) (by simp[hne])).trans h
def muW (w:World) (b:Nat) (s:ByteArray):Nat:=if intOf ((w.cell? ⟨b,10,none⟩).getD undef)≠0 then 0 else 1+2 * (s.size-(intOf ((w.cell? ⟨b,1,none⟩).getD undef)).toNat)+(if intOf ((w.cell? ⟨b,2,none⟩).getD undef)=0 then 0 else 1)
theorem muW_eq {w:World} {b:Nat} {s:ByteArray} {r:Rd} (h:IsRd w b s r):muW w b s=r.mu s:=by
 unfold muW Rd.mu
 rw[show w.cell? ⟨b,10,none⟩=some (.int .i64 r.e) from cellOf h.at_ 10,show w.cell? ⟨b,1,none⟩=some (.int .i64 (r.nx:Int)) from cellOf h.at_ 1,show w.cell? ⟨b,2,none⟩=some (.int .i64 (r.k:Int)) from cellOf h.at_ 2]
 simp only[Option.getD_some,intOf,Int.toNat_natCast]
 congr 2
 have:((r.k:Int)=0)=(r.k=0):=by rw[eq_iff_iff];omega
 simp only[this]
theorem mkVariant_call (t:ByteArray) (ht:t.size≤140737488351232) (c:VC) (d:Val) (w:World) (hd:IsVal (· < w.heap.size) w c d) :
 Calls Tryz.prog 321 #[.string t,c.v] w fun x w'=>(∃c':VC,x=.returned c'.v∧IsVal (fun b=>w.heap.size≤b∧b<w'.heap.size) w' c' (.mk 10 0 0 t [d] [] []))∧Below w.heap.size w w':=by
 have hw1:∀o1 o2 o3:Obj,Below w.heap.size w (((w.alloc o1).alloc o2).alloc o3):=fun o1 o2 o3=>(((Below.refl _ w).alloc (Nat.le_refl _) _).alloc (by simp) _).alloc (by simp;omega) _
 obtain⟨wq,hwq⟩:∃wq,wq=((w.alloc (vObj c)).alloc valZ).alloc (vObj c):=⟨_,rfl⟩
 have hbq:Below w.heap.size w wq:=by rw[hwq];exact hw1 _ _ _
 have hd2:IsVal (· < wq.heap.size) wq c d:=hd.same fun b hb=>⟨by have:=hbq.size;omega,hbq.block b hb⟩
 have hN:wq.heap[w.heap.size+2]?=some (vObj c):=by rw[hwq];exact heapNewAt _ _ _ (by simp)
 have hsz:wq.heap.size=w.heap.size+3:=by rw[hwq];simp
 have hz2:wq.heap[w.heap.size+1]?=some valZ:=by rw[hwq];exact heapAlloc _ (heapNewAt _ _ _ (by simp))
 have hIV:IsVal (· < wq.heap.size) wq ⟨10,0,0,t,some ⟨w.heap.size+2,0,none⟩,1,1,none,0,0⟩ (.mk 10 0 0 t [d] [] []):=by
  refine⟨⟨rfl,rfl,rfl,rfl,⟨by simp[I64],by simp[I64],by simp[I64],ht,(show 1 * 88≤140737488351232 by decide),(show 0 * 104≤140737488351232 by decide),Nat.le_refl _,Nat.le_refl _⟩,rfl,rfl,rfl⟩,.inr ⟨w.heap.size+2,0,rfl,by omega,⟨⟨c,⟨cellOf hN 0,cellOf hN 1,cellOf hN 2,cellOf hN 3,cellOf hN 4,cellOf hN 5⟩,hd2⟩,trivial⟩⟩,.inl rfl⟩
 have HCL:=hid (clone_call hIV)
 have HBQ:=hid hbq
 have HSZ:=hid hsz
 have HZ2:=hid hz2
 rw[hwq] at HCL
 clear hw1 hbq hd2 hN hsz hz2 hIV hd
 dsimp only[VC.v] at HCL
 go_enter Tryz.func321,Tryz.ntmps321
 go_wp2_with (go_at_call 244;refine HCL.out.mono ?_;rintro e w1 ⟨c1,rfl,hb1,hv1⟩;rw[←hwq] at hb1 hv1;have HB1:=hid hb1;have HV1:=hid hv1;have hz1:=heapExt hb1 HZ2.out;have k0:=cellOf hz1 0;have k1:=cellOf hz1 1;have k2:=cellOf hz1 2;have k3:=cellOf hz1 3;have k4:=cellOf hz1 4;have k5:=cellOf hz1 5;have f0:=freeOf hz1 0;have f1:=freeOf hz1 1;have f2:=freeOf hz1 2;have f3:=freeOf hz1 3;have f4:=freeOf hz1 4;have f5:=freeOf hz1 5;(try dsimp only at k0 k1 k2 k3 k4 k5);clear hb1 hv1 hz1)
 refine bodyPost_ret (v:=c1.v) (by simp[results,Tryz.results321,go_sem,k0,k1,k2,k3,k4,k5]) rfl ?_
 have hs:=HSZ.out
 have hs1:=HB1.out.size
 refine⟨⟨c1,rfl,?_⟩,?_⟩
 ·refine HV1.out.same fun i hi=>⟨⟨by omega,by simp[World.setCell];exact hi.2⟩,?_⟩
  iterate 6 (refine(Below.heap_setCell _ _ _ _ (by dsimp only;omega)).trans ?_)
  rfl
 ·have hbb:=HBQ.out.trans (HB1.out.mono HBQ.out.size)
  exact(((((hbb.setCell (by simp) _).setCell (by simp) _).setCell (by simp) _).setCell (by simp) _).setCell (by simp) _).setCell (by simp) _
end
section
open Go Go.RowKit Go.Shelf
def ValPost (w:World) (b:Nat) (s:ByteArray) (q:Val × Rd) (x:Ending) (w':World):Prop:=∃(c:VC) (d:Val),x=.returned c.v∧IsVal (fun i=>w.heap.size≤i∧i<w'.heap.size) w' c d∧(q.2.e=0→d=q.1)∧IsRd w' b s q.2∧w.grownBy w' (some b)
def ValIH (f:Nat):Prop:=∀(b:Nat) (s:ByteArray) (r:Rd) (dep:Int) (w:World),IsRd w b s r→RdI s r→s.size≤100000→TB w b→dep+f=8→Calls Tryz.prog 213 #[.pointer (some ⟨b,0,none⟩),.int .i64 dep] w (ValPost w b s (rdV s f r))
def ListRel (w:World) (b N:Nat) (s:ByteArray) (f:Nat) (r0:Rd) (first:Bool) (wr:World):Prop :=
 ∃(r:Rd) (acc accd:List Val) (v:Value) (F:Nat),IsRd wr b s r∧RdI s r∧accd.length=acc.length∧(r.e=0→accd=acc)∧listGo s (rdV s f) (r0.mu s+1) true r0 []=listGo s (rdV s f) F first r acc∧r.mu s<F∧acc.length+r.mu s≤r0.mu s ∧
  wr.heap[N]?=some valZ∧wr.heap[N+1]?=some (.cells #[.int .i64 8,.int .i64 0,.int .i64 0,.string ⟨#[]⟩,v,.slice none 0 0] 25)∧BuiltV 25 (N+2) wr v accd.length accd∧w.grownBy wr (some b)
theorem mu_max (s:ByteArray) (r:Rd):r.mu s≤2 * s.size+2:=by unfold Rd.mu;split<;>(try split)<;>omega
section
attribute [-go_sem] loadCellsFrom storeCells
attribute [local go_sem] lcf0 lcf1 lcf2 lcf3 lcf4 lcf5 stc0 stc1
theorem list_call (f:Nat) (IH:ValIH f) (b:Nat) (s:ByteArray) (r0:Rd) (dep:Int) (w:World) (h:IsRd w b s r0) (hI:RdI s r0) (hs:s.size≤100000) (hTB:TB w b) (hdep:dep+1+f=8) (hd0:0≤dep) :
 Calls Tryz.prog 278 #[.pointer (some ⟨b,0,none⟩),.int .i64 dep] w
  (ValPost w b s (.mk 8 0 0 ⟨#[]⟩ (listGo s (rdV s f) (r0.mu s+1) true r0 []).1 [] [],(listGo s (rdV s f) (r0.mu s+1) true r0 []).2.expect s ⟨#[93]⟩)):=by
 obtain⟨ti,hi,hz0,hz1,hz2⟩:=info_parts infoValue
 have HTB:=hid hTB
 have hmx:=mu_max s r0
 obtain⟨Q,hQ⟩:∃Q,Q=listGo s (rdV s f) (r0.mu s+1) true r0 []:=⟨_,rfl⟩
 rw[←hQ]
 have HQ:=hid hQ
 clear hQ
 have hst1:=st6New (w.alloc valZ) #[.int .i64 0,.int .i64 0,.int .i64 0,.string ⟨#[]⟩,.slice none 0 0,.slice none 0 0] rfl (.int .i64 8) (.int .i64 0) (.int .i64 0) (.string ⟨#[]⟩) (.slice none 0 0) (.slice none 0 0) (by simp[Value.oneCell'])
 simp only[World.size_alloc] at hst1
 have HR0:=hid h
 have HI0:=hid hI
 have hbl:=h.lt
 clear h hI hTB
 go_enter Tryz.func278,Tryz.ntmps278
 go_wp2
 clear hst1
 obtain⟨N,hN⟩:∃N,N=w.heap.size:=⟨_,rfl⟩
 have HNB:=hid (show N≠b∧N+1≠b by omega)
 have hbN:b<N:=by omega
 rw[←hN]
 have HNN:=hid hN
 clear hN
 go_loopw [6] (fun fv wr=>∃first:Bool,fv=.bool first∧ListRel w b N s f r0 first wr) (fun _ wr=>muW wr b s)
 case atStart =>
  refine⟨true,rfl,r0,[],[],.slice none 0 0,r0.mu s+1,(HR0.out.alloc _).alloc _,HI0.out,rfl,fun _=>rfl,rfl,Nat.lt_succ_self _,by simp,?_,?_,BuiltV.nil _ _ _ _,(World.grownBy_alloc _ _ _).trans (World.grownBy_alloc _ _ _)⟩
  ·rw[HNN.out];exact heapAlloc _ (heap_alloc_new w _)
  ·rw[HNN.out,←World.size_alloc w valZ];exact heap_alloc_new (w.alloc valZ) _
 case round =>
  obtain⟨first,rfl,r,acc,accd,v,F,hr,hI,hlen,hac,heq,hF,hmu,hn0,hn1,hbu,hg⟩:=hrel
  have HR:=hid hr
  have HI:=hid hI
  have HAC:=hid hac
  have HLN:=hid hlen
  have hak:accd.length≤200010:=by rw[hlen];omega
  have HEQ:=hid heq
  have HN0:=hid hn0
  have HN1:=hid hn1
  have HG:=hid hg
  have HTBr:=hid (HTB.out.grown hg (.inr rfl))
  have HMW:=hid (muW_eq hr)
  have HIS:=hid (is_call b s r ⟨#[93]⟩ wr hr)
  have qe10:wr.cell? ⟨b,10,none⟩=some (.int .i64 r.e):=cellOf hr.at_ 10
  obtain⟨F,rfl⟩:∃F',F=F'+1:=⟨F-1,by omega⟩
  obtain⟨q,hq⟩:∃q:Bool,q=r.is ⟨#[93]⟩:=⟨_,rfl⟩
  rw[←hq] at HIS
  have HQq:=hid hq
  clear hlen hac heq hn0 hn1 hg hr hI hq
  by_cases he:r.e=0
  ·have HE:=hid he
   have qe:(r.e==0)=true:=by simp[he]
   clear he
   cases q
   ·have hnd:¬ (r.e≠0∨r.is ⟨#[93]⟩=true):=by rw[←HQq.out];simp[HE.out]
    have HEQ2:=hid (show Q=listGo s (rdV s f) F false (rdV s f (if first=true then r else r.expect s ⟨#[44]⟩)).2 (acc++[(rdV s f (if first=true then r else r.expect s ⟨#[44]⟩)).1]) by
     rw[HQ.out,HEQ.out,listGo,if_neg hnd])
    have HRND:=hid (list_round (rdV_ok s f) HI.out HE.out first ⟨#[44]⟩)
    have HEXI:=hid (rdI_expect HI.out ⟨#[44]⟩)
    have HEXC:=hid (expect_call b s r ⟨#[44]⟩ wr HR.out hs HTBr.out)
    obtain⟨r2,hr2⟩:∃r2,r2=(if first=true then r else r.expect s ⟨#[44]⟩):=⟨_,rfl⟩
    rw[←hr2] at HEQ2 HRND
    have HR2:=hid hr2
    clear hr2 hnd
    go_upto_if 19 with (go_at_call 316;refine HIS.out.mono ?_;rintro e w2 ⟨rfl,hw2⟩;obtain rfl:=hw2.symm)
    go_cut [] (fun wz=>IsRd wz b s r2∧RdI s r2∧wr.grownBy wz (some b))
    case first =>
     cases first
     ·have h2:r2=r.expect s ⟨#[44]⟩:=HR2.out
      go_wp2_with (go_at_call 317;refine HEXC.out.mono ?_;rintro e w2 ⟨rfl,h2,hg2⟩;have H2R:=hid h2;have HG2:=hid hg2;clear h2 hg2)
      go_meet
      have h2:r2=r.expect s ⟨#[44]⟩:=HR2.out
      rw[h2]
      exact⟨H2R.out,HEXI.out,HG2.out⟩
     ·go_wp2
      go_meet
      have h2:r2=r:=HR2.out
      rw[h2]
      exact⟨HR.out,HI.out,⟨rfl,rfl,rfl,Nat.le_refl _,fun _ _ _=>rfl⟩⟩
    case rest =>
     obtain⟨hr2z,hI2,hg2⟩:=hcut
     obtain⟨wb,hwb⟩:∃u,u=wc:=⟨_,rfl⟩
     rw[←hwb] at hr2z hg2 ⊢
     clear hwb
     obtain⟨k,hk⟩:∃k,k=accd.length:=⟨_,rfl⟩
     have hbu2:=hbu.grownB hg2 (show b<N+2 by omega)
     have hbu3:BuiltV 25 (N+2) wb.drew v k accd:=hk▸hbu2.ext (Below.refl _ _).drew
     have HP0:=hid (grownN hg2 HN0.out HNB.out.1)
     have p1:wb.drew.heap[N+1]?=some (.cells #[.int .i64 8,.int .i64 0,.int .i64 0,.string ⟨#[]⟩,v,.slice none 0 0] 25):=(grownN hg2 HN1.out HNB.out.2:wb.heap[N+1]?=some (.cells #[.int .i64 8,.int .i64 0,.int .i64 0,.string ⟨#[]⟩,v,.slice none 0 0] 25))
     have P1:Hid (wb.drew.heap[N+1]?=some (.cells #[.int .i64 8,.int .i64 0,.int .i64 0,.string ⟨#[]⟩,v,.slice none 0 0] 25)):=hid p1
     have P2:Hid (IsRd wb.drew b s r2):=hid (hr2z.grown (row:=none) ⟨rfl,rfl,rfl,Nat.le_refl _,fun _ _ _=>rfl⟩ (by simp))
     have HGZ:=hid hg2
     have HTBz:=hid ((HTBr.out.grown hg2 (.inr rfl)).grown (row:=none) ⟨rfl,rfl,rfl,Nat.le_refl _,fun _ _ _=>rfl⟩ (.inl rfl):TB wb.drew b)
     have HI2:=hid hI2
     have HIH:=hid (fun (h':IsRd wb.drew b s r2)=>IH b s r2 (dep+1) wb.drew h' HI2.out hs HTBz.out (by omega))
     have hNz:N+1<wb.heap.size:=by have:=ltOf P1.out;simpa using this
     have HC:=hid (fun (w':World) (h:w'.heap[N+1]?=some (.cells #[.int .i64 8,.int .i64 0,.int .i64 0,.string ⟨#[]⟩,v,.slice none 0 0] 25))=>(show w'.cell? ⟨N+1,4,none⟩=some v from cellOf h 4))
     obtain⟨cs,hcs,hown,hel⟩:=hbu3
     have hvb:=BuiltV.own ⟨cs,hcs,hown,hel⟩
     have HCS:=hid hcs
     have hkb:k+1≤200010:=by rw[hk,HLN.out];have:=Rd.mu_pos (s:=s) HE.out;omega
     have hcap1:k+1≤maxLen:=by unfold maxLen;omega
     have hcap2:(k+1) * 88≤140737488355328:=by omega
     have hne3:some (N+1)≠v.ownBlock:=fun e=>by have:=(hvb _ e.symm).1;omega
     have HKP:=hid (show v.ownBlock=none∨v.ownBlock≠some b by
      cases hv:v.ownBlock with
      | none=>exact .inl rfl
      | some g=>right;intro e;have:=(hvb g hv).1;cases e;omega)
     have e1:IntKind.i64.wrap (dep+1)=dep+1:=IntWalk.i64_in _ ⟨by omega,by omega⟩
     have HHEL:=hid hel
     have HVB:=hid hvb
     have HK:=hid hk
     clear hr2z hI2 hg2 hbu hbu2 p1 hcs hel hk
     go_upto_region 7 with (fail)
     refine wp_region_split 8 (fun w'=>w'.heap[N+1]?=some (.cells #[.int .i64 8,.int .i64 0,.int .i64 0,.string ⟨#[]⟩,v,.slice none 0 0] 25)) (by kernel_rfl) (by kernel_rfl) (by kernel_rfl) (by decide) (P1.out) (fun hS=>?_)
     simp only[List.take_succ_cons,List.take_zero,List.drop_succ_cons,List.drop_zero]
     refine tkQ 0 (v:=?_) ?_ hS ?_;rotate_left;· intro w' hw';have hcells:=HC.out w' hw';go_simp;(try with_reducible rfl)
     simp only[Act.put,pt1,pt2,pt3,pt4,pt5,pt6]
     refine tkQ 1 (v:=?_) ?_ hS ?_;rotate_left;· intro w' hw';have hcells:=HC.out w' hw';go_simp;(try with_reducible rfl)
     simp only[Act.put,pt1,pt2,pt3,pt4,pt5,pt6]
     refine tkQ 2 (v:=?_) ?_ hS ?_;rotate_left;· intro w' hw';have hcells:=HC.out w' hw';go_simp;(try with_reducible rfl)
     simp only[Act.put,pt1,pt2,pt3,pt4,pt5,pt6]
     refine tkQ 3 (v:=?_) ?_ hS ?_;rotate_left;· intro w' hw';have hcells:=HC.out w' hw';go_simp;(try with_reducible rfl)
     simp only[Act.put,pt1,pt2,pt3,pt4,pt5,pt6]
     refine tkQ 4 (v:=?_) ?_ hS ?_;rotate_left;· intro w' hw';have hcells:=HC.out w' hw';go_simp;(try with_reducible rfl)
     simp only[Act.put,pt1,pt2,pt3,pt4,pt5,pt6]
     refine wpAnyH_ready (rs:=[5]) (by kernel_rfl) (by simp) ?_
     refine AllReadyH.cons (o:=_) rfl (fun K hK=>?_) AllReadyH.nil
     go_simp;go_at_call 213;refine(HIH.out P2.out).mono ?_
     rintro e w1 ⟨c1,d1,rfl,hv1,hd1,hr1,hg1⟩
     have q1:=hid (grownN hg1 P1.out HNB.out.2)
     have hs1:=hg1.size
     simp only[World.size_drew] at hs1
     refine hK.out _ _ (q1.out) (fun hS=>?_)
     clear hK K
     (try simp only[Act.put,pt1,pt2,pt3,pt4,pt5,pt6])
     refine wpAnyH_ready (rs:=[6]) (by kernel_rfl) (by simp) ?_
     refine AllReadyH.cons (o:=_) rfl (fun K hK=>?_) AllReadyH.nil
     go_simp
     refine hK.out _ _ (heapAlloc _ q1.out) (fun hS=>?_)
     clear hK K
     (try simp only[Act.put,pt1,pt2,pt3,pt4,pt5,pt6])
     refine wpAnyH_ready (rs:=[7]) (by kernel_rfl) (by simp) ?_
     refine AllReadyH.cons (o:=_) rfl (fun K hK=>?_) AllReadyH.nil
     refine step_append_lies _ (by rfl) _ _ _ (by rfl) (N+2) 25 ti _ 6 88 Tryz.underlying22 hi hz0 hz1 hz2 rfl (by omega) v k (cs.flatMap VC.cs) (by rfl) ((hown.kept hg1 HKP.out).alloc _) ⟨w1.heap.size,0,none⟩ 1 1 c1.cs (by rfl) (by rfl) (World.news_of_block (heap_alloc_new w1 _)) (by simp[VC.cs,Value.oneCell']) (by omega) hcap1 hcap2 (by simp;omega) (w1.heap.size+1) (by simp) ?_
     intro gg cap w2 hown2 hgrow hat hlt2
     have r1:=hid (heapGrown hgrow (heapAlloc _ q1.out) hne3)
     refine hK.out _ _ (r1.out) (fun hS=>?_)
     clear hK K
     (try simp only[Act.put,pt1,pt2,pt3,pt4,pt5,pt6])
     refine wpAnyH_done (by kernel_rfl) ?_ _
     (try dsimp only)
     have hc2:w2.cell? ⟨N+1,4,none⟩=some v:=cellOf r1.out 4
     have hf2:w2.frozen? ⟨N+1,4,none⟩=false:=freeOf r1.out 4
     have HWN:=hid (fun u=>(heapSet (o:=4) u r1.out))
     clear hS HC
     have HOB:=hid (show some b≠v.ownBlock from fun e=>by
      rcases HKP.out with h | h
      ·rw[h] at e;cases e
      ·exact h e.symm)
     have HFIN:=hid (fun u:Value=>(show IsRd (w2.setCell ⟨N+1,4,none⟩ u) b s (rdV s f r2).2 from⟨heapSetOther _ _ (heapGrown hgrow (heapAlloc _ hr1.at_) HOB.out) (by dsimp only;omega),hr1.ok⟩))
     have HF0:=hid (fun u:Value=>(show(w2.setCell ⟨N+1,4,none⟩ u).heap[N]?=some valZ from heapSetOther _ _ (heapGrown hgrow (heapAlloc _ (grownN hg1 (show wb.drew.heap[N]?=some valZ from HP0.out) HNB.out.1)) (fun e=>by have:=(HVB.out _ e.symm).1;omega)) (by dsimp only;omega)))
     have HGW:=hid (show w.grownBy (w1.alloc (.cells #[.int .i64 c1.k,.int .i64 c1.i,.int .i64 c1.s,.string c1.t,.slice c1.la c1.ll c1.lc,.slice c1.fa c1.fl c1.fc] 25)) (some b) from((HG.out.trans HGZ.out).trans ((show wb.grownBy wb.drew (some b) from⟨rfl,rfl,rfl,Nat.le_refl _,fun _ _ _=>rfl⟩).trans hg1)).trans (World.grownBy_alloc _ _ _))
     have HGR:=hid hgrow
     have HV1:=hid hv1
     have HD1:=hid hd1
     have HOWN2:=hid hown2
     have HAT:=hid hat
     have HG1:=hid hg1
     have hsz2:N+2≤w1.heap.size:=by have:=ltOf q1.out;omega
     clear hgrow hv1 hd1 hown2 hat hg1 hr1 hcap1 hcap2
     go_wp2
     go_roundw
     case rel =>
      refine⟨false,rfl,(rdV s f r2).2,acc++[(rdV s f r2).1],accd++[d1],_,F,HFIN.out _,HRND.out.1,by rw[List.length_append,List.length_append,HLN.out];rfl,?_,HQ.out.symm.trans HEQ2.out,by have:=HRND.out.2;omega,?_,HF0.out _,HWN.out _,?_,?_⟩
      ·intro hx
       rw[HD1.out hx,HAC.out HE.out]
      ·have:=HRND.out.2
       rw[List.length_append];simp only[List.length_cons,List.length_nil];omega
      ·refine BuiltV.set ?_ _ _ (by dsimp only;omega)
       have hlk:(accd++[d1]).length=k+1:=by rw[List.length_append,HK.out];rfl
       rw[hlk]
       refine BuiltV.push (N:=wb.drew.heap.size) HCS.out (fun j hj hj'=>?_) (by omega) ?_ (by simp only[World.size_drew];omega) (fun r e=>(HVB.out r e).2) HOWN2.out HGR.out HAT.out
       ·have hjk:j<accd.length:=by have:=HCS.out;have:=HK.out;omega
        rw[List.getElem_append_left hjk]
        exact(HHEL.out j hj hjk).same fun i hi=>⟨⟨hi.1,by have:=HG1.out.size;have:=hi.2.1;omega,hi.2.2⟩,HG1.out.block i hi.2.1 (by have:=hi.1;simp;omega)⟩
       ·have e2:(accd++[d1])[k]'(by omega)=d1:=by
         simp only[HK.out]
         exact List.getElem_concat_length rfl (by simp)
        rw[e2]
        exact HV1.out
      ·exact grown_low HGW.out (((Below.refl _ _).grown HGR.out (by simp;have:=HNN.out;omega) (fun r e=>by have:=(HVB.out r e).1;have:=HNN.out;omega)).setCell (by dsimp only;have:=HNN.out;omega) _)
     case measure =>
      rw[HMW.out,muW_eq (HFIN.out _)]
      exact HRND.out.2
   ·have HSP:=hid (show Q=(acc,r) by rw[HQ.out,HEQ.out,listGo,if_pos (.inr HQq.out.symm)])
    have HEX:=hid (expect_call b s r ⟨#[93]⟩ wr HR.out hs HTBr.out)
    have HB1:=hid (fun (w2:World) (hg:wr.grownBy w2 (some b))=>(show w2.heap[N]?=some valZ∧w2.heap[N+1]?=some (.cells #[.int .i64 8,.int .i64 0,.int .i64 0,.string ⟨#[]⟩,v,.slice none 0 0] 25) from⟨grownN hg HN0.out HNB.out.1,grownN hg HN1.out HNB.out.2⟩))
    obtain⟨al,capl,rfl,hcl,hal,hvo⟩:=hbu.shape
    have HBU:=hid hbu
    clear hbu
    skip
    go_upto_region 9 with (first
     | (go_at_call 317;refine HEX.out.mono ?_;rintro e w2 ⟨rfl,h2,hg2⟩;have H2R:=hid h2;have HG2:=hid hg2;clear h2 hg2)
     | (go_at_call 316;refine HIS.out.mono ?_;rintro e w2 ⟨rfl,hw2⟩;obtain rfl:=hw2.symm))
    obtain⟨m0,m1⟩:=HB1.out w2 HG2.out
    have hL1:=ld6 m1
    have hS1:=st6 m0 rfl (.int .i64 8) (.int .i64 0) (.int .i64 0) (.string ⟨#[]⟩) (.slice al accd.length capl) (.slice none 0 0) (by simp[Value.oneCell'])
    have hL2:=ld6 (setRow_heap w2 N _ #[.int .i64 8,.int .i64 0,.int .i64 0,.string ⟨#[]⟩,.slice al accd.length capl,.slice none 0 0] 25 (0,0) m0)
    clear m0 m1
    go_wp2
    refine bodyPost_ret (v:=.agg #[.int .i64 8,.int .i64 0,.int .i64 0,.string ⟨#[]⟩,.slice al accd.length capl,.slice none 0 0]) (by simp[results,Tryz.results278,go_sem,hL2]) rfl ?_
    have hbu2:=HBU.out.grownB HG2.out (show b<N+2 by omega)
    refine⟨⟨8,0,0,⟨#[]⟩,al,accd.length,capl,none,0,0⟩,.mk 8 0 0 ⟨#[]⟩ accd [] [],rfl,?_,?_,?_,?_⟩
    ·refine⟨⟨rfl,rfl,rfl,rfl,⟨by simp[I64],by simp[I64],by simp[I64],Nat.zero_le _,(show accd.length * 88≤140737488351232 by omega),(show 0 * 104≤140737488351232 by decide),hcl,Nat.le_refl _⟩,rfl,rfl,rfl⟩,?_,.inl rfl⟩
     rcases hbu2.vals with h | ⟨g,o,h1,h2,h3⟩
     ·exact .inl h
     ·have hsame:∀i,N+2≤i∧i<w2.heap.size→(w.heap.size≤i∧i<(w2.setRow N #[.int .i64 8,.int .i64 0,.int .i64 0,.string ⟨#[]⟩,.slice al accd.length capl,.slice none 0 0]).heap.size)∧(w2.setRow N #[.int .i64 8,.int .i64 0,.int .i64 0,.string ⟨#[]⟩,.slice al accd.length capl,.slice none 0 0]).heap[i]?=w2.heap[i]?:=fun i hi=>⟨⟨by have:=HNN.out;omega,by rw[setRow_size];exact hi.2⟩,setRow_other w2 N i _ (by omega)⟩
      exact .inr ⟨g,o,h1,(hsame g h2).1,IsVals.same hsame (hsame g h2).2 h3⟩
    ·intro he
     have he2:=expect_e he
     rw[HSP.out] at he2 ⊢
     rw[HAC.out he2]
    ·rw[HSP.out]
     exact isRd_setRow H2R.out HNB.out.1
    ·exact setRow_ext (HG.out.trans HG2.out) N _ (by have:=HNN.out;omega)
  ·have HE:=hid he
   have qe:(r.e==0)=false:=by simp[he]
   have HSP:=hid (show Q=(acc,r) by rw[HQ.out,HEQ.out,listGo,if_pos (.inl he)])
   clear he
   have HEX:=hid (expect_call b s r ⟨#[93]⟩ wr HR.out hs HTBr.out)
   have HB1:=hid (fun (w2:World) (hg:wr.grownBy w2 (some b))=>(show w2.heap[N]?=some valZ∧w2.heap[N+1]?=some (.cells #[.int .i64 8,.int .i64 0,.int .i64 0,.string ⟨#[]⟩,v,.slice none 0 0] 25) from⟨grownN hg HN0.out HNB.out.1,grownN hg HN1.out HNB.out.2⟩))
   obtain⟨al,capl,rfl,hcl,hal,hvo⟩:=hbu.shape
   have HBU:=hid hbu
   clear hbu
   skip
   go_upto_region 9 with (first
    | (go_at_call 317;refine HEX.out.mono ?_;rintro e w2 ⟨rfl,h2,hg2⟩;have H2R:=hid h2;have HG2:=hid hg2;clear h2 hg2)
    | (go_at_call 316;refine HIS.out.mono ?_;rintro e w2 ⟨rfl,hw2⟩;obtain rfl:=hw2.symm))
   obtain⟨m0,m1⟩:=HB1.out w2 HG2.out
   have hL1:=ld6 m1
   have hS1:=st6 m0 rfl (.int .i64 8) (.int .i64 0) (.int .i64 0) (.string ⟨#[]⟩) (.slice al accd.length capl) (.slice none 0 0) (by simp[Value.oneCell'])
   have hL2:=ld6 (setRow_heap w2 N _ #[.int .i64 8,.int .i64 0,.int .i64 0,.string ⟨#[]⟩,.slice al accd.length capl,.slice none 0 0] 25 (0,0) m0)
   clear m0 m1
   go_wp2
   refine bodyPost_ret (v:=.agg #[.int .i64 8,.int .i64 0,.int .i64 0,.string ⟨#[]⟩,.slice al accd.length capl,.slice none 0 0]) (by simp[results,Tryz.results278,go_sem,hL2]) rfl ?_
   have hbu2:=HBU.out.grownB HG2.out (show b<N+2 by omega)
   refine⟨⟨8,0,0,⟨#[]⟩,al,accd.length,capl,none,0,0⟩,.mk 8 0 0 ⟨#[]⟩ accd [] [],rfl,?_,?_,?_,?_⟩
   ·refine⟨⟨rfl,rfl,rfl,rfl,⟨by simp[I64],by simp[I64],by simp[I64],Nat.zero_le _,(show accd.length * 88≤140737488351232 by omega),(show 0 * 104≤140737488351232 by decide),hcl,Nat.le_refl _⟩,rfl,rfl,rfl⟩,?_,.inl rfl⟩
    rcases hbu2.vals with h | ⟨g,o,h1,h2,h3⟩
    ·exact .inl h
    ·have hsame:∀i,N+2≤i∧i<w2.heap.size→(w.heap.size≤i∧i<(w2.setRow N #[.int .i64 8,.int .i64 0,.int .i64 0,.string ⟨#[]⟩,.slice al accd.length capl,.slice none 0 0]).heap.size)∧(w2.setRow N #[.int .i64 8,.int .i64 0,.int .i64 0,.string ⟨#[]⟩,.slice al accd.length capl,.slice none 0 0]).heap[i]?=w2.heap[i]?:=fun i hi=>⟨⟨by have:=HNN.out;omega,by rw[setRow_size];exact hi.2⟩,setRow_other w2 N i _ (by omega)⟩
     exact .inr ⟨g,o,h1,(hsame g h2).1,IsVals.same hsame (hsame g h2).2 h3⟩
   ·intro he
    have he2:=expect_e he
    rw[HSP.out] at he2 ⊢
    rw[HAC.out he2]
   ·rw[HSP.out]
    exact isRd_setRow H2R.out HNB.out.1
   ·exact setRow_ext (HG.out.trans HG2.out) N _ (by have:=HNN.out;omega)
end
end
section
open Go Go.RowKit Go.Shelf
def namF (s:ByteArray) (f:Nat) (r r1:Rd):Val × Rd :=
 if r1.e≠0 then (nulV,r1)
 else if r1.is ⟨#[40]⟩ then (if isNameB r.t=false then (nulV,r1.fail r.p 12) else let q:=rdV s f (r1.adv s);(.mk 10 0 0 r.t [q.1] [] [],q.2.expect s ⟨#[41]⟩))
 else if r.t=⟨#[116,114,117,101]⟩ then (.mk 1 1 0 ⟨#[]⟩ [] [] [],r1)
 else if r.t=⟨#[102,97,108,115,101]⟩ then (.mk 1 0 0 ⟨#[]⟩ [] [] [],r1)
 else if r.t=⟨#[100,97,116,101]⟩ then let q:=r1.moment s calP;(.mk 6 q.1 0 ⟨#[]⟩ [] [] [],q.2)
 else if r.t=⟨#[116,105,109,101]⟩ then let q:=r1.moment s calT;(.mk 7 q.1 0 ⟨#[]⟩ [] [] [],q.2)
 else if r.t=⟨#[110,117,108,108]⟩∧f=7 then (nulV,r1)
 else (nulV,r1.fail r.p 13)
theorem bt_of (a:ByteArray) (l:List UInt8):(a.toList==l)=decide (a=⟨l.toArray⟩):=by
 rw[ByteArray.toList_eq,Bool.eq_iff_iff,beq_iff_eq,decide_eq_true_eq]
 exact⟨fun h=>ByteArray.ext (Array.ext' h),fun h=>by rw[h]⟩
theorem moment_i64 (s:ByteArray) (r:Rd) (f:List UInt8→Int × Int) (h:∀l,I64 (f l).1):I64 (r.moment s f).1:=by
 unfold Rd.moment
 dsimp only
 split
 ·simp[I64]
 ·exact h _
theorem daysF_i64 (y m d:Nat) : -719162≤(daysF y m d).1∧(daysF y m d).1≤2932896:=by
 by_cases h:(daysF y m d).2=0
 ·exact daysF_bd h
 ·unfold daysF at h ⊢
  split
  ·simp
  ·rename_i hn;rw[if_neg hn] at h;simp at h
theorem calP_i64 (l:List UInt8):I64 (calP l).1:=by
 unfold calP
 split
 ·rename_i y m d _
  have:=daysF_i64 y m d
  unfold I64;omega
 ·simp[I64]
theorem numD_lt {k:Nat} {l:List UInt8} {v:Nat} {r:List UInt8} (h:numD k 0 l=some (v,r)):v<10 ^ k:=by have:=(numD_bd k 0 l v r h).2;simpa using this
theorem frac_bd {r:List UInt8} {z:Nat} {rr:List UInt8} (h:fracF r=some (z,rr)):z≤999:=by
 unfold fracF at h
 split at h
 ·split at h
  ·rename_i n r' hn
   split at h
   ·cases h
   ·cases h
    have:=numD_lt hn;omega
  ·cases h
 ·cases h;omega
theorem calT_i64 (l:List UInt8):I64 (calT l).1:=by
 cases h:marksK [([],4),([45],2),([45],2),([84],2),([58],2),([58],2)] l with
 | none=>rw[calT_bad h];simp[I64]
 | some q =>
   obtain⟨ns,r⟩:=q
   obtain⟨hl,h9,_⟩:=marks_bd _ _ _ _ (by decide) h
   obtain⟨y,m,d,hh,i,s6,rfl⟩:=six_of hl
   rw[calT_six h]
   have h1:=h9 hh (by simp)
   have h2:=h9 i (by simp)
   have h3:=h9 s6 (by simp)
   have h4:=daysF_i64 y m d
   cases hf:fracF r with
   | none=>simp[I64]
   | some p =>
     have h5:=frac_bd hf
     dsimp only
     split
     ·simp[I64]
     split
     ·simp[I64]
     ·unfold I64;dsimp only;omega
section
attribute [-go_sem] loadCellsFrom storeCells
attribute [local go_sem] lcf0 lcf1 lcf2 lcf3 lcf4 lcf5 stc0 stc1
theorem named_call (f:Nat) (IH:ValIH f) (b:Nat) (s:ByteArray) (tk r1:Rd) (dep:Int) (w:World) (h:IsRd w b s r1) (hI:RdI s r1) (htk:tk.Fit s) (hs:s.size≤100000) (hTB:TB w b) (hdep:dep+1+f=8) (hd0:0≤dep) :
 Calls Tryz.prog 280 #[.pointer (some ⟨b,0,none⟩),tokV tk,.int .i64 dep] w (ValPost w b s (namF s f tk r1)):=by
 obtain⟨T,hT⟩:∃T,T=w.heap.size:=⟨_,rfl⟩
 obtain⟨N,hN⟩:∃N,N=w.heap.size+1:=⟨_,rfl⟩
 have hbl:=h.lt
 obtain⟨Q,hQ⟩:∃Q,Q=namF s f tk r1:=⟨_,rfl⟩
 rw[←hQ]
 have HQ:=hid hQ
 obtain⟨w0,hw0⟩:∃w0,w0=(w.alloc (tokO tk)).alloc valZ:=⟨_,rfl⟩
 have hr0:IsRd w0 b s r1:=by rw[hw0];exact(h.alloc _).alloc _
 have hg0:w.grownBy w0 (some b):=by rw[hw0];exact(World.grownBy_alloc _ _ _).trans (World.grownBy_alloc _ _ _)
 have hz0:w0.heap[N]?=some valZ:=by rw[hw0,hN,←World.size_alloc w (tokO tk)];exact heap_alloc_new (w.alloc (tokO tk)) _
 have ht0:w0.heap[T]?=some (tokO tk):=by rw[hw0,hT];exact heapAlloc _ (heap_alloc_new w _)
 have HR:=hid hr0
 have HG:=hid hg0
 have HNZ:=hid hz0
 have HTZ:=hid ht0
 have HNB:=hid (show N≠b∧T≠b∧w.heap.size≤N∧w.heap.size≤T∧b<N∧b<T∧N<w0.heap.size∧T≠N by have:=ltOf hz0;omega)
 have HTB:=hid (hTB.grown hg0 (.inr rfl))
 have HI:=hid hI
 have HTT:=hid (show tk.t.size≤100000 by have:=htk.t;omega)
 have HT:=hid hT
 have HN:=hid hN
 have HW:=hid hw0
 have HIS:=hid (is_call b s r1 ⟨#[40]⟩ w0 hr0)
 have hce:w0.cell? ⟨b,10,none⟩=some (.int .i64 r1.e):=cellOf hr0.at_ 10
 have hct:w0.cell? ⟨T,2,none⟩=some (.string tk.t):=cellOf ht0 2
 have hcp:w0.cell? ⟨T,1,none⟩=some (.int .i64 (tk.p:Int)):=cellOf ht0 1
 obtain⟨q,hq⟩:∃q:Bool,q=r1.is ⟨#[40]⟩:=⟨_,rfl⟩
 rw[←hq] at HIS
 have HQq:=hid hq
 -- a value is stored into the result and returned
 have HST:=hid (fun (w2:World) (x0 x1 x2 x3 x4 x5:Value) (h1:∀v∈[x0,x1,x2,x3,x4,x5],v.oneCell'=true) (hz:w2.heap[N]?=some valZ) =>
  (show(storeCells ⟨N,0,none⟩ [x0,x1,x2,x3,x4,x5] 0).run Tryz.prog w2=.ok () (w2.setRow N #[x0,x1,x2,x3,x4,x5])∧(loadCellsFrom ⟨N,0,none⟩ 0 6 #[]).run Tryz.prog (w2.setRow N #[x0,x1,x2,x3,x4,x5])=.ok #[x0,x1,x2,x3,x4,x5] (w2.setRow N #[x0,x1,x2,x3,x4,x5]) from
    ⟨st6 hz rfl x0 x1 x2 x3 x4 x5 h1,ld6 (setRow_heap w2 N _ #[x0,x1,x2,x3,x4,x5] 25 (0,0) hz)⟩))
 clear h hI htk hTB hQ hr0 hg0 hz0 ht0 hq hw0 hT hN
 go_enter Tryz.func280,Tryz.ntmps280
 go_upto_region 1 with (fail)
 dsimp only[tokO,tokA] at HW
 rw[←HW.out]
 rw[show w.heap.size+1=N from HN.out.symm,show w.heap.size=T from HT.out.symm]
 by_cases he:r1.e=0
 ·have HE:=hid he
  have qe:(r1.e==0)=true:=by simp[he]
  have qe':(r1.e != 0)=false:=by simp[he]
  clear he
  cases q
  ·obtain⟨b1,hb1⟩:∃b1,(tk.t.toList==[116,114,117,101])=b1:=⟨_,rfl⟩
   obtain⟨b2,hb2⟩:∃b2,(tk.t.toList==[102,97,108,115,101])=b2:=⟨_,rfl⟩
   obtain⟨b3,hb3⟩:∃b3,(tk.t.toList==[100,97,116,101])=b3:=⟨_,rfl⟩
   obtain⟨b4,hb4⟩:∃b4,(tk.t.toList==[116,105,109,101])=b4:=⟨_,rfl⟩
   obtain⟨b5,hb5⟩:∃b5,(tk.t.toList==[110,117,108,108])=b5:=⟨_,rfl⟩
   have HB1:=hid ((bt_of tk.t [116,114,117,101]).symm.trans hb1)
   have HB2:=hid ((bt_of tk.t [102,97,108,115,101]).symm.trans hb2)
   have HB3_:=hid ((bt_of tk.t [100,97,116,101]).symm.trans hb3)
   have HB4:=hid ((bt_of tk.t [116,105,109,101]).symm.trans hb4)
   have HB5:=hid ((bt_of tk.t [110,117,108,108]).symm.trans hb5)
   cases b1
   ·cases b2
    ·cases b3
     ·cases b4
      ·by_cases hnl:b5=true∧dep=0
       ·obtain⟨rfl,hdz⟩:=hnl
        have HF7:=hid (show f=7 by omega)
        have qd:(dep==0)=true:=by simp[hdz]
        clear hdz
        go_upto_region 18 with (go_at_call 316;refine HIS.out.mono ?_;rintro e w2 ⟨rfl,hw2⟩;obtain rfl:=hw2.symm)
        obtain⟨hS1,hL2⟩:=HST.out w0 (.int .i64 0) (.int .i64 0) (.int .i64 0) (.string ⟨#[]⟩) (.slice none 0 0) (.slice none 0 0) (by simp[Value.oneCell']) HNZ.out
        go_wp2
        refine bodyPost_ret (v:=.agg #[.int .i64 0,.int .i64 0,.int .i64 0,.string ⟨#[]⟩,.slice none 0 0,.slice none 0 0]) (by simp[results,Tryz.results280,go_sem,hL2]) rfl ?_
        have HSP:=hid (show Q=(nulV,r1) by rw[HQ.out,namF,if_neg (by simp[HE.out]),if_neg (by rw[←HQq.out];decide),if_neg (of_decide_eq_false HB1.out),if_neg (of_decide_eq_false HB2.out),if_neg (of_decide_eq_false HB3_.out),if_neg (of_decide_eq_false HB4.out),if_pos ⟨of_decide_eq_true HB5.out,HF7.out⟩])
        rw[HSP.out]
        exact⟨⟨0,0,0,⟨#[]⟩,none,0,0,none,0,0⟩,nulV,rfl,leaf_val 0 0 (by simp[I64]) (by simp[I64]),fun _=>rfl,isRd_setRow (HR.out) HNB.out.1,setRow_ext (HG.out) N _ HNB.out.2.2.1⟩
       ·have HNL:=hid (show ¬ (tk.t=⟨#[110,117,108,108]⟩∧f=7) from fun h=>hnl ⟨by rw[←HB5.out];exact decide_eq_true h.1,by omega⟩)
        have HFL:=hid (fail_call b s r1 tk.p 13 w0 HR.out)
        have HSPF:=hid (show Q=(nulV,r1.fail tk.p 13) by rw[HQ.out,namF,if_neg (by simp[HE.out]),if_neg (by rw[←HQq.out];decide),if_neg (of_decide_eq_false HB1.out),if_neg (of_decide_eq_false HB2.out),if_neg (of_decide_eq_false HB3_.out),if_neg (of_decide_eq_false HB4.out),if_neg HNL.out])
        cases b5
        ·go_upto_region 20 with (first
          | (go_at_call 316;refine HIS.out.mono ?_;rintro e w2 ⟨rfl,hw2⟩;obtain rfl:=hw2.symm)
          | (go_at_call 274;refine HFL.out.mono ?_;rintro e w2 ⟨rfl,h2,hg2⟩;have H2R:=hid h2;have HG2:=hid hg2;have HZ2:=hid (grownN hg2 HNZ.out HNB.out.1);clear h2 hg2))
         obtain⟨hS1,hL2⟩:=HST.out w2 (.int .i64 0) (.int .i64 0) (.int .i64 0) (.string ⟨#[]⟩) (.slice none 0 0) (.slice none 0 0) (by simp[Value.oneCell']) HZ2.out
         go_wp2
         refine bodyPost_ret (v:=.agg #[.int .i64 0,.int .i64 0,.int .i64 0,.string ⟨#[]⟩,.slice none 0 0,.slice none 0 0]) (by simp[results,Tryz.results280,go_sem,hL2]) rfl ?_
         have HSP:=hid (HSPF.out)
         rw[HSP.out]
         exact⟨⟨0,0,0,⟨#[]⟩,none,0,0,none,0,0⟩,nulV,rfl,leaf_val 0 0 (by simp[I64]) (by simp[I64]),fun _=>rfl,isRd_setRow (H2R.out) HNB.out.1,setRow_ext (HG.out.trans HG2.out) N _ HNB.out.2.2.1⟩
        ·have qd:(dep==0)=false:=by
          rw[beq_eq_false_iff_ne];intro e;exact hnl ⟨rfl,e⟩
         clear hnl
         go_upto_region 20 with (first
          | (go_at_call 316;refine HIS.out.mono ?_;rintro e w2 ⟨rfl,hw2⟩;obtain rfl:=hw2.symm)
          | (go_at_call 274;refine HFL.out.mono ?_;rintro e w2 ⟨rfl,h2,hg2⟩;have H2R:=hid h2;have HG2:=hid hg2;have HZ2:=hid (grownN hg2 HNZ.out HNB.out.1);clear h2 hg2))
         obtain⟨hS1,hL2⟩:=HST.out w2 (.int .i64 0) (.int .i64 0) (.int .i64 0) (.string ⟨#[]⟩) (.slice none 0 0) (.slice none 0 0) (by simp[Value.oneCell']) HZ2.out
         go_wp2
         refine bodyPost_ret (v:=.agg #[.int .i64 0,.int .i64 0,.int .i64 0,.string ⟨#[]⟩,.slice none 0 0,.slice none 0 0]) (by simp[results,Tryz.results280,go_sem,hL2]) rfl ?_
         have HSP:=hid (HSPF.out)
         rw[HSP.out]
         exact⟨⟨0,0,0,⟨#[]⟩,none,0,0,none,0,0⟩,nulV,rfl,leaf_val 0 0 (by simp[I64]) (by simp[I64]),fun _=>rfl,isRd_setRow (H2R.out) HNB.out.1,setRow_ext (HG.out.trans HG2.out) N _ HNB.out.2.2.1⟩
      ·have HMO:=hid (moment_time b s r1 w0 HR.out HI.out.fit hs HTB.out)
       obtain⟨m,hm⟩:∃m,m=(r1.moment s calT).1:=⟨_,rfl⟩
       obtain⟨rm,hrm⟩:∃rm,rm=(r1.moment s calT).2:=⟨_,rfl⟩
       rw[←hm,←hrm] at HMO
       have HMM:=hid (show r1.moment s calT=(m,rm) by rw[hm,hrm])
       have HMI:=hid (show I64 m by rw[hm];exact moment_i64 s r1 calT calT_i64)
       clear hm hrm
       go_wp2_with (first
        | (go_at_call 316;refine HIS.out.mono ?_;rintro e w2 ⟨rfl,hw2⟩;obtain rfl:=hw2.symm)
        | (go_at_call 326;refine(mkTime_call m w2).mono ?_;rintro e w3 ⟨rfl,hb3⟩;have HB3:=hid hb3;obtain⟨hS1,hL2⟩:=HST.out w3 (.int .i64 7) (.int .i64 m) (.int .i64 0) (.string ⟨#[]⟩) (.slice none 0 0) (.slice none 0 0) (by simp[Value.oneCell']) (heapExt hb3 HZ2.out);clear hb3)
        | (go_at_call 324;refine HMO.out.mono ?_;rintro e w2 ⟨rfl,h2,hg2⟩;have H2R:=hid h2;have HG2:=hid hg2;have HZ2:=hid (grownN hg2 HNZ.out HNB.out.1);clear h2 hg2))
       refine bodyPost_ret (v:=.agg #[.int .i64 7,.int .i64 m,.int .i64 0,.string ⟨#[]⟩,.slice none 0 0,.slice none 0 0]) (by simp[results,Tryz.results280,go_sem,hL2]) rfl ?_
       have HSP:=hid (show Q=(.mk 7 m 0 ⟨#[]⟩ [] [] [],rm) by rw[HQ.out,namF,if_neg (by simp[HE.out]),if_neg (by rw[←HQq.out];decide),if_neg (of_decide_eq_false HB1.out),if_neg (of_decide_eq_false HB2.out),if_neg (of_decide_eq_false HB3_.out),if_pos (of_decide_eq_true HB4.out)];dsimp only;rw[HMM.out])
       rw[HSP.out]
       exact⟨⟨7,m,0,⟨#[]⟩,none,0,0,none,0,0⟩,_,rfl,leaf_val 7 m (by simp[I64]) HMI.out,fun _=>rfl,isRd_setRow (isRd_low H2R.out HB3.out (by have:=ltOf H2R.out.at_;exact this)) HNB.out.1,setRow_ext ((HG.out.trans HG2.out).trans (grownOf HB3.out (some b))) N _ HNB.out.2.2.1⟩
     ·have HMO:=hid (moment_date b s r1 w0 HR.out HI.out.fit hs HTB.out)
      obtain⟨m,hm⟩:∃m,m=(r1.moment s calP).1:=⟨_,rfl⟩
      obtain⟨rm,hrm⟩:∃rm,rm=(r1.moment s calP).2:=⟨_,rfl⟩
      rw[←hm,←hrm] at HMO
      have HMM:=hid (show r1.moment s calP=(m,rm) by rw[hm,hrm])
      have HMI:=hid (show I64 m by rw[hm];exact moment_i64 s r1 calP calP_i64)
      clear hm hrm
      go_wp2_with (first
       | (go_at_call 316;refine HIS.out.mono ?_;rintro e w2 ⟨rfl,hw2⟩;obtain rfl:=hw2.symm)
       | (go_at_call 323;refine(mkDate_call m w2).mono ?_;rintro e w3 ⟨rfl,hb3⟩;have HB3:=hid hb3;obtain⟨hS1,hL2⟩:=HST.out w3 (.int .i64 6) (.int .i64 m) (.int .i64 0) (.string ⟨#[]⟩) (.slice none 0 0) (.slice none 0 0) (by simp[Value.oneCell']) (heapExt hb3 HZ2.out);clear hb3)
       | (go_at_call 324;refine HMO.out.mono ?_;rintro e w2 ⟨rfl,h2,hg2⟩;have H2R:=hid h2;have HG2:=hid hg2;have HZ2:=hid (grownN hg2 HNZ.out HNB.out.1);clear h2 hg2))
      refine bodyPost_ret (v:=.agg #[.int .i64 6,.int .i64 m,.int .i64 0,.string ⟨#[]⟩,.slice none 0 0,.slice none 0 0]) (by simp[results,Tryz.results280,go_sem,hL2]) rfl ?_
      have HSP:=hid (show Q=(.mk 6 m 0 ⟨#[]⟩ [] [] [],rm) by rw[HQ.out,namF,if_neg (by simp[HE.out]),if_neg (by rw[←HQq.out];decide),if_neg (of_decide_eq_false HB1.out),if_neg (of_decide_eq_false HB2.out),if_pos (of_decide_eq_true HB3_.out)];dsimp only;rw[HMM.out])
      rw[HSP.out]
      exact⟨⟨6,m,0,⟨#[]⟩,none,0,0,none,0,0⟩,_,rfl,leaf_val 6 m (by simp[I64]) HMI.out,fun _=>rfl,isRd_setRow (isRd_low H2R.out HB3.out (by have:=ltOf H2R.out.at_;exact this)) HNB.out.1,setRow_ext ((HG.out.trans HG2.out).trans (grownOf HB3.out (some b))) N _ HNB.out.2.2.1⟩
    ·go_wp2_with (first
      | (go_at_call 316;refine HIS.out.mono ?_;rintro e w2 ⟨rfl,hw2⟩;obtain rfl:=hw2.symm)
      | (go_at_call 322;refine(mkFalse_call w0).mono ?_;rintro e w3 ⟨rfl,hb3⟩;have HB3:=hid hb3;obtain⟨hS1,hL2⟩:=HST.out w3 (.int .i64 1) (.int .i64 0) (.int .i64 0) (.string ⟨#[]⟩) (.slice none 0 0) (.slice none 0 0) (by simp[Value.oneCell']) (heapExt hb3 HNZ.out);clear hb3))
     refine bodyPost_ret (v:=.agg #[.int .i64 1,.int .i64 0,.int .i64 0,.string ⟨#[]⟩,.slice none 0 0,.slice none 0 0]) (by simp[results,Tryz.results280,go_sem,hL2]) rfl ?_
     have HSP:=hid (show Q=(.mk 1 0 0 ⟨#[]⟩ [] [] [],r1) by rw[HQ.out,namF,if_neg (by simp[HE.out]),if_neg (by rw[←HQq.out];decide),if_neg (of_decide_eq_false HB1.out),if_pos (of_decide_eq_true HB2.out)])
     rw[HSP.out]
     exact⟨⟨1,0,0,⟨#[]⟩,none,0,0,none,0,0⟩,_,rfl,leaf_val 1 0 (by simp[I64]) (by simp[I64]),fun _=>rfl,isRd_setRow (isRd_low HR.out HB3.out (by have:=HNB.out;omega)) HNB.out.1,setRow_ext (HG.out.trans (grownOf HB3.out (some b))) N _ HNB.out.2.2.1⟩
   ·go_wp2_with (first
     | (go_at_call 316;refine HIS.out.mono ?_;rintro e w2 ⟨rfl,hw2⟩;obtain rfl:=hw2.symm)
     | (go_at_call 322;refine(mkTrue_call w0).mono ?_;rintro e w3 ⟨rfl,hb3⟩;have HB3:=hid hb3;obtain⟨hS1,hL2⟩:=HST.out w3 (.int .i64 1) (.int .i64 1) (.int .i64 0) (.string ⟨#[]⟩) (.slice none 0 0) (.slice none 0 0) (by simp[Value.oneCell']) (heapExt hb3 HNZ.out);clear hb3))
    refine bodyPost_ret (v:=.agg #[.int .i64 1,.int .i64 1,.int .i64 0,.string ⟨#[]⟩,.slice none 0 0,.slice none 0 0]) (by simp[results,Tryz.results280,go_sem,hL2]) rfl ?_
    have HSP:=hid (show Q=(.mk 1 1 0 ⟨#[]⟩ [] [] [],r1) by rw[HQ.out,namF,if_neg (by simp[HE.out]),if_neg (by rw[←HQq.out];decide),if_pos (of_decide_eq_true HB1.out)])
    rw[HSP.out]
    exact⟨⟨1,1,0,⟨#[]⟩,none,0,0,none,0,0⟩,_,rfl,leaf_val 1 1 (by simp[I64]) (by simp[I64]),fun _=>rfl,isRd_setRow (isRd_low HR.out HB3.out (by have:=HNB.out;omega)) HNB.out.1,setRow_ext (HG.out.trans (grownOf HB3.out (some b))) N _ HNB.out.2.2.1⟩
  ·have HQT:=hid HQq.out.symm
   obtain⟨nb,hnb⟩:∃nb,nb=isNameB tk.t:=⟨_,rfl⟩
   have HIN:=hid (fun w'=>isName_call tk.t w' (by have:=HTT.out;omega))
   rw[←hnb] at HIN
   have HNBm:=hid hnb
   clear hnb
   cases nb
   ·have HFL:=hid (fun (w':World) (h':IsRd w' b s r1)=>fail_call b s r1 tk.p 12 w' h')
    have HSPF:=hid (show Q=(nulV,r1.fail tk.p 12) by rw[HQ.out,namF,if_neg (by simp[HE.out]),if_pos HQT.out,if_pos HNBm.out.symm])
    go_upto_region 5 with (first
     | (go_at_call 316;refine HIS.out.mono ?_;rintro e w2 ⟨rfl,hw2⟩;obtain rfl:=hw2.symm)
     | (go_at_call 236;refine(HIN.out _).mono ?_;rintro e w2 ⟨rfl,hb2⟩;have HB2:=hid hb2;clear hb2))
    have HR2:=hid (isRd_low HR.out HB2.out (by have:=HNB.out;omega))
    have HG2:=hid (HG.out.trans (grownOf HB2.out (some b)))
    have HZ2:=hid (heapExt HB2.out HNZ.out)
    have hcp2:w2.cell? ⟨T,1,none⟩=some (.int .i64 (tk.p:Int)):=cellOf (heapExt HB2.out HTZ.out) 1
    go_upto_region 6 with (go_at_call 274;refine(HFL.out w2 HR2.out).mono ?_;rintro e w3 ⟨rfl,h3,hg3⟩;have H3R:=hid h3;have HG3:=hid hg3;have HZ3:=hid (grownN hg3 HZ2.out HNB.out.1);clear h3 hg3)
    obtain⟨hS1,hL2⟩:=HST.out w3 (.int .i64 0) (.int .i64 0) (.int .i64 0) (.string ⟨#[]⟩) (.slice none 0 0) (.slice none 0 0) (by simp[Value.oneCell']) HZ3.out
    go_wp2
    refine bodyPost_ret (v:=.agg #[.int .i64 0,.int .i64 0,.int .i64 0,.string ⟨#[]⟩,.slice none 0 0,.slice none 0 0]) (by simp[results,Tryz.results280,go_sem,hL2]) rfl ?_
    have HSP:=hid (HSPF.out)
    rw[HSP.out]
    exact⟨⟨0,0,0,⟨#[]⟩,none,0,0,none,0,0⟩,nulV,rfl,leaf_val 0 0 (by simp[I64]) (by simp[I64]),fun _=>rfl,isRd_setRow (H3R.out) HNB.out.1,setRow_ext (HG2.out.trans HG3.out) N _ HNB.out.2.2.1⟩
   ·obtain⟨ra,hra⟩:∃ra,ra=r1.adv s:=⟨_,rfl⟩
    obtain⟨q2,hq2⟩:∃q2,q2=rdV s f ra:=⟨_,rfl⟩
    have HSP:=hid (show Q=(.mk 10 0 0 tk.t [q2.1] [] [],q2.2.expect s ⟨#[41]⟩) by rw[HQ.out,namF,if_neg (by simp[HE.out]),if_pos HQT.out,if_neg (by rw[←HNBm.out];decide),hq2,hra])
    have HAI:=hid (show RdI s ra by rw[hra];exact rdI_adv HI.out)
    have HVI:=hid (show RdI s q2.2 by rw[hq2];exact(rdV_ok s f ra HAI.out).1)
    have HIH:=hid (fun (w':World) (h1:IsRd w' b s ra) (h2:TB w' b)=>(show Calls Tryz.prog 213 #[.pointer (some ⟨b,0,none⟩),.int .i64 (dep+1)] w' (ValPost w' b s q2) from hq2▸IH b s ra (dep+1) w' h1 HAI.out hs h2 (by omega)))
    have HEX:=hid (fun (w':World) (h1:IsRd w' b s q2.2) (h2:TB w' b)=>expect_call b s q2.2 ⟨#[41]⟩ w' h1 hs h2)
    have e1:IntKind.i64.wrap (dep+1)=dep+1:=IntWalk.i64_in _ ⟨by omega,by omega⟩
    clear hq2
    go_upto_region 7 with (first
     | (go_at_call 316;refine HIS.out.mono ?_;rintro e w2 ⟨rfl,hw2⟩;obtain rfl:=hw2.symm)
     | (go_at_call 236;refine(HIN.out _).mono ?_;rintro e w2 ⟨rfl,hb2⟩;have HB2:=hid hb2;clear hb2))
    have HR2:=hid (isRd_low HR.out HB2.out (by have:=HNB.out;omega))
    have HG2:=hid (HG.out.trans (grownOf HB2.out (some b)))
    have HTB2:=hid (HTB.out.below HB2.out)
    have HZ2:=hid (heapExt HB2.out HNZ.out)
    have HT2:=hid (heapExt HB2.out HTZ.out)
    have HAD:=hid (adv_call b s r1 w2 HR2.out hs HTB2.out)
    rw[←hra] at HAD
    clear hra
    go_upto_region 8 with (go_at_call 275;refine HAD.out.mono ?_;rintro e w3 ⟨rfl,h3,hg3⟩;have H3R:=hid h3;have HG3:=hid (HG2.out.trans hg3);have HZ3:=hid (grownN hg3 HZ2.out HNB.out.1);have HT3:=hid (grownN hg3 HT2.out HNB.out.2.1);have HTB3:=hid (HTB2.out.grown hg3 (.inr rfl));clear h3 hg3)
    have HSN:=hid (fun (w4:World) (c1:VC)=>st6New w4 #[.int .i64 0,.int .i64 0,.int .i64 0,.string ⟨#[]⟩,.slice none 0 0,.slice none 0 0] rfl (.int .i64 c1.k) (.int .i64 c1.i) (.int .i64 c1.s) (.string c1.t) (.slice c1.la c1.ll c1.lc) (.slice c1.fa c1.fl c1.fc) (by simp[Value.oneCell']))
    go_upto_region 9 with (go_at_call 213;refine(HIH.out w3 H3R.out HTB3.out).mono ?_;rintro e w4 ⟨c1,d1,rfl,hv4,hd4,hr4,hg4⟩;have H4R:=hid hr4;have HV4:=hid hv4;have HD4:=hid hd4;have HG4:=hid (HG3.out.trans hg4);have HZ4:=hid (grownN hg4 HZ3.out HNB.out.1);have HT4:=hid (grownN hg4 HT3.out HNB.out.2.1);have HTB4:=hid (HTB3.out.grown hg4 (.inr rfl));have HS4:=hid hg4.size;have hsn:=HSN.out w4 c1;clear hv4 hd4 hr4 hg4)
    clear hsn
    obtain⟨M,hM⟩:∃M,M=w4.heap.size:=⟨_,rfl⟩
    obtain⟨w5,hw5⟩:∃w5,w5=w4.alloc (vObj c1):=⟨_,rfl⟩
    have HR5:=hid (show IsRd w5 b s q2.2 by rw[hw5];exact H4R.out.alloc _)
    have HG5:=hid (show w.grownBy w5 (some b) by rw[hw5];exact HG4.out.trans (World.grownBy_alloc _ _ _))
    have HZ5:=hid (show w5.heap[N]?=some valZ by rw[hw5];exact heapAlloc _ HZ4.out)
    have HT5:=hid (show w5.heap[T]?=some (tokO tk) by rw[hw5];exact heapAlloc _ HT4.out)
    have HM5:=hid (show w5.heap[M]?=some (vObj c1) by rw[hw5,hM];exact heap_alloc_new w4 _)
    have HTB5:=hid (show TB w5 b by rw[hw5];exact HTB4.out.grown (World.grownBy_alloc w4 (vObj c1) none) (.inl rfl))
    have HV5:=hid (show IsVal (fun i=>w3.heap.size≤i∧i<w4.heap.size) w5 c1 d1 by rw[hw5];exact HV4.out.same fun i hi=>⟨hi,Below.heap_alloc _ _ _ hi.2⟩)
    have HS5:=hid (show w4.heap.size<w5.heap.size∧M≠b∧b<w3.heap.size by
     refine⟨by rw[hw5,World.size_alloc];exact Nat.lt_succ_self _,?_,H3R.out.lt⟩
     have:=H4R.out.lt;omega)
    dsimp only[vObj] at hw5
    rw[←hw5,←hM]
    have HMm:=hid hM
    clear hw5 hM
    go_upto_region 10 with (go_at_call 317;refine(HEX.out w5 HR5.out HTB5.out).mono ?_;rintro e w6 ⟨rfl,h6,hg6⟩;have H6R:=hid h6;have HG6:=hid hg6;clear h6 hg6)
    have HZ6:=hid (grownN HG6.out HZ5.out HNB.out.1)
    have hct6:w6.cell? ⟨T,2,none⟩=some (.string tk.t):=cellOf (grownN HG6.out HT5.out HNB.out.2.1) 2
    have hl6:=ld6 (grownN HG6.out HM5.out HS5.out.2.1)
    have hv6:IsVal (· < w6.heap.size) w6 c1 d1:=HV5.out.same fun i hi=>⟨by have:=HG6.out.size;have:=HS5.out.1;omega,HG6.out.block i (by have:=HS5.out.1;omega) (by have:=hi.1;have:=HS5.out.2.2;simp;omega)⟩
    have HMV:=hid (mkVariant_call tk.t (by have:=HTT.out;omega) c1 d1 w6 hv6)
    clear hv6
    dsimp only[VC.v] at HMV
    go_wp2_with (go_at_call 321;refine HMV.out.mono ?_;rintro e w7 ⟨⟨c2,rfl,hv7⟩,hb7⟩;have HV7:=hid hv7;have HB7:=hid hb7;obtain⟨hS1,hL2⟩:=HST.out w7 (.int .i64 c2.k) (.int .i64 c2.i) (.int .i64 c2.s) (.string c2.t) (.slice c2.la c2.ll c2.lc) (.slice c2.fa c2.fl c2.fc) (by simp[Value.oneCell']) (heapExt hb7 HZ6.out);clear hv7 hb7)
    refine bodyPost_ret (v:=c2.v) (by simp[results,Tryz.results280,go_sem,hL2]) rfl ?_
    rw[HSP.out]
    refine⟨c2,.mk 10 0 0 tk.t [d1] [] [],rfl,?_,?_,isRd_setRow (isRd_low H6R.out HB7.out H6R.out.lt) HNB.out.1,setRow_ext ((HG5.out.trans HG6.out).trans (grownOf HB7.out (some b))) N _ HNB.out.2.2.1⟩
    ·have hss:=HG6.out.size
     have hs5:=HS5.out.1
     have hs4:=HS4.out
     have hg3s:=HG3.out.size
     have hnn:=ltOf HZ6.out
     exact HV7.out.same fun i hi=>⟨⟨by omega,by rw[setRow_size];exact hi.2⟩,setRow_other w7 N i _ (by omega)⟩
    ·intro hx
     rw[HD4.out (expect_e hx)]
 ·have qe:(r1.e==0)=false:=by simp[he]
  have qe':(r1.e != 0)=true:=by simp[he]
  have HE:=hid he
  clear he
  obtain⟨hS1,hL2⟩:=HST.out w0 (.int .i64 0) (.int .i64 0) (.int .i64 0) (.string ⟨#[]⟩) (.slice none 0 0) (.slice none 0 0) (by simp[Value.oneCell']) HNZ.out
  go_wp2
  refine bodyPost_ret (v:=.agg #[.int .i64 0,.int .i64 0,.int .i64 0,.string ⟨#[]⟩,.slice none 0 0,.slice none 0 0]) (by simp[results,Tryz.results280,go_sem,hL2]) rfl ?_
  have HSP:=hid (show Q=(nulV,r1) by rw[HQ.out,namF,if_pos HE.out])
  rw[HSP.out]
  exact⟨⟨0,0,0,⟨#[]⟩,none,0,0,none,0,0⟩,nulV,rfl,leaf_val 0 0 (by simp[I64]) (by simp[I64]),fun _=>rfl,isRd_setRow (HR.out) HNB.out.1,setRow_ext (HG.out) N _ HNB.out.2.2.1⟩
end
end
end Go.Proofs.YtaofolgaiipcjaaGreatDoor
