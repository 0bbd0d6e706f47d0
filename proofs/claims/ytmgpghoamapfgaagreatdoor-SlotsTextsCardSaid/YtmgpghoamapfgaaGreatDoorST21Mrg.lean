/- A part. -/
import Derived.Test.YtmgpghoamapfgaaGreatDoorST20Mrg
namespace Go.Proofs.YtmgpghoamapfgaaGreatDoor
set_option linter.unusedVariables false
set_option maxRecDepth 100000
set_option maxHeartbeats 16000000
set_option linter.unusedSimpArgs false
section
open Go Go.RowKit Go.Shelf
attribute [local go_sem] cJ eW cK dF bP bW
def aO3 (w:World) (b N:Nat) (s:ByteArray) (r:Rd) (a:Nat) (wz:World):Prop :=
 ∃r2:Rd,IsRd wz b s r2/\r.adv s=kX s a r2/\aAd s a r2/\w.grownBy wz (some b)/\wz.heap[N]?=some tokZ/\wz.heap[N+1]?=some (tokO r)
theorem rX {w W wz:World} {b N a:Nat} {s:ByteArray} {r r2:Rd} {cs0 cs:Array Value} (HG:w.grownBy (cL W b cs0) (some b)) (H0:W.heap[N]?=some tokZ) (H1:W.heap[N+1]?=some (tokO r)) (HNB:N≠b/\N+1≠b) (hg:(cL W b cs).grownBy wz (some b)) (h2:IsRd wz b s r2)
 (heq:r.adv s=kX s a r2) (hm:aAd s a r2):aO3 w b N s r a wz:=by
 have l0:N<(cL W b cs).heap.size:=by rw[bW];exact ltOf H0
 have l1:N+1<(cL W b cs).heap.size:=by rw[bW];exact ltOf H1
 exact⟨r2,h2,heq,hm,(HG.trans (bM W b cs0 cs)).trans hg,(hg.block N l0 (by simp[HNB.1])).trans ((aI W b cs N HNB.1).trans H0),(hg.block (N+1) l1 (by simp[HNB.2])).trans ((aI W b cs (N+1) HNB.2).trans H1)⟩
theorem aK {w w':World} {row:Option Nat} (hg:w.grownBy w' row) (N:Nat) (cs:Array Value) (hN:w.heap.size<=N):w.grownBy (w'.setRow N cs) row :=
 ⟨hg.os,hg.tape,hg.output,by rw[setRow_size];exact hg.size,fun i hi hne=>by rw[setRow_other w' N i cs ga];exact hg.block i hi hne⟩
theorem aH {w:World} {b N:Nat} {s:ByteArray} {r:Rd} {cs:Array Value} (h:IsRd w b s r) (hN:N≠b):IsRd (w.setRow N cs) b s r:=⟨(setRow_other w N b cs (fun e=>hN e.symm)).trans h.at_,h.ok⟩
theorem aM5 {s:ByteArray} {a:Nat} (o:Nat) (h:a<=s.size):(r1F a o).Ok s:=⟨fun _=>rfl,h,h⟩
theorem sym_tab:∀n:Fin 256,symL.contains (UInt8.ofNat n.val)=decide (0<=Lib.indexByte symL (UInt8.ofNat n.val)):=by decide +kernel
theorem sym_idx (c:UInt8):symL.contains c=decide (0<=Lib.indexByte symL c):=by
 have:=sym_tab ⟨c.toNat,c.toNat_lt⟩
 simpa using this
theorem mid_word (s:ByteArray) (a o:Nat):aAd s a { r1F a o with nx:=bL s.data.toList a lN,k:=1 }:=⟨jD _ _ _,fun _=>by simp⟩
section
attribute [-go_sem] loadCellsFrom storeCells
attribute [local go_sem] aBr aBq aBp aBo aBn aBm lcf6 lcf7 aAt aAs
theorem aNv (b:Nat) (s:ByteArray) (r:Rd) (w:World) (h:IsRd w b s r) (hs:s.size<=100000) (hTB:TB w b) (he:r.e=0) :
 CP 233 #[.pointer (some ⟨b,0,none⟩)] w fun x w'=>x=.returned (tokV r)/\IsRd w' b s (r.adv s)/\w.grownBy w' (some b):=by
 have hln:s.data.toList.length=s.size:=rfl;have HR:=hid h;have HTB:=hid hTB;have HE:=hid he;have qe:(r.e==0)=true:=by simp[he]
 have qe':(r.e != 0)=false:=by simp[he]
 have hl1:=ld_rd (h.alloc tokZ);have hl2:=lB (w.alloc tokZ) #[I6 0,I6 0,.string ⟨#[]⟩,.string ⟨#[]⟩,I6 0,I6 0,.bool false,.bool false] rfl r;have hce:Ce w b 10 (I6 r.e):=aA h.at_ 10;have hlt:=h.lt;simp only[World.size_alloc] at hl2;clear h hTB he;go_enter Tryz.func233,Tryz.ntmps233
 go_upto_region 4 with (fail)
 obtain⟨N,hN⟩:=ez w.heap.size
 obtain⟨w1,hw1⟩:=ez ((w.alloc tokZ).alloc (tokO r))
 rw[<-hw1,<-hN];have hr1:IsRd w1 b s r:=by rw[hw1];exact(HR.out.alloc _).alloc _
 have hg1:w.grownBy w1 (some b):=by rw[hw1];exact(World.grownBy_alloc _ _ _).trans (World.grownBy_alloc _ _ _)
 have h0:w1.heap[N]?=some tokZ:=by rw[hw1,hN];exact aD _ (heap_alloc_new w _)
 have h1:w1.heap[N+1]?=some (tokO r):=by rw[hw1,hN,<-World.size_alloc w tokZ];exact heap_alloc_new (w.alloc tokZ) _
 have HTB1:=hid (HTB.out.grown hg1 (.inr rfl));have HNB:=hid (show N≠b/\N+1≠b by omega);have HNW:=hid (show w.heap.size<=N by omega);clear hw1 hN hl1 hl2 hce hlt;obtain⟨a,ha⟩:=ez (bL s.data.toList r.nx spC)
 have hnz:r.nx<=s.size:=HR.out.ok.nx;have haz:a<=s.size:=by rw[ha,<-hln];exact aB6 _ _ _ hnz
 have HRUN:=hid (aJ9 b s r r.nx w1 hr1 hnz ga);rw[<-ha] at HRUN;obtain⟨W,hW,hw⟩:=hr1.put;subst hw;have HG1:=hid hg1;have H0:=hid ((aI W b _ N HNB.out.1).symm.trans h0);have H1:=hid ((aI W b _ (N+1) HNB.out.2).symm.trans h1);have HA:=hid ha;clear hg1 h0 h1 ha hr1;have hz1:=fun k0 p0 t0 b0 n0 sc0 d0 x0=>st_rd hW s r.nx k0 p0 t0 b0 n0 sc0 d0 x0 r.e r.o 0 a ⟨#[]⟩ ⟨#[]⟩ 0 0 false false;have HZ1:=hid (hz1 r.k r.p r.t r.b r.n r.sc r.d r.x);clear hz1;have qz:=HZ1.out;by_cases hend:a=s.size
 ·have qa:((a:Int)==(s.size:Int))=true:=by simp;omega
  have HEND:=hid hend;clear hend;have H00:=H0;have hE0:=kV (t:=223) (fr:=(0,0)) ((aI W b (rdA s a 0 a ⟨#[]⟩ ⟨#[]⟩ 0 0 false false r.e r.o) (N+1) HNB.out.2).trans H1.out);have hE1:=aAu ((aI W b (rdA s a 0 a ⟨#[]⟩ ⟨#[]⟩ 0 0 false false r.e r.o) N HNB.out.1).trans H0.out) rfl r;have hE2:=kV (setRow_heap (cL W b (rdA s a 0 a ⟨#[]⟩ ⟨#[]⟩ 0 0 false false r.e r.o)) N _ (tokA r) 223 (0,0) ((aI W b (rdA s a 0 a ⟨#[]⟩ ⟨#[]⟩ 0 0 false false r.e r.o) N HNB.out.1).trans H0.out));go_wp2_with (go_at_call 284;refine HRUN.out.mono ?_;rintro e w2 ⟨rfl,rfl⟩)
  refine bodyPost_ret (v:=tokV r) (by simp[results,Tryz.results233,go_sem,hE2]) rfl ?_;have hav:r.adv s=r1F a r.o:=by
   rw[oI HE.out (by rw[<-HA.out,HEND.out];exact List.getElem?_eq_none (Nat.le_of_eq hln)),<-HA.out]
  refine⟨rfl,?_,?_⟩
  ·rw[hav];exact aH (dH W b s (r1F a r.o) hW (aM5 _ haz) _ (by rw[HE.out];rfl)) HNB.out.1
  ·exact aK (HG1.out.trans (bM _ _ _ _)) N _ HNW.out
 ·have halt:a<s.size:=by omega
  have qa:((a:Int)==(s.size:Int))=false:=by simp;omega
  have qa2:(a:Int)<(s.size:Int):=by omega
  have qa3:(a:Int)<=(s.size:Int):=by omega
  have qa0:(0:Int)<=(a:Int):=by omega
  have hg:=jV s a halt;have HAM:=hid (show r.adv s=kX s a (jZ s a r.o s[a]) by
   have h1:=oH HE.out (c:=s[a]) (by rw[<-HA.out];exact hg);rw[<-HA.out] at h1;exact h1)
  obtain⟨c,hc⟩:=ez (s[a])
  rw[<-hc] at HAM;have HC:=hid hc;have HRD0:=hid (dH W b s (r1F a r.o) hW (aM5 _ haz) (rdA s a 0 a ⟨#[]⟩ ⟨#[]⟩ 0 0 false false 0 r.o) rfl);have HTB2:=hid (HTB1.out.grown (bM W b (rdA s r.nx r.k r.p r.t r.b r.n r.sc r.d r.x r.e r.o) (rdA s a 0 a ⟨#[]⟩ ⟨#[]⟩ 0 0 false false 0 r.o)) (.inr rfl));clear hg hc hend;rw[show r.e=0 from HE.out] at *
  go_upto_block 0 with (go_at_call 284;refine HRUN.out.mono ?_;rintro e w2 ⟨rfl,rfl⟩)
  rw[<-HC.out];clear qz HZ1
  go_cut [] (fun wz=>aO3 w b N s r a wz)
  case first =>
   clear HRUN HTB1 qe qe';obtain⟨es,hes⟩:=ez (s.extract a s.size)
   have hesl:es.data.toList=s.data.toList.drop a:=by rw[hes,qO]
   obtain⟨px,hpx⟩:=ez (Lib.hasPrefix (s.data.toList.drop a) [120,34]:Bool)
   obtain⟨pd,hpd⟩:=ez (Lib.hasPrefix (s.data.toList.drop a) [46,46]:Bool)
   obtain⟨lt,hlt⟩:=ez (mP c:Bool)
   obtain⟨dg,hdg⟩:=ez (bD c:Bool)
   obtain⟨iv,hiv⟩:=ez (Lib.indexByte symL c:Int)
   have HPX:=hid (fun w'=>Tryz.strings_HasPrefix (s.extract a s.size) ⟨#[120,34]⟩ w');have HPD:=hid (fun w'=>Tryz.strings_HasPrefix (s.extract a s.size) ⟨#[46,46]⟩ w');have HLET:=hid (fun w'=>sL c w');have HDIG:=hid (fun w'=>mH c w');have HIDX:=hid (fun w'=>Tryz.strings_IndexByte ⟨#[91,93,123,125,40,41,58,44,61,63,124]⟩ (c.toNat:Int) w');rw[show(s.extract a s.size).data.toList=s.data.toList.drop a by rw[<-hes];exact hesl,<-hpx] at HPX;rw[show(s.extract a s.size).data.toList=s.data.toList.drop a by rw[<-hes];exact hesl,<-hpd] at HPD;rw[<-hlt] at HLET;rw[<-hdg] at HDIG
   rw[show((c.toNat:Int).toNat.toUInt8)=c by simp,show(⟨#[91,93,123,125,40,41,58,44,61,63,124]⟩:ByteArray).data.toList=symL from rfl,<-hiv] at HIDX;have HSY:=hid (show symL.contains c=decide (0<=iv) by rw[hiv];exact sym_idx c);have HX:=hid hpx;have HD:=hid hpd;have HL:=hid hlt;have HG:=hid hdg;clear hpx hpd hlt hdg hiv hes hesl;by_cases h34:c.toNat=34
   ·have q34:((c.toNat:Int)==34)=true:=by simp;omega
    have H34:=hid h34;clear h34;have HS:=hid (sV b s (r1F a r.o) a _ HRD0.out ga hs HTB2.out.tabs HTB2.out.nums);go_wp2_with ((go_at_call 286;refine HS.out.mono ?_;rintro e w2 ⟨rfl,h2,hg2⟩;have H2R:=hid h2;have HG2:=hid hg2;clear h2 hg2))
    go_meet
    exact rX HG1.out H0.out H1.out HNB.out HG2.out H2R.out ((HAM.out).trans (congrArg (kX s a) (by rw[jZ,if_pos H34.out]))) (aI5 s a r.o)
   have q34:((c.toNat:Int)==34)=false:=by simp;omega
   have H34:=hid h34;clear h34;obtain⟨q1,hq1⟩:=ez ((decide (c.toNat=120)&&px):Bool)
   have HQ1:=hid hq1;clear hq1;go_upto_region 14 with (fail)
   go_cut [55] (fun v wz=>v=.bool q1/\wz=(cL W b (rdA s a 0 a ⟨#[]⟩ ⟨#[]⟩ 0 0 false false 0 r.o)))
   case first =>
    have hq:=HQ1.out;by_cases h120:c.toNat=120
    ·have q120:((c.toNat:Int)==120)=true:=by simp;omega
     have hqe:q1=px:=by rw[hq];simp[h120]
     clear hq h120;go_wp2_with ((go_at_call 287;refine(HPX.out _).mono ?_;rintro e w2 ⟨rfl,hw2⟩;obtain rfl:=hw2.symm))
     go_meet
     exact⟨by rw[hqe],rfl⟩
    ·have q120:((c.toNat:Int)==120)=false:=by simp;omega
     have hqe:q1=false:=by rw[hq];simp[h120]
     clear hq h120;go_wp2
     go_meet
     exact⟨by rw[hqe],rfl⟩
   case rest =>
   obtain⟨rfl,hwc⟩:=hcut;obtain⟨wb,hwb⟩:=ez wc
   rw[<-hwb] at hwc ⊢;clear hwb;subst hwc;cases q1
   ·have HXX:=hid (show ¬ (c.toNat=120/\Lib.hasPrefix (s.data.toList.drop a) [120,34]=true) from fun h=>by
     have:=HQ1.out;rw[HX.out,h.2] at this;simp[h.1] at this)
    cases lt
    ·have HLL:=hid (show ¬ mP c=true by rw[<-HL.out];decide);obtain⟨q2,hq2⟩:=ez ((dg||decide (c.toNat=45)):Bool)
     have HQ2:=hid hq2;clear hq2;go_upto_region 19 with (go_at_call 289;refine(HLET.out _).mono ?_;rintro e w2 ⟨rfl,hw2⟩;obtain rfl:=hw2.symm)
     go_cut [83] (fun v wz=>v=.bool q2/\wz=(cL W b (rdA s a 0 a ⟨#[]⟩ ⟨#[]⟩ 0 0 false false 0 r.o)))
     case first =>
      have hq:=HQ2.out;cases dg
      ·by_cases h45:c.toNat=45
       ·have q45:((c.toNat:Int)==45)=true:=by simp;omega
        have hqe:q2=true:=by rw[hq];simp[h45]
        clear hq h45;go_wp2_with ((go_at_call 291;refine(HDIG.out _).mono ?_;rintro e w2 ⟨rfl,hw2⟩;obtain rfl:=hw2.symm))
        go_meet
        exact⟨by rw[hqe],rfl⟩
       ·have q45:((c.toNat:Int)==45)=false:=by simp;omega
        have hqe:q2=false:=by rw[hq];simp[h45]
        clear hq h45;go_wp2_with ((go_at_call 291;refine(HDIG.out _).mono ?_;rintro e w2 ⟨rfl,hw2⟩;obtain rfl:=hw2.symm))
        go_meet
        exact⟨by rw[hqe],rfl⟩
      ·have hqe:q2=true:=by rw[hq];rfl
       clear hq;go_wp2_with ((go_at_call 291;refine(HDIG.out _).mono ?_;rintro e w2 ⟨rfl,hw2⟩;obtain rfl:=hw2.symm))
       go_meet
       exact⟨by rw[hqe],rfl⟩
     case rest =>
     obtain⟨rfl,hwc⟩:=hcut;obtain⟨wb,hwb⟩:=ez wc
     rw[<-hwb] at hwc ⊢;clear hwb;subst hwc;have HDD:=hid (show(bD c||c.toNat==45)=q2 by
      rw[HQ2.out,HG.out];congr 1)
     cases q2
     ·have HD2:=hid (show ¬ (bD c||c.toNat==45)=true by rw[HDD.out];decide);cases pd
      ·have HP2:=hid (show ¬ Lib.hasPrefix (s.data.toList.drop a) [46,46]=true by rw[<-HD.out];decide);by_cases hi0:0<=iv
       ·have HSS:=hid (show symL.contains c=true by rw[HSY.out];exact decide_eq_true hi0);have qi:decide (0<=iv)=true:=decide_eq_true hi0;clear hi0;go_wp2_with (first
  | (go_at_call 287; refine (HPD.out _).mono ?_; rintro e w2 ⟨rfl, hw2⟩; obtain rfl := hw2.symm)
  | (go_at_call 145; refine (HIDX.out _).mono ?_; rintro e w2 ⟨rfl, hw2⟩; obtain rfl := hw2.symm))
        go_meet
        exact rX HG1.out H0.out H1.out HNB.out (bM W b (rdA s a 0 a ⟨#[]⟩ ⟨#[]⟩ 0 0 false false 0 r.o) _) (dH W b s { r1F a r.o with nx:=a+1,k:=5 } hW ⟨fun e=>(by cases e),by dsimp only;omega,haz⟩ _ rfl) ((HAM.out).trans (congrArg (kX s a) (by rw[jZ,if_neg H34.out,if_neg HXX.out,if_neg HLL.out,if_neg HD2.out,if_neg HP2.out,if_pos HSS.out]))) (⟨Nat.le_succ _,fun _=>by simp⟩)
       ·have HSS:=hid (show ¬ symL.contains c=true by rw[HSY.out];simp[hi0]);have qi:decide (0<=iv)=false:=decide_eq_false hi0;clear hi0;have HF:=hid (bC b s (r1F a r.o) a 13 _ HRD0.out);go_upto_region 11 with (first
         | (go_at_call 287;refine(HPD.out _).mono ?_;rintro e w2 ⟨rfl,hw2⟩;obtain rfl:=hw2.symm)
         | (go_at_call 145;refine(HIDX.out _).mono ?_;rintro e w2 ⟨rfl,hw2⟩;obtain rfl:=hw2.symm)
         | (go_at_call 232;refine HF.out.mono ?_;rintro e w2 ⟨rfl,h2,hg2⟩;have H2R:=hid h2;have HG2:=hid hg2;clear h2 hg2))
        obtain⟨W2,hW2,hw2⟩:=H2R.out.put;subst hw2;have l0:N<(cL W b (rdA s a 0 a ⟨#[]⟩ ⟨#[]⟩ 0 0 false false 0 r.o)).heap.size:=by rw[bW];exact ltOf H0.out
        have l1:N+1<(cL W b (rdA s a 0 a ⟨#[]⟩ ⟨#[]⟩ 0 0 false false 0 r.o)).heap.size:=by rw[bW];exact ltOf H1.out
        have H0':=hid ((aI W2 b _ N HNB.out.1).symm.trans ((HG2.out.block N l0 (by simp[HNB.out.1])).trans ((aI W b _ N HNB.out.1).trans H0.out)));have H1':=hid ((aI W2 b _ (N+1) HNB.out.2).symm.trans ((HG2.out.block (N+1) l1 (by simp[HNB.out.2])).trans ((aI W b _ (N+1) HNB.out.2).trans H1.out)));clear l0 l1;obtain⟨rf,hrf⟩:=ez ((r1F a r.o).fail a 13)
        rw[<-hrf] at H2R HG2 ⊢;have HRF:=hid hrf;clear hrf;have hE0:=kV (t:=223) (fr:=(0,0)) ((aI W2 b (rdA s rf.nx rf.k rf.p rf.t rf.b rf.n rf.sc rf.d rf.x rf.e rf.o) (N+1) HNB.out.2).trans H1'.out);have hE1:=aAu ((aI W2 b (rdA s rf.nx rf.k rf.p rf.t rf.b rf.n rf.sc rf.d rf.x rf.e rf.o) N HNB.out.1).trans H0'.out) rfl r;have hE2:=kV (setRow_heap (cL W2 b (rdA s rf.nx rf.k rf.p rf.t rf.b rf.n rf.sc rf.d rf.x rf.e rf.o)) N _ (tokA r) 223 (0,0) ((aI W2 b (rdA s rf.nx rf.k rf.p rf.t rf.b rf.n rf.sc rf.d rf.x rf.e rf.o) N HNB.out.1).trans H0'.out));go_wp2
        refine bodyPost_ret (v:=tokV r) (by simp[results,Tryz.results233,go_sem,hE2]) rfl ?_;have hav:r.adv s=rf:=by
         rw[HAM.out,jZ,if_neg H34.out,if_neg HXX.out,if_neg HLL.out,if_neg HD2.out,if_neg HP2.out,if_neg HSS.out,<-HRF.out,kX,if_neg (by rw[HRF.out];exact Rd.fail_e _ _ _ gc)]
        refine⟨rfl,?_,?_⟩
        ·rw[hav];exact aH H2R.out HNB.out.1
        ·exact aK ((HG1.out.trans (bM _ _ _ _)).trans HG2.out) N _ HNW.out
      ·have HP2:=hid (show Lib.hasPrefix (s.data.toList.drop a) [46,46]=true from HD.out.symm);have HA2:=hid (show a+2<=s.size by
        have h:=HP2.out;rw[Lib.hasPrefix,List.isPrefixOf_iff_prefix] at h;have:=h.length_le;rw[List.length_drop,hln] at this;simp at this;omega)
       go_wp2_with ((go_at_call 287;refine(HPD.out _).mono ?_;rintro e w2 ⟨rfl,hw2⟩;obtain rfl:=hw2.symm))
       go_meet
       exact rX HG1.out H0.out H1.out HNB.out (bM W b (rdA s a 0 a ⟨#[]⟩ ⟨#[]⟩ 0 0 false false 0 r.o) _) (dH W b s { r1F a r.o with nx:=a+2,k:=5 } hW ⟨fun e=>(by cases e),HA2.out,haz⟩ _ rfl) ((HAM.out).trans (congrArg (kX s a) (by rw[jZ,if_neg H34.out,if_neg HXX.out,if_neg HLL.out,if_neg HD2.out,if_pos HP2.out]))) (⟨Nat.le_add_right _ _,fun _=>by simp⟩)
     ·have HS:=hid (sW b s (r1F a r.o) a _ HRD0.out ga hs ⟨rfl,rfl⟩ HTB2.out);go_wp2_with ((go_at_call 292;refine HS.out.mono ?_;rintro e w2 ⟨rfl,h2,hg2⟩;have H2R:=hid h2;have HG2:=hid hg2;clear h2 hg2))
      go_meet
      exact rX HG1.out H0.out H1.out HNB.out HG2.out H2R.out ((HAM.out).trans (congrArg (kX s a) (by rw[jZ,if_neg H34.out,if_neg HXX.out,if_neg HLL.out,if_pos HDD.out]))) (aI6 s a r.o)
    ·have HLL:=hid (show mP c=true from HL.out.symm);have HRW:=hid (aLw b s (r1F a r.o) a _ HRD0.out haz ga);obtain⟨rw_,hrw⟩:=ez (bL s.data.toList a lN)
     have HRZ:=hid (show rw_<=s.size by rw[hrw,<-hln];exact aB6 _ _ _ haz);rw[<-hrw] at HRW;have HW2:=hid hrw;clear hrw;go_wp2_with (first
  | (go_at_call 289; refine (HLET.out _).mono ?_; rintro e w2 ⟨rfl, hw2⟩; obtain rfl := hw2.symm)
  | (go_at_call 284; refine HRW.out.mono ?_; rintro e w2 ⟨rfl, rfl⟩))
     go_meet
     exact rX HG1.out H0.out H1.out HNB.out (bM W b (rdA s a 0 a ⟨#[]⟩ ⟨#[]⟩ 0 0 false false 0 r.o) _) (dH W b s { r1F a r.o with nx:=rw_,k:=1 } hW ⟨fun e=>(by cases e),HRZ.out,haz⟩ _ rfl) ((HAM.out).trans (congrArg (kX s a) (by rw[jZ,if_neg H34.out,if_neg HXX.out,if_pos HLL.out,HW2.out]))) (HW2.out▸mid_word s a r.o)
   ·have HXX:=hid (show c.toNat=120/\Lib.hasPrefix (s.data.toList.drop a) [120,34]=true by
     have:=HQ1.out.symm;rw[Bool.and_eq_true,decide_eq_true_eq] at this;exact⟨this.1,HX.out.symm.trans this.2⟩)
    have ha2:a+2<=s.size:=by
     have h:=HXX.out.2;rw[Lib.hasPrefix,List.isPrefixOf_iff_prefix] at h;have:=h.length_le;rw[List.length_drop,hln] at this;simp at this;omega
    have HS:=hid (uJ b s (r1F a r.o) a _ HRD0.out ha2 ga);go_wp2_with ((go_at_call 288;refine HS.out.mono ?_;rintro e w2 ⟨rfl,h2,hg2⟩;have H2R:=hid h2;have HG2:=hid hg2;clear h2 hg2))
    go_meet
    exact rX HG1.out H0.out H1.out HNB.out HG2.out H2R.out ((HAM.out).trans (congrArg (kX s a) (by rw[jZ,if_neg H34.out,if_pos HXX.out]))) (aI7 s a r.o)
  case rest =>
  obtain⟨r2,h2,heq,hm,hg2,h0,h1⟩:=hcut;obtain⟨wb,hwb⟩:=ez wc
  rw[<-hwb] at h2 hg2 h0 h1 ⊢;clear hwb;have H2R:=hid h2;have HEQ:=hid heq;have HM:=hid hm;have HG2:=hid hg2;have H0c:=hid h0;have H1c:=hid h1;have hrp:=h2.ok.nx;have hmn:=hm.1;clear heq hm hg2 h0 h1 HRUN HTB1 HTB2 HRD0 HAM HC H0 H1 HG1 HA qe qe' halt qa qa2 qa3 hW;by_cases he2:r2.e=0
  ·have HE2:=hid he2;have qe2:(r2.e==0)=true:=by simp[he2]
   have HC26:=hid (fun (w':World) (h:IsRd w' b s r2/\w'.heap[N]?=some tokZ/\w'.heap[N+1]?=some (tokO r)/\w.grownBy w' (some b))=>(show Ce w' b 0 (.string s)/\Ce w' b 1 (I6 (r2.nx:Int)) from⟨aA h.1.at_ 0,aA h.1.at_ 1⟩));have qmn:(a:Int)<=(r2.nx:Int):=by omega
   have qrp:(r2.nx:Int)<=(s.size:Int):=by omega
   have qn0:(0:Int)<=(r2.nx:Int):=by omega
   have qce:Ce wb b 10 (I6 r2.e):=aA h2.at_ 10;have hIS:=hid (show IsRd wb b s r2/\wb.heap[N]?=some tokZ/\wb.heap[N+1]?=some (tokO r)/\w.grownBy wb (some b) from⟨h2,H0c.out,H1c.out,HG2.out⟩);clear he2 h2;go_upto_region 26 with (fail)
   refine dP 11 (fun w'=>IsRd w' b s r2/\w'.heap[N]?=some tokZ/\w'.heap[N+1]?=some (tokO r)/\w.grownBy w' (some b)) ge ge ge gc (⟨hIS.out.1.grown (row:=none) ⟨rfl,rfl,rfl,Nat.le_refl _,fun _ _ _=>rfl⟩ gd,hIS.out.2.1,hIS.out.2.2.1,hIS.out.2.2.2.trans ⟨rfl,rfl,rfl,Nat.le_refl _,fun _ _ _=>rfl⟩⟩) (fun hS=>?_);simp only[zdm,zdn,zdp,zdq];refine tc 0 HC26 ?_;refine tc 1 HC26 ?_;refine tc 2 HC26 ?_;refine tc 3 HC26 ?_;refine tc 4 HC26 ?_;refine tc 5 HC26 ?_;refine tc 6 HC26 ?_;refine tc 7 HC26 ?_;refine tc 8 HC26 ?_;refine tc 9 HC26 ?_;refine tc 10 HC26 ?_;refine wpAnyH_done ge ?_ _
   (try dsimp only)
   obtain⟨w6,hw6⟩:=ez wb.drew
   rw[<-hw6] at hS ⊢;clear hw6;obtain⟨hr6,ha6,hb6,hc6⟩:=hS;have HR6:=hid hr6;have HG6:=hid hc6;obtain⟨W2,hW2,hw2⟩:=hr6.put;subst hw2;have H0:=hid ((aI W2 b _ N HNB.out.1).symm.trans ha6);have H1:=hid ((aI W2 b _ (N+1) HNB.out.2).symm.trans hb6);clear ha6 hb6 hc6 hr6;have hE0:=kV (t:=223) (fr:=(0,0)) ((aI W2 b (rdA s r2.nx r2.k r2.p (s.extract a r2.nx) r2.b r2.n r2.sc r2.d r2.x r2.e r2.o) (N+1) HNB.out.2).trans H1.out);have hE1:=aAu ((aI W2 b (rdA s r2.nx r2.k r2.p (s.extract a r2.nx) r2.b r2.n r2.sc r2.d r2.x r2.e r2.o) N HNB.out.1).trans H0.out) rfl r
   have hE2:=kV (setRow_heap (cL W2 b (rdA s r2.nx r2.k r2.p (s.extract a r2.nx) r2.b r2.n r2.sc r2.d r2.x r2.e r2.o)) N _ (tokA r) 223 (0,0) ((aI W2 b (rdA s r2.nx r2.k r2.p (s.extract a r2.nx) r2.b r2.n r2.sc r2.d r2.x r2.e r2.o) N HNB.out.1).trans H0.out));go_wp2;refine bodyPost_ret (v:=tokV r) (by simp[results,Tryz.results233,go_sem,hE2]) rfl ?_;have hav:r.adv s={ r2 with t:=s.extract a r2.nx }:=by rw[HEQ.out,kX,if_pos HE2.out]
   refine⟨rfl,?_,?_⟩
   ·rw[hav];exact aH (dH W2 b s { r2 with t:=s.extract a r2.nx } hW2 (by have h:=fin_ok HR6.out.ok HM.out;rw[kX,if_pos HE2.out] at h;exact h) _ rfl) HNB.out.1
   ·exact aK (HG6.out.trans (bM _ _ _ _)) N _ HNW.out
  ·have HE2:=hid he2;have qe2:(r2.e==0)=false:=by simp[he2]
   have qce:Ce wb b 10 (I6 r2.e):=aA h2.at_ 10;clear he2;obtain⟨W2,hW2,hw2⟩:=h2.put;subst hw2;have H0:=hid ((aI W2 b _ N HNB.out.1).symm.trans H0c.out);have H1:=hid ((aI W2 b _ (N+1) HNB.out.2).symm.trans H1c.out);clear qce;have hE0:=kV (t:=223) (fr:=(0,0)) ((aI W2 b (rdA s r2.nx r2.k r2.p r2.t r2.b r2.n r2.sc r2.d r2.x r2.e r2.o) (N+1) HNB.out.2).trans H1.out);have hE1:=aAu ((aI W2 b (rdA s r2.nx r2.k r2.p r2.t r2.b r2.n r2.sc r2.d r2.x r2.e r2.o) N HNB.out.1).trans H0.out) rfl r
   have hE2:=kV (setRow_heap (cL W2 b (rdA s r2.nx r2.k r2.p r2.t r2.b r2.n r2.sc r2.d r2.x r2.e r2.o)) N _ (tokA r) 223 (0,0) ((aI W2 b (rdA s r2.nx r2.k r2.p r2.t r2.b r2.n r2.sc r2.d r2.x r2.e r2.o) N HNB.out.1).trans H0.out));go_wp2;refine bodyPost_ret (v:=tokV r) (by simp[results,Tryz.results233,go_sem,hE2]) rfl ?_;have hav:r.adv s=r2:=by rw[HEQ.out,kX,if_neg HE2.out]
   refine⟨rfl,?_,?_⟩
   ·rw[hav];exact aH H2R.out HNB.out.1
   ·exact aK HG2.out N _ HNW.out
end
end
section
open Go Go.RowKit Go.Shelf
structure Rd.Fit (s:ByteArray) (r:Rd):Prop where
 t:r.t.size<=s.size
 b:r.b.size<=4 * s.size
 n:I64 r.n
 sc:0<=r.sc/\r.sc<=s.size
theorem gI {s:ByteArray} {r:Rd} (h:r.Fit s) (p:Nat) (e:Int):(r.fail p e).Fit s:=by
 unfold Rd.fail;split
 ·exact⟨h.t,h.b,h.n,h.sc⟩
 ·exact h
theorem aIj (s:ByteArray) (a o:Nat):(r1F a o).Fit s:=⟨Nat.zero_le _,Nat.zero_le _,by simp[r1F,I64],by simp[r1F]⟩
theorem aAr:∀(f:Nat) (l:List UInt8) (i:Nat) (acc:List UInt8) (j:Nat) (a:List UInt8),cE f l i acc=.inl (j,a)->a.length<=acc.length+4 * l.length
 | 0,_,_,_,_,_,h=>by simp[cE] at h
 | _+1,[],_,_,_,_,h=>by simp[cE] at h
 | f+1,c :: l,i,acc,j,a,h=>by
   unfold cE at h;split at h
   ·simp only[Sum.inl.injEq,Prod.mk.injEq] at h;rw[<-h.2];omega
   split at h
   ·cases h
   split at h
   ·have:=aAr f _ _ _ _ _ h;simp only[List.length_append,List.length_cons,List.length_nil] at this ⊢;omega
   split at h
   ·cases h
   dsimp only at h;split at h
   ·cases h
   ·have:=aAr f _ _ _ _ _ h;have h4:=(aIk l).2;simp only[List.length_append,List.length_cons,List.length_drop] at this ⊢;omega
theorem aCb:∀(l:List UInt8) (i:Nat) (odd:Int) (acc:List UInt8) (j:Nat) (a:List UInt8),eG l i odd acc=.inl (j,a)->a.length<=acc.length+l.length
 | [],_,_,_,_,_,h=>by simp[eG] at h
 | c :: l,i,odd,acc,j,a,h=>by
   unfold eG at h;split at h
   ·simp only[Sum.inl.injEq,Prod.mk.injEq] at h;rw[<-h.2];omega
   split at h
   ·cases h
   split at h
   ·have:=aCb l _ _ _ _ _ h;simp only[List.length_cons];omega
   ·have:=aCb l _ _ _ _ _ h;simp only[List.length_append,List.length_cons,List.length_nil] at this ⊢;omega
theorem decP_bd (l:List UInt8):I64 (kF l).1/\(kF l).2.1<=l.length:=by
 unfold kF;split
 ·exact⟨⟨by decide,by decide⟩,Nat.zero_le _⟩
 split
 ·exact⟨⟨by decide,by decide⟩,Nat.zero_le _⟩
 dsimp only;split
 ·exact⟨⟨by decide,by decide⟩,Nat.zero_le _⟩
 ·exact⟨bV _,by have:=qU l [46];dsimp only;omega⟩
theorem aJ1 (l p:List UInt8):(Lib.trimSuffix l p).length<=l.length:=by
 unfold Lib.trimSuffix;split
 ·rw[List.length_take];omega
 ·exact Nat.le_refl _
theorem ext_len (s:ByteArray) (a b:Nat):(s.extract a b).size<=s.size:=by
 have h:(s.extract a b).data.toList.length=(s.extract a b).size:=rfl;rw[<-h,Lib.extract_data,List.length_take,List.length_drop];have:s.data.toList.length=s.size:=rfl;omega
theorem fit_str {s:ByteArray} {r:Rd} (h:r.Fit s) (a:Nat):(gQ s.data.toList a r).Fit s:=by
 unfold gQ;split
 ·rename_i i b hq;have h1:=aAr _ _ _ _ _ _ hq;rw[List.length_drop] at h1;have h0:s.data.toList.length=s.size:=rfl;have hb:(⟨b.toArray⟩:ByteArray).size<=4 * s.size:=by rw[aU];simp at h1;omega
  split
  ·have h2:=gI h a 16;exact⟨h2.t,hb,h2.n,h2.sc⟩
  ·exact⟨h.t,hb,h.n,h.sc⟩
 ·exact gI h _ _
 ·exact gI h _ _
theorem fit_byt {s:ByteArray} {r:Rd} (h:r.Fit s) (a:Nat):(iZ s.data.toList a r).Fit s:=by
 unfold iZ;split
 ·rename_i i b hq;have h1:=aCb _ _ _ _ _ _ hq;rw[List.length_drop] at h1;have h0:s.data.toList.length=s.size:=rfl;have hb:(⟨b.toArray⟩:ByteArray).size<=4 * s.size:=by rw[aU];simp at h1;omega
  exact⟨h.t,hb,h.n,h.sc⟩
 ·exact gI h _ _
 ·exact gI h _ _
theorem fit_num {s:ByteArray} {r:Rd} (h:r.Fit s) (a:Nat):(iN s.data.toList s a r).Fit s:=by
 unfold iN;dsimp only;obtain⟨f,hf⟩:=ez ((if s.data.toList[a]?=some 45 then a+1 else a))
 rw[<-hf];obtain⟨tq,htq⟩:=ez (bL s.data.toList f bD)
 rw[<-htq];split
 ·exact gI h _ _
 ·obtain⟨q,hq⟩:=ez ((if s.data.toList[tq]?=some 46/\(s.data.toList[tq+1]?.any bD)=true then (bL s.data.toList (tq+1) bD,true,false) else if s.data.toList[tq]?=some 100 then (tq+1,true,true) else (tq,false,false)))
  rw[<-hq];obtain⟨l,hl⟩:=ez (Lib.trimSuffix (s.extract a q.1).data.toList [100])
  have hll:l.length<=s.size:=by
   have h1:=aJ1 (s.extract a q.1).data.toList [100];have h2:=ext_len s a q.1;have h3:(s.extract a q.1).data.toList.length=(s.extract a q.1).size:=rfl;rw[hl];omega
  rw[<-hl];obtain⟨d1,d2⟩:=decP_bd l;have hsc:(0:Int)<=(((kF l).2.1:Nat):Int)/\(((kF l).2.1:Nat):Int)<=(s.size:Int):=by omega
  split
  ·have h2:=gI (s:=s) (r:={ r with nx:=q.1,d:=q.2.1,x:=q.2.2 }) ⟨h.t,h.b,h.n,h.sc⟩ a (kF l).2.2;exact⟨h2.t,h2.b,d1,hsc⟩
  ·exact⟨h.t,h.b,d1,hsc⟩
theorem fit_mid (s:ByteArray) (a o:Nat) (c:UInt8):(jZ s a o c).Fit s:=by
 have h:=aIj s a o;unfold jZ;split;· exact fit_str h a
 split;· exact fit_byt h a
 split;· exact⟨h.t,h.b,h.n,h.sc⟩
 split;· exact fit_num h a
 split;· exact⟨h.t,h.b,h.n,h.sc⟩
 split;· exact⟨h.t,h.b,h.n,h.sc⟩
 exact gI h _ _
theorem fit_adv {s:ByteArray} {r:Rd} (h:r.Fit s):(r.adv s).Fit s:=by
 by_cases he:r.e=0
 ·cases hc:s.data.toList[bL s.data.toList r.nx spC]? with
  | none=>rw[oI he hc];exact aIj _ _ _
  | some c =>
    rw[oH he hc];have hm:=fit_mid s (bL s.data.toList r.nx spC) r.o c;unfold kX;split
    ·exact⟨ext_len _ _ _,hm.b,hm.n,hm.sc⟩
    ·exact hm
 ·unfold Rd.adv;rw[if_pos he];exact h
end
section
open Go Go.RowKit Go.Shelf
attribute [local go_sem] cJ eW cK dF bP bW
theorem nP (b:Nat) (s:ByteArray) (r:Rd) (w:World) (h:IsRd w b s r) (hs:s.size<=100000) (hTB:TB w b) :
 CP 233 #[.pointer (some ⟨b,0,none⟩)] w fun x w'=>x=.returned (tokV r)/\IsRd w' b s (r.adv s)/\w.grownBy w' (some b):=by
 by_cases he:r.e=0
 ·exact aNv b s r w h hs hTB he
 ·exact adv_bad b s r w h he
def Rd.acc (s:ByteArray) (r:Rd) (t:ByteArray):Rd:=if r.is t=true then r.adv s else r
theorem aFc (b:Nat) (s:ByteArray) (r:Rd) (t:ByteArray) (w:World) (h:IsRd w b s r) (hs:s.size<=100000) (hTB:TB w b) :
 CP 331 #[.pointer (some ⟨b,0,none⟩),.string t] w fun x w'=>x=.returned (.bool (r.is t))/\IsRd w' b s (r.acc s t)/\w.grownBy w' (some b):=by
 have HI:=hid (tE b s r t w h);have HA:=hid (nP b s r w h hs hTB);have HR:=hid h;obtain⟨q,hq⟩:=ez (r.is t)
 rw[<-hq] at HI ⊢;have HQ:=hid (show r.acc s t=if q=true then r.adv s else r by rw[hq];rfl);clear h hq;cases q
 ·go_enter Tryz.func331,Tryz.ntmps331
  go_wp2_with (go_at_call 293;refine HI.out.mono ?_;rintro e w2 ⟨rfl,hw2⟩;obtain rfl:=hw2.symm)
  go_ret;exact⟨rfl,by rw[HQ.out];exact HR.out,⟨rfl,rfl,rfl,Nat.le_refl _,fun _ _ _=>rfl⟩⟩
 ·go_enter Tryz.func331,Tryz.ntmps331
  go_wp2_with (first
   | (go_at_call 233;refine HA.out.mono ?_;rintro e w2 ⟨rfl,h2,hg2⟩;have H2R:=hid h2;have HG2:=hid hg2;clear h2 hg2)
   | (go_at_call 293;refine HI.out.mono ?_;rintro e w2 ⟨rfl,hw2⟩;obtain rfl:=hw2.symm))
  go_ret;exact⟨rfl,by rw[HQ.out];exact H2R.out,HG2.out⟩
theorem dX (b:Nat) (s:ByteArray) (r:Rd) (t:ByteArray) (w:World) (h:IsRd w b s r) (hs:s.size<=100000) (hTB:TB w b) :
 CP 294 #[.pointer (some ⟨b,0,none⟩),.string t] w fun x w'=>x=.returned (.tuple #[])/\IsRd w' b s (r.expect s t)/\w.grownBy w' (some b):=by
 have HA:=hid (aFc b s r t w h hs hTB);have HR:=hid h;have HFL:=hid (fun (w':World) (h':IsRd w' b s r)=>bC b s r r.p 13 w' h');obtain⟨q,hq⟩:=ez (r.is t)
 rw[<-hq] at HA;have HQ:=hid (show r.expect s t=if r.e≠0 then r else if q=true then r.adv s else r.fail r.p 13 by rw[hq];rfl);have HC:=hid (show r.acc s t=if q=true then r.adv s else r by rw[hq];rfl);clear hq;by_cases he:r.e=0
 ·have HE:=hid he;have qe:(r.e==0)=true:=by simp[he]
  have qc:Ce w b 10 (I6 r.e):=aA h.at_ 10;clear he h;cases q
  ·have HPC:=hid (fun (w2:World) (h2:IsRd w2 b s r)=>(aA h2.at_ 3:Ce w2 b 3 (I6 (r.p:Int))));go_enter Tryz.func294,Tryz.ntmps294
   go_wp2_with (first
    | (go_at_call 232;refine(HFL.out w2 H2R.out).mono ?_;rintro e w3 ⟨rfl,h3,hg3⟩;have H3R:=hid h3;have HG3:=hid hg3;clear h3 hg3)
    | (go_at_call 331;refine HA.out.mono ?_;rintro e w2 ⟨rfl,h2,hg2⟩;rw[HC.out] at h2;simp only[Bool.false_eq_true,if_false] at h2;have H2R:=hid h2;have HG2:=hid hg2;have hpc:=HPC.out w2 h2;clear h2 hg2))
   refine bodyPost_end (results_none rfl _ _ _) rfl ?_;refine⟨rfl,?_,HG2.out.trans HG3.out⟩;rw[HQ.out,if_neg (by simp[HE.out]),if_neg gc];exact H3R.out
  ·go_enter Tryz.func294,Tryz.ntmps294
   go_wp2_with (go_at_call 331;refine HA.out.mono ?_;rintro e w2 ⟨rfl,h2,hg2⟩;rw[HC.out] at h2;simp only[if_true] at h2;have H2R:=hid h2;have HG2:=hid hg2;clear h2 hg2)
   refine bodyPost_end (results_none rfl _ _ _) rfl ?_;refine⟨rfl,?_,HG2.out⟩;rw[HQ.out,if_neg (by simp[HE.out])]
   first | rw[if_pos rfl] | rw[if_pos trivial]
   exact H2R.out
 ·have HE:=hid he;have qe:(r.e==0)=false:=by simp[he]
  have qc:Ce w b 10 (I6 r.e):=aA h.at_ 10;clear he h;go_enter Tryz.func294,Tryz.ntmps294
  go_wp2;refine bodyPost_end (results_none rfl _ _ _) rfl ?_;refine⟨rfl,?_,⟨rfl,rfl,rfl,Nat.le_refl _,fun _ _ _=>rfl⟩⟩;rw[HQ.out,if_pos HE.out];exact HR.out
def fS (r:Rd) (k:Nat):Rd:=if r.e=0/\r.k=k then r else r1F 0 0
section
attribute [-go_sem] loadCellsFrom storeCells
attribute [local go_sem] aBr aBq aBp aBo aBn aBm lcf6 lcf7 aAt aAs
theorem rE (b:Nat) (s:ByteArray) (r:Rd) (k:Nat) (w:World) (h:IsRd w b s r) (hs:s.size<=100000) (hTB:TB w b) :
 CP 332 #[.pointer (some ⟨b,0,none⟩),I6 k] w fun x w'=>x=.returned (tokV (fS r k))/\IsRd w' b s (r.take s k)/\w.grownBy w' (some b):=by
 obtain⟨N,hN⟩:=ez w.heap.size
 have HG1:=hid (World.grownBy_alloc w tokZ (some b));have HNB:=hid (show N≠b by rw[hN];exact fun e=>Nat.lt_irrefl _ (e▸h.lt));have hr1:=h.alloc tokZ;have hcz:(w.alloc tokZ).heap[N]?=some tokZ:=by rw[hN];exact heap_alloc_new w _
 have hNz:N<(w.alloc tokZ).heap.size:=by rw[hN,World.size_alloc];exact Nat.lt_succ_self _
 have HNW:=hid (show w.heap.size<=N by omega);have HTB1:=hid (hTB.grown HG1.out (.inr rfl));have HADV:=hid (nP b s r (w.alloc tokZ) hr1 hs HTB1.out);have HFL:=hid (bC b s r r.p 13 (w.alloc tokZ) hr1);have HZ:=hid hcz;have HNZ:=hid hNz;have qe10:Ce (w.alloc tokZ) b 10 (I6 r.e):=aA hr1.at_ 10;have qk2:Ce (w.alloc tokZ) b 2 (I6 (r.k:Int)):=aA hr1.at_ 2;have qp3:Ce (w.alloc tokZ) b 3 (I6 (r.p:Int)):=aA hr1.at_ 3;have HR1:=hid hr1;clear hcz hNz hr1 h hTB
 -- the end: token z stored into the result's block of w2
 have HEND:=hid (fun (w2:World) (hg:(w.alloc tokZ).grownBy w2 (some b)) (z:Rd)=>(show(storeCells ⟨N,0,none⟩ [I6 z.k,I6 z.p,.string z.t,.string z.b,I6 z.n,I6 z.sc,.bool z.d,.bool z.x] 0).run Tryz.prog w2=.ok () (w2.setRow N (tokA z))/\(loadCellsFrom ⟨N,0,none⟩ 0 8 #[]).run Tryz.prog (w2.setRow N (tokA z))=.ok (tokA z) (w2.setRow N (tokA z)) from by
  have h0:=(hg.block N HNZ.out (by simp[HNB.out])).trans HZ.out;exact⟨aAu h0 rfl z,kV (setRow_heap w2 N _ (tokA z) 223 (0,0) h0)⟩))
 have HEZ:=hid (fun (w2:World) (hg:(w.alloc tokZ).grownBy w2 (some b))=>(show(storeCells ⟨N,0,none⟩ [I6 0,I6 0,.string ⟨#[]⟩,.string ⟨#[]⟩,I6 0,I6 0,.bool false,.bool false] 0).run Tryz.prog w2=.ok () (w2.setRow N #[I6 0,I6 0,.string ⟨#[]⟩,.string ⟨#[]⟩,I6 0,I6 0,.bool false,.bool false])/\(loadCellsFrom ⟨N,0,none⟩ 0 8 #[]).run Tryz.prog (w2.setRow N #[I6 0,I6 0,.string ⟨#[]⟩,.string ⟨#[]⟩,I6 0,I6 0,.bool false,.bool false])=.ok #[I6 0,I6 0,.string ⟨#[]⟩,.string ⟨#[]⟩,I6 0,I6 0,.bool false,.bool false] (w2.setRow N #[I6 0,I6 0,.string ⟨#[]⟩,.string ⟨#[]⟩,I6 0,I6 0,.bool false,.bool false]) from HEND.out w2 hg (r1F 0 0)))
 by_cases he:r.e=0
 ·have HE:=hid he;have qe:(r.e==0)=true:=by simp[he]
  have qe':(r.e != 0)=false:=by simp[he]
  by_cases hk:r.k=k
  ·have HT:=hid (show fS r k=r by rw[fS,if_pos ⟨he,hk⟩]);have HS:=hid (show r.take s k=r.adv s by rw[Rd.take,if_neg (by simp[he]),if_neg (by simp[hk])]);have qk:((r.k:Int)==(k:Int))=true:=by simp;omega
   have qk':((r.k:Int) != (k:Int))=false:=by simp;omega
   clear he hk;go_enter Tryz.func332,Tryz.ntmps332
   go_wp2_with (go_at_call 233;refine HADV.out.mono ?_;rintro e w2 ⟨rfl,h2,hg2⟩;have H2R:=hid h2;have HG2:=hid hg2;obtain⟨hE1,hE2⟩:=HEND.out w2 hg2 r;rw[hN] at hE1 hE2;clear h2 hg2)
   refine bodyPost_ret (v:=tokV r) (by simp[results,Tryz.results332,go_sem,hE2]) rfl ?_;rw[HT.out,HS.out];exact⟨rfl,aH H2R.out (hN▸HNB.out),aK (HG1.out.trans HG2.out) _ _ lr⟩
  ·have HT:=hid (show fS r k=r1F 0 0 by rw[fS,if_neg (fun h=>hk h.2)]);have HS:=hid (show r.take s k=r.fail r.p 13 by rw[Rd.take,if_neg (by simp[he]),if_pos hk]);have HFE:=hid (show(r.fail r.p 13).e≠0 from Rd.fail_e _ _ _ gc);have qk:((r.k:Int)==(k:Int))=false:=by simp;omega
   have qk':((r.k:Int) != (k:Int))=true:=by simp;omega
   obtain⟨rf,hrf⟩:=ez (r.fail r.p 13)
   rw[<-hrf] at HFE HFL HS;have qf:(rf.e==0)=false:=by simp[HFE.out]
   have qf':(rf.e != 0)=true:=by simp[HFE.out]
   clear he hk hrf;go_enter Tryz.func332,Tryz.ntmps332
   go_wp2_with (go_at_call 232;refine HFL.out.mono ?_;rintro e w2 ⟨rfl,h2,hg2⟩;have H2R:=hid h2;have HG2:=hid hg2;obtain⟨hE1,hE2⟩:=HEZ.out w2 hg2;rw[hN] at hE1 hE2;have qc10:=(aA h2.at_ 10:Ce w2 b 10 (I6 rf.e));clear h2 hg2)
   refine bodyPost_ret (v:=.agg #[I6 0,I6 0,.string ⟨#[]⟩,.string ⟨#[]⟩,I6 0,I6 0,.bool false,.bool false]) (by simp[results,Tryz.results332,go_sem,hE2]) rfl ?_;rw[HT.out,HS.out];exact⟨rfl,aH H2R.out (hN▸HNB.out),aK (HG1.out.trans HG2.out) _ _ lr⟩
 ·have HT:=hid (show fS r k=r1F 0 0 by rw[fS,if_neg (fun h=>he h.1)]);have HS:=hid (show r.take s k=r by rw[Rd.take,if_pos he]);have qe:(r.e==0)=false:=by simp[he]
  have qe':(r.e != 0)=true:=by simp[he]
  obtain⟨hE1,hE2⟩:=HEZ.out (w.alloc tokZ) ⟨rfl,rfl,rfl,Nat.le_refl _,fun _ _ _=>rfl⟩;rw[hN] at hE1 hE2;clear he;go_enter Tryz.func332,Tryz.ntmps332
  go_wp2;refine bodyPost_ret (v:=.agg #[I6 0,I6 0,.string ⟨#[]⟩,.string ⟨#[]⟩,I6 0,I6 0,.bool false,.bool false]) (by simp[results,Tryz.results332,go_sem,hE2]) rfl ?_;rw[HT.out,HS.out];exact⟨rfl,aH HR1.out (hN▸HNB.out),aK HG1.out _ _ lr⟩
end
end
end Go.Proofs.YtmgpghoamapfgaaGreatDoor
