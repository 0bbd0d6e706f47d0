/- A part. -/
import Derived.Test.YteladbdfiannjaaGreatDoorSX2Mrg
import Derived.Sort.CutIn
import Derived.Deep.CutBlock
import Derived.Deep.DeepCutAuto
import Derived.Lib.MinMax
namespace Go.Proofs.YteladbdfiannjaaGreatDoor
set_option linter.unusedVariables false
set_option maxRecDepth 100000
set_option maxHeartbeats 64000000
set_option linter.unusedSimpArgs false
open Go Go.RowKit
attribute [-go_sem] Go.Lib.run_max_ints Go.Lib.run_min_ints
def gG (t:ByteArray):ByteArray:=t.extract 0 (min (t.size:Int) 40).toNat
theorem aCj (a b:Int):min a b=if b<a then b else a:=by split<;>omega
theorem oH (t:ByteArray):(gG t).size≤40∧(gG t).size≤t.size:=by
 unfold gG
 simp
 omega
def six {α β:Type} (b:Bool) (f:α→β) (l:List α):List β:=if b=true then (l.take 6).map f else []
theorem wR {α β:Type} {b:Bool} {f:α→β} {l:List α} (k:Nat) (h1:k<l.length) (h2:k<6) (h3:b=true):k<(six b f l).length:=by
 unfold six;rw[if_pos h3];simp;omega
theorem jB {α β:Type} {b:Bool} {f:α→β} {l:List α} (k:Nat) (h:k<(six b f l).length):k<l.length∧k<6∧b=true:=by
 unfold six at h
 by_cases hb:b=true
 ·rw[if_pos hb] at h;simp at h;exact⟨by omega,by omega,hb⟩
 ·rw[if_neg hb] at h;simp at h
theorem wS {α β:Type} {b:Bool} {f:α→β} {l:List α} (k:Nat) (h:k<(six b f l).length):(six b f l)[k]=f (l[k]'(jB k h).1):=by
 have hb:=(jB k h).2.2
 unfold six
 simp only[if_pos hb,List.getElem_map,List.getElem_take]
theorem yT {α β:Type} (b:Bool) (f:α→β) (l:List α):(six b f l).length≤6:=by
 unfold six;split<;>simp;omega
theorem wQ {α α' β β':Type} {b:Bool} {f:α→β} {g:α'→β'} {l:List α} {l':List α'} (h:l.length=l'.length):(six b f l).length=(six b g l').length:=by
 unfold six;split<;>simp[h]
theorem six_mem {α β:Type} {b:Bool} {f:α→β} {l:List α} {x:β} (h:x∈six b f l):∃a,x=f a:=by
 unfold six at h
 split at h
 ·obtain⟨a,_,rfl⟩:=List.mem_map.1 h;exact⟨a,rfl⟩
 ·cases h
theorem mZ (lv:Int) (hlv:1≤lv∧lv≤10) (f:Val→Val) (ih:1<lv→∀(d:Val) (c:VC) (w:World),IsVal (· < w.heap.size) w c d→Calls Tryz.prog 78 #[c.v,.int .i64 (lv-1)] w (dW w (f d)))
 (k0 i0 s0:Int) (t0:ByteArray) (la:Option Addr) (ll lc:Nat) (fa:Option Addr) (fl fc:Nat) (l:List Val) (ns:List ByteArray) (fs:List Val) (w:World) (hd:IsVal (· < w.heap.size) w ⟨k0,i0,s0,t0,la,ll,lc,fa,fl,fc⟩ (.mk k0 i0 s0 t0 l ns fs)) :
 Calls Tryz.prog 78 #[.agg #[.int .i64 k0,.int .i64 i0,.int .i64 s0,.string t0,.slice la ll lc,.slice fa fl fc],.int .i64 lv] w (dW w (.mk k0 i0 s0 (gG t0) (six (decide (1<lv)) f l) (six (decide (1<lv)) gG ns) (six (decide (1<lv)) f fs))):=by
 obtain⟨⟨_,_,_,_,hok,hll,hfl,hns⟩,hv,hf⟩:=hd
 dsimp only at hll hfl hv hf
 have hreach:ll * 88≤140737488351232:=hok.l
 have hreachf:fl * 104≤140737488351232:=hok.f
 have hts:t0.size≤140737488351232:=hok.t
 have HL:=hid hll;clear hll
 have HF:=hid hfl;clear hfl
 have HNS:=hid hns;clear hns
 have HOK:=hid hok;clear hok
 have HV:=hid hv;clear hv
 have HVF:=hid hf;clear hf
 have HIH:=hid ih;clear ih
 obtain⟨ti,hi,hz0,hz1,hz2⟩:=info_parts lZ
 obtain⟨bL,hbL⟩:∃bL,bL=decide (1<lv):=⟨_,rfl⟩
 rw[←hbL]
 have HBL:=hid hbL;clear hbL
 obtain⟨L,hL⟩:∃L,L=six bL f l:=⟨_,rfl⟩
 obtain⟨NS,hNS⟩:∃NS,NS=six bL gG ns:=⟨_,rfl⟩
 obtain⟨FS,hFS⟩:∃FS,FS=six bL f fs:=⟨_,rfl⟩
 rw[←hL,←hNS,←hFS]
 have HLE:=hid hL;clear hL
 have HNE:=hid hNS;clear hNS
 have HFE:=hid hFS;clear hFS
 obtain⟨tc,htc⟩:∃tc,tc=gG t0:=⟨_,rfl⟩
 rw[←htc]
 have HTC:=hid htc;clear htc
 have HTC':Hid (t0.extract 0 (if (40:Int)<(t0.size:Int) then 40 else (t0.size:Int)).toNat=tc):=hid (by rw[←aCj];exact HTC.out.symm)
 obtain⟨vb,hvb⟩:∃vb,vb=w.heap.size:=⟨_,rfl⟩
 obtain⟨W,hW⟩:∃W,W=(w.alloc (.cells #[.int .i64 k0,.int .i64 i0,.int .i64 s0,.string tc,.slice la ll lc,.slice fa fl fc] 66)).alloc (.cells #[.int .i64 0,.int .i64 0,.int .i64 0,.string ⟨#[]⟩,.slice none 0 0,.slice none 0 0] 66):=⟨_,rfl⟩
 have g1:W.heap[vb]?=some (.cells #[.int .i64 k0,.int .i64 i0,.int .i64 s0,.string tc,.slice la ll lc,.slice fa fl fc] 66):=by rw[hW,hvb];exact aC _ (heap_alloc_new w _)
 have g2:W.heap[vb+1]?=some (.cells #[.int .i64 0,.int .i64 0,.int .i64 0,.string ⟨#[]⟩,.slice none 0 0,.slice none 0 0] 66):=by rw[hW,hvb];exact aM _ _ _ (by simp)
 have hbW:Below vb w W:=by rw[hW,hvb];exact((bR w).alloc lr _).alloc (by simp) _
 have zW:W.heap.size=vb+2:=by rw[hW,hvb];simp
 obtain⟨B,hB⟩:∃B,B=vb+2:=⟨_,rfl⟩
 have hlv1:=hlv.1
 have hlv2:=hlv.2
 clear hlv
 go_enter Tryz.func78,Tryz.ntmps78
 go_upto_region 2 with (fail)
 rw[HTC'.out,←hW,←hvb]
 generalize (if (40:Int)<(t0.size:Int) then (40:Int) else (t0.size:Int))=m40
 have HG1:=hid g1;have HG2:=hid g2;have HBW:=hid hbW;have HZW:=hid zW;have HB:=hid hB;have HVB:=hid hvb
 clear g1 g2 hbW zW hW hB hvb HTC'
 go_upto_block 0 with (fail)
 go_cut [5] (fun v wz=>BuiltV 66 B wz v L.length L∧wz.heap[vb]?=some (.cells #[.int .i64 k0,.int .i64 i0,.int .i64 s0,.string tc,.slice la ll lc,.slice fa fl fc] 66)∧wz.heap[vb+1]?=some (.cells #[.int .i64 0,.int .i64 0,.int .i64 0,.string ⟨#[]⟩,.slice none 0 0,.slice none 0 0] 66)∧Below vb w wz∧B≤wz.heap.size)
 case first =>
  go_wp2
  go_loopw [5,7] (fun vv i wz=>∃(k:Nat) (v:Value),v=vv∧k≤L.length∧i=.int .i64 k∧BuiltV 66 B wz v k L∧wz.heap[vb]?=some (.cells #[.int .i64 k0,.int .i64 i0,.int .i64 s0,.string tc,.slice la ll lc,.slice fa fl fc] 66)∧wz.heap[vb+1]?=some (.cells #[.int .i64 0,.int .i64 0,.int .i64 0,.string ⟨#[]⟩,.slice none 0 0,.slice none 0 0] 66)∧Below vb w wz∧B≤wz.heap.size) (fun _ i _=>L.length-(intOf i).toNat)
  case atStart=>exact⟨0,_,rfl,Nat.zero_le _,rfl,BuiltV.nil _ _ _ _,HG1.out,HG2.out,HBW.out,by have:=HB.out;have:=HZW.out;omega⟩
  case round =>
   obtain⟨k,v,rfl,hk,rfl,hbu,hgv,hgz,hbel,hsz⟩:=hrel
   obtain⟨wp,rfl⟩:∃w1:World,w1=wr:=⟨_,rfl⟩
   have e4:=aA hgv 4
   (try dsimp only at e4)
   have HGV:=hid hgv;have HGZ:=hid hgz;have HBEL:=hid hbel;have HBZ:=hid hsz
   clear hgv hgz hbel hsz
   have hk0:(0:Int)≤(k:Int):=by omega
   have EX:Hid (¬ k<L.length→BuiltV 66 B wp v L.length L):=hid (fun h=>by
    have:k=L.length:=by omega
    rw[←this];exact hbu)
   by_cases h1:(k:Int)<(ll:Int)
   ·by_cases h2:(k:Int)<6
    ·by_cases h3:(1:Int)<lv
     ·have hkL:k<L.length:=by rw[HLE.out];exact wR k (by have:=HL.out;omega) (by omega) (by rw[HBL.out];exact decide_eq_true h3)
      have hkl:k<l.length:=by have:=HL.out;omega
      have hLk:L[k]=f l[k]:=by
       have h:=wS (b:=bL) (f:=f) (l:=l) k (by rw[←HLE.out];exact hkL)
       simp only[←HLE.out] at h
       exact h
      obtain⟨b,o,rfl,hb,hvs⟩:∃b o,la=some ⟨b,o,none⟩∧b<w.heap.size∧IsVals (· < w.heap.size) w b o l:=by
       rcases HV.out with h0 | h
       ·rw[h0] at hkl;simp at hkl
       ·exact h
      obtain⟨x,hx,hxa⟩:=hvs.get k hkl
      have hst:∀b,b<w.heap.size→b<wp.heap.size∧wp.heap[b]?=w.heap[b]?:=fun b hb=>⟨by have:=HBEL.out.size;omega,HBEL.out.block b (by rw[HVB.out];exact hb)⟩
      obtain⟨x0,x1,x2,x3,x4,x5⟩:=hx.same (hst b hb).2
      obtain⟨cs,hcs,hown,hel⟩:=hbu
      have hvo:=BuiltV.own ⟨cs,hcs,hown,hel⟩
      have HC:Hid (Calls Tryz.prog 78 #[.agg #[.int .i64 x.k,.int .i64 x.i,.int .i64 x.s,.string x.t,.slice x.la x.ll x.lc,.slice x.fa x.fl x.fc],.int .i64 (lv-1)] wp (dW wp (f l[k]))):=hid (HIH.out h3 l[k] x wp (hxa.same hst))
      have HVO:=hid hvo;have HOWN:=hid hown;have HEL:=hid hel;have HCL:=hid hcs;have HLK:=hid (fun (h:k<L.length)=>(show L[k]=f l[k] from hLk));have HKL:=hid hkL
      clear hvo hown hel hcs hst hxa hvs hb hx hLk hkL EX
      have hcap1:k+1≤maxLen:=by unfold maxLen;omega
      have hcap2:(k+1) * 88≤140737488355328:=by omega
      go_wp2_with (first
       | (go_at_call 78;refine HC.out.mono ?_;rintro e w4 ⟨c4,rfl,hb4,hi4⟩;have HB4:=hid hb4;have HI4:=hid hi4;clear hb4 hi4)
       | (at_builtin;refine wpList_append_lies _ (by rfl) _ _ 63 (by rfl) B 66 ti _ 6 88 Tryz.underlying63 hi hz0 hz1 hz2 rfl (by omega) v k (cs.flatMap VC.cs) (by rfl) ((cW HOWN.out HB4.out).alloc (.cells #[.int .i64 c4.k,.int .i64 c4.i,.int .i64 c4.s,.string c4.t,.slice c4.la c4.ll c4.lc,.slice c4.fa c4.fl c4.fc] 66)) ⟨w4.heap.size,0,none⟩ 1 1 (VC.cs c4) (by rfl) (by rfl) (World.news_of_block (heap_alloc_new w4 _)) (by simp[VC.cs,Value.oneCell']) (by omega) hcap1 hcap2 (by have h2:=HB4.out.size;have h3:=HBZ.out;simp;omega) (w4.heap.size+1) (by simp) ?_;intro gg cap5 w5 hown2 hgrow hat hlt2;have HO2:=hid hown2;have HG:=hid hgrow;have HAT:=hid hat;clear hown2 hgrow hat hlt2))
      go_roundw
      case rel =>
       have h4:=HB4.out.size
       have hbz:=HBZ.out
       have hpush:BuiltV 66 B w5 (.slice (some ⟨gg,0,none⟩) (k+1) cap5) (k+1) L :=
        BuiltV.push (N:=wp.heap.size) (w1:=w4) (o:=(.cells #[.int .i64 c4.k,.int .i64 c4.i,.int .i64 c4.s,.string c4.t,.slice c4.la c4.ll c4.lc,.slice c4.fa c4.fl c4.fc] 66)) (c:=c4) HCL.out
         (fun j hj hj'=>(HEL.out j hj hj').same fun b hb=>⟨⟨hb.1,by have:=hb.2.1;omega,hb.2.2⟩,HB4.out.block b hb.2.1⟩) HKL.out (by rw[HLK.out HKL.out];exact HI4.out.same fun b hb=>⟨⟨hb.1,hb.2⟩,rfl⟩) hbz (fun r e=>(HVO.out r e).2) HO2.out HG.out HAT.out
       have hgk:∀{q:Nat} {oo:Obj},q<B→wp.heap[q]?=some oo→w5.heap[q]?=some oo:=fun {q oo} hq h=>aY HG.out (aC _ (aB HB4.out h)) (fun e=>by have:=(HVO.out _ e.symm).1;omega)
       have hBv:=HB.out
       exact⟨k+1,_,rfl,HKL.out,by go_num,hpush,hgk (by omega) HGV.out,hgk (by omega) HGZ.out,(((HBEL.out.trans (HB4.out.mono (by omega))).alloc (by omega) _).grown HG.out (by simp;omega) (fun r e=>by have:=(HVO.out r e).1;omega)),by have:=HG.out.size;simp at this;omega⟩
      case measure=>simp[intOf];have:=HKL.out;omega
     ·have hx:¬ k<L.length:=fun h=>h3 (by have:=(jB (b:=bL) (f:=f) (l:=l) k (by rw[←HLE.out];exact h)).2.2;rw[HBL.out] at this;exact of_decide_eq_true this)
      have HX:=hid hx
      clear hx
      go_wp2
      go_meet
      exact⟨EX.out HX.out,HGV.out,HGZ.out,HBEL.out,HBZ.out⟩
    ·have hx:¬ k<L.length:=fun h=>h2 (by have:=(jB (b:=bL) (f:=f) (l:=l) k (by rw[←HLE.out];exact h)).2.1;omega)
     have HX:=hid hx
     clear hx
     go_wp2
     go_meet
     exact⟨EX.out HX.out,HGV.out,HGZ.out,HBEL.out,HBZ.out⟩
   ·have hx:¬ k<L.length:=fun h=>h1 (by have:=(jB (b:=bL) (f:=f) (l:=l) k (by rw[←HLE.out];exact h)).1;have:=HL.out;omega)
    have HX:=hid hx
    clear hx
    go_wp2
    go_meet
    exact⟨EX.out HX.out,HGV.out,HGZ.out,HBEL.out,HBZ.out⟩
 case rest =>
  obtain⟨hbu1,hgv,hgz,hbel,hsz⟩:=hcut
  obtain⟨wl,rfl⟩:∃u:World,u=wc:=⟨_,rfl⟩
  obtain⟨al,capl,rfl,hcl,hal,hvb1⟩:=hbu1.shape
  have HVALS:=hid hbu1.vals
  have HCLP:=hid hcl
  have HGV:=hid hgv;have HGZ:=hid hgz;have HBEL:=hid hbel;have HBZ:=hid hsz
  clear hbu1 hgv hgz hbel hsz hcl hal hvb1 HG1 HG2 HBW HZW HV
  obtain⟨tf,hif,hzf0,hzf1,hzf2⟩:=info_parts aAi
  go_upto_block 2 with (fail)
  go_cut [6] (fun v wz=>BuiltF 208 wl.heap.size wz v FS.length NS FS∧Below wl.heap.size wl wz)
  case first =>
   go_wp2
   go_loopw [6,8] (fun vv i wz=>∃(k:Nat) (v:Value),v=vv∧k≤FS.length∧i=.int .i64 k∧BuiltF 208 wl.heap.size wz v k NS FS∧Below wl.heap.size wl wz) (fun _ i _=>FS.length-(intOf i).toNat)
   case atStart=>exact⟨0,_,rfl,Nat.zero_le _,rfl,BuiltF.nil _ _ _ _ _,Below.refl _ _⟩
   case round =>
    obtain⟨k,v,rfl,hk,rfl,hbu,hbel⟩:=hrel
    obtain⟨wp,rfl⟩:∃w1:World,w1=wr:=⟨_,rfl⟩
    have hvbl:vb<wl.heap.size:=by have:=HBZ.out;have:=HB.out;omega
    have gvp:wp.heap[vb]?=some (.cells #[.int .i64 k0,.int .i64 i0,.int .i64 s0,.string tc,.slice la ll lc,.slice fa fl fc] 66):=fY hbel HGV.out hvbl
    have e5:=aA gvp 5
    (try dsimp only at e5)
    have HGP:=hid gvp;have HBP:=hid hbel;have HVL:=hid hvbl
    have hk0:(0:Int)≤(k:Int):=by omega
    have EX:Hid (¬ k<FS.length→BuiltF 208 wl.heap.size wp v FS.length NS FS):=hid (fun h=>by
     have:k=FS.length:=by omega
     rw[←this];exact hbu)
    clear gvp hvbl
    by_cases h1:(k:Int)<(fl:Int)
    ·by_cases h2:(k:Int)<6
     ·by_cases h3:(1:Int)<lv
      ·have hkF:k<FS.length:=by rw[HFE.out];exact wR k (by have:=HF.out;omega) (by omega) (by rw[HBL.out];exact decide_eq_true h3)
       have hkf:k<fs.length:=by have:=HF.out;omega
       have hkn:k<ns.length:=by have:=HNS.out;omega
       have hkN:k<NS.length:=by rw[HNE.out];exact wR k hkn (by omega) (by rw[HBL.out];exact decide_eq_true h3)
       have hFk:FS[k]=f fs[k]:=by
        have h:=wS (b:=bL) (f:=f) (l:=fs) k (by rw[←HFE.out];exact hkF)
        simp only[←HFE.out] at h
        exact h
       obtain⟨b,o,rfl,hb,hvs⟩:∃b o,fa=some ⟨b,o,none⟩∧b<w.heap.size∧IsFlds (· < w.heap.size) w b o ns fs:=by
        rcases HVF.out with h0 | h
        ·rw[h0] at hkf;simp at hkf
        ·exact h
       obtain⟨⟨hn,hnz⟩,x,hx,hxa⟩:=hvs.get HNS.out k hkf hkn
       obtain⟨nm,hnm⟩:∃nm,nm=ns[k]:=⟨_,rfl⟩
       have hNk:NS[k]=gG nm:=by
        have h:=wS (b:=bL) (f:=gG) (l:=ns) k (by rw[←HNE.out];exact hkN)
        simp only[←HNE.out] at h
        rw[hnm];exact h
       rw[←hnm] at hn hnz
       clear hnm
       obtain⟨q,hq⟩:∃q:Nat,(if (40:Int)<(nm.size:Int) then (40:Int) else (nm.size:Int))=(q:Int):=⟨_,(Int.toNat_of_nonneg (by split<;>omega)).symm⟩
       have hqn:(q:Int)≤(nm.size:Int):=by rw[←hq];split<;>omega
       have hcq:nm.extract 0 q=gG nm:=by unfold gG;rw[aCj,hq];rfl
       have hvbe:=HVB.out
       have hBe:=HB.out
       have hst0:∀(w':World),Below B wp w'→∀c,c<w.heap.size→w'.heap[c]?=w.heap[c]?:=fun w' h c hc=>(h.block c (by omega)).trans ((HBP.out.block c (by have:=HBZ.out;omega)).trans (HBEL.out.block c (by omega)))
       have HCC:=hid (fun (w':World) (h:Below B wp w')=>by
        have a:=World.cell?_of_block (w:=w) (w':=w') (a:=⟨b,o+k * 7,none⟩) (hst0 w' h b hb)
        obtain⟨y0,y1,y2,y3,y4,y5⟩:=hx.same (hst0 w' h b hb)
        exact(show w'.cell? ⟨vb,5,none⟩=some (.slice (some ⟨b,o,none⟩) fl fc)∧w'.cell? ⟨b,o+k * 7,none⟩=some (.string nm)∧w'.cell? ⟨b,o+k * 7+1,none⟩=some (.int .i64 x.k)∧w'.cell? ⟨b,o+k * 7+1+1,none⟩=some (.int .i64 x.i)∧w'.cell? ⟨b,o+k * 7+1+2,none⟩=some (.int .i64 x.s)∧w'.cell? ⟨b,o+k * 7+1+3,none⟩=some (.string x.t)∧w'.cell? ⟨b,o+k * 7+1+4,none⟩=some (.slice x.la x.ll x.lc)∧w'.cell? ⟨b,o+k * 7+1+5,none⟩=some (.slice x.fa x.fl x.fc) from⟨(World.cell?_of_block (h.block vb (by omega))).trans (aA HGP.out 5),a.trans hn,y0,y1,y2,y3,y4,y5⟩))
       have hwB:B≤wp.heap.size:=by have:=HBP.out.size;have:=HBZ.out;omega
       have HC:Hid (Calls Tryz.prog 78 #[.agg #[.int .i64 x.k,.int .i64 x.i,.int .i64 x.s,.string x.t,.slice x.la x.ll x.lc,.slice x.fa x.fl x.fc],.int .i64 (lv-1)] wp.drew (dW wp.drew (f fs[k]))):=hid (HIH.out h3 fs[k] x wp.drew (hxa.same fun c hc=>⟨by simp;omega,hst0 wp.drew (Below.refl _ wp).drew c hc⟩))
       obtain⟨cs,hcs,hown,hel⟩:=hbu
       have hvo:=BuiltF.own ⟨cs,hcs,hown,hel⟩
       have HVO:=hid hvo;have HOWN:=hid hown;have HEL:=hid hel;have HCL:=hid hcs;have HFK:=hid (fun (h:k<FS.length)=>(show FS[k]=f fs[k] from hFk));have HNK:=hid (fun (h:k<NS.length)=>(show NS[k]=gG nm from hNk));have HKF:=hid hkF;have HKN:=hid hkN;have HWB:=hid hwB;have HCQ:=hid hcq
       clear hvo hown hel hcs hst0 hxa hvs hb hx hFk hNk hkF hkN EX hvbe hBe hwB hbel hcq hn
       have hcap1:k+1≤maxLen:=by unfold maxLen;omega
       have hcap2:(k+1) * 104≤140737488355328:=by omega
       go_upto_region 11 with (fail)
       clear e5
       have hwr:IntKind.i64.wrap (lv-1)=lv-1:=IntWalk.i64_in _ (by omega)
       refine aQ 28 (fun w'=>Below B wp w') (by kernel_rfl) (by kernel_rfl) (by kernel_rfl) (by decide) ((Below.refl _ wp).drew) (fun hS=>?_)
       simp only[zdm,zdn,zdp,zdq]
       refine tkQ 0 (v:=?_) ?_ hS ?_;rotate_left;· intro w' hw';have hcells:=HCC.out w' hw';go_simp;(try rfl)
       simp only[Act.put,pq]
       refine tkQ 1 (v:=?_) ?_ hS ?_;rotate_left;· intro w' hw';have hcells:=HCC.out w' hw';go_simp;(try rfl)
       simp only[Act.put,pq]
       refine tkQ 2 (v:=?_) ?_ hS ?_;rotate_left;· intro w' hw';have hcells:=HCC.out w' hw';go_simp;(try rfl)
       simp only[Act.put,pq]
       refine tkQ 3 (v:=?_) ?_ hS ?_;rotate_left;· intro w' hw';have hcells:=HCC.out w' hw';go_simp;(try rfl)
       simp only[Act.put,pq]
       refine tkQ 4 (v:=?_) ?_ hS ?_;rotate_left;· intro w' hw';have hcells:=HCC.out w' hw';go_simp;(try rfl)
       simp only[Act.put,pq]
       refine tkQ 5 (v:=?_) ?_ hS ?_;rotate_left;· intro w' hw';have hcells:=HCC.out w' hw';go_simp;(try rfl)
       simp only[Act.put,pq]
       refine tkQ 6 (v:=?_) ?_ hS ?_;rotate_left;· intro w' hw';have hcells:=HCC.out w' hw';go_simp;(try rfl)
       simp only[Act.put,pq]
       refine tkQ 7 (v:=?_) ?_ hS ?_;rotate_left;· intro w' hw';have hcells:=HCC.out w' hw';go_simp;(try rfl)
       simp only[Act.put,pq]
       refine tkQ 8 (v:=?_) ?_ hS ?_;rotate_left;· intro w' hw';have hcells:=HCC.out w' hw';go_simp;(try rfl)
       simp only[Act.put,pq]
       refine tkQ 9 (v:=?_) ?_ hS ?_;rotate_left;· intro w' hw';have hcells:=HCC.out w' hw';go_simp;(try rfl)
       simp only[Act.put,pq]
       refine tkQ 10 (v:=?_) ?_ hS ?_;rotate_left;· intro w' hw';have hcells:=HCC.out w' hw';go_simp;(try rfl)
       simp only[Act.put,pq]
       refine tkQ 11 (v:=?_) ?_ hS ?_;rotate_left;· intro w' hw';have hcells:=HCC.out w' hw';go_simp;(try rfl)
       simp only[Act.put,pq]
       refine tkQ 12 (v:=?_) ?_ hS ?_;rotate_left;· intro w' hw';have hcells:=HCC.out w' hw';go_simp;(try rfl)
       simp only[Act.put,pq]
       refine tkQ 13 (v:=?_) ?_ hS ?_;rotate_left;· intro w' hw';have hcells:=HCC.out w' hw';go_simp;(try rfl)
       simp only[Act.put,pq]
       refine tkQ 14 (v:=?_) ?_ hS ?_;rotate_left;· intro w' hw';have hcells:=HCC.out w' hw';go_simp;(try rfl)
       simp only[Act.put,pq]
       refine tkQ 15 (v:=?_) ?_ hS ?_;rotate_left;· intro w' hw';have hcells:=HCC.out w' hw';go_simp;(try rfl)
       simp only[Act.put,pq]
       refine tkQ 16 (v:=?_) ?_ hS ?_;rotate_left;· intro w' hw';have hcells:=HCC.out w' hw';go_simp;(try rfl)
       simp only[Act.put,pq]
       refine tkQ 17 (v:=?_) ?_ hS ?_;rotate_left;· intro w' hw';have hcells:=HCC.out w' hw';go_simp;(try rfl)
       simp only[Act.put,pq]
       refine tkQ 18 (v:=?_) ?_ hS ?_;rotate_left;· intro w' hw';have hcells:=HCC.out w' hw';go_simp;(try rfl)
       simp only[Act.put,pq]
       refine tkQ 19 (v:=?_) ?_ hS ?_;rotate_left;· intro w' hw';have hcells:=HCC.out w' hw';go_simp;(try rfl)
       simp only[Act.put,pq]
       refine tkQ 20 (v:=?_) ?_ hS ?_;rotate_left;· intro w' hw';have hcells:=HCC.out w' hw';go_simp;(try rfl)
       simp only[Act.put,pq]
       refine tkQ 21 (v:=?_) ?_ hS ?_;rotate_left;· intro w' hw';have hcells:=HCC.out w' hw';go_simp;(try rfl)
       simp only[Act.put,pq]
       refine tkQ 22 (v:=?_) ?_ hS ?_;rotate_left;· intro w' hw';have hcells:=HCC.out w' hw';go_simp;(try rfl)
       simp only[Act.put,pq]
       refine tkQ 23 (v:=?_) ?_ hS ?_;rotate_left;· intro w' hw';have hcells:=HCC.out w' hw';go_simp;(try rfl)
       simp only[Act.put,pq]
       refine ry [24] ?_
       refine arQ fun K hK=>?_
       go_simp;go_at_call 78;refine HC.out.mono ?_
       rintro e w4 ⟨c4,rfl,hb4,hi4⟩
       have HB4:=hid hb4;have HI4:=hid hi4
       refine hK.out _ _ (hS.trans (hb4.mono HWB.out)) (fun hS=>?_)
       clear hK K
       (try simp only[Act.put,pq])
       refine tkQ 25 (v:=?_) ?_ hS ?_;rotate_left;· intro w' hw';have hcells:=HCC.out w' hw';go_simp;(try rfl)
       simp only[Act.put,pq]
       refine ry [26] ?_
       refine arQ fun K hK=>?_
       go_simp
       refine hK.out _ _ (hS.alloc (by have h1:=HB4.out.size;have h2:=HWB.out;simp only[World.size_drew] at h1;omega) _) (fun hS=>?_)
       clear hK K
       (try simp only[Act.put,pq])
       refine ry [27] ?_
       refine arQ fun K hK=>?_
       refine step_append_lies _ (by rfl) _ _ _ (by rfl) wl.heap.size 208 tf _ 7 104 Tryz.underlying64 hif hzf0 hzf1 hzf2 rfl (by omega) v k (cs.flatMap FC.cs) (by rfl) ((cW HOWN.out ((Below.refl _ wp).drew.trans HB4.out)).alloc (.cells #[.string (nm.extract 0 q),.int .i64 c4.k,.int .i64 c4.i,.int .i64 c4.s,.string c4.t,.slice c4.la c4.ll c4.lc,.slice c4.fa c4.fl c4.fc] 208)) ⟨w4.heap.size,0,none⟩ 1 1 (FC.cs (nm.extract 0 q,c4)) (by rfl) (by rfl) (World.news_of_block (heap_alloc_new w4 _)) (by simp[FC.cs,VC.cs,Value.oneCell']) (by omega) hcap1 hcap2 (by have h1:=HB4.out.size;have h2:=HBP.out.size;simp only[World.size_drew] at h1;simp;omega) (w4.heap.size+1) (by simp) ?_
       intro gg cap5 w5 hown2 hgrow hat hlt2
       have HO2:=hid hown2;have HG:=hid hgrow;have HAT:=hid hat
       refine hK.out _ _ (hS.grown hgrow (by have h1:=HB4.out.size;have h2:=HWB.out;simp only[World.size_drew] at h1;simp;omega) (fun r e=>by have h1:=(HVO.out r e).1;have h2:=HBZ.out;omega)) (fun hS=>?_)
       clear hK K
       (try simp only[Act.put,pq])
       refine wpAnyH_done (by kernel_rfl) ?_ _
       (try dsimp only)
       clear hS
       clear hwr
       go_wp2
       go_roundw
       case rel =>
        have h4:=HB4.out.size
        have hpz:=HBP.out.size
        simp only[World.size_drew] at h4
        have hb4':Below wp.heap.size wp w4:=(Below.refl _ wp).drew.trans HB4.out
        have hpush:BuiltF 208 wl.heap.size w5 (.slice (some ⟨gg,0,none⟩) (k+1) cap5) (k+1) NS FS :=
         BuiltF.push (N:=wp.heap.size) (w1:=w4) (o:=(.cells #[.string (nm.extract 0 q),.int .i64 c4.k,.int .i64 c4.i,.int .i64 c4.s,.string c4.t,.slice c4.la c4.ll c4.lc,.slice c4.fa c4.fl c4.fc] 208)) (n:=nm.extract 0 q) (c:=c4) HCL.out
          (fun j hj hj' hn=>⟨(HEL.out j hj hj' hn).1,(HEL.out j hj hj' hn).2.same fun b hb=>⟨⟨hb.1,by have:=hb.2.1;omega,hb.2.2⟩,hb4'.block b hb.2.1⟩⟩) HKF.out HKN.out (by rw[HNK.out HKN.out];exact HCQ.out) (by rw[HFK.out HKF.out];exact HI4.out) hpz (fun r e=>(HVO.out r e).2) HO2.out HG.out HAT.out
        exact⟨k+1,_,rfl,HKF.out,by go_num,hpush,((HBP.out.trans (hb4'.mono hpz)).alloc (by omega) _).grown HG.out (by simp;omega) (fun r e=>(HVO.out r e).1)⟩
       case measure=>simp[intOf];have:=HKF.out;omega
      ·have hx:¬ k<FS.length:=fun h=>h3 (by have:=(jB (b:=bL) (f:=f) (l:=fs) k (by rw[←HFE.out];exact h)).2.2;rw[HBL.out] at this;exact of_decide_eq_true this)
       have HX:=hid hx
       clear hx hbu hbel
       go_wp2
       go_meet
       exact⟨EX.out HX.out,HBP.out⟩
     ·have hx:¬ k<FS.length:=fun h=>h2 (by have:=(jB (b:=bL) (f:=f) (l:=fs) k (by rw[←HFE.out];exact h)).2.1;omega)
      have HX:=hid hx
      clear hx hbu hbel
      go_wp2
      go_meet
      exact⟨EX.out HX.out,HBP.out⟩
    ·have hx:¬ k<FS.length:=fun h=>h1 (by have:=(jB (b:=bL) (f:=f) (l:=fs) k (by rw[←HFE.out];exact h)).1;have:=HF.out;omega)
     have HX:=hid hx
     clear hx hbu hbel
     go_wp2
     go_meet
     exact⟨EX.out HX.out,HBP.out⟩
  case rest =>
   obtain⟨hbu2,hbel⟩:=hcut
   obtain⟨wf,rfl⟩:∃u:World,u=wc:=⟨_,rfl⟩
   obtain⟨af,capf,rfl,hcf,haf,hvb2⟩:=hbu2.shape
   have hnf:NS.length=FS.length:=by rw[HNE.out,HFE.out];exact wQ HNS.out
   have HFLD:=hid (hbu2.flds hnf (fun n hn=>by rw[HNE.out] at hn;obtain⟨a,rfl⟩:=six_mem hn;have:=(oH a).1;omega))
   have HNF:=hid hnf;have HCF:=hid hcf;have HBF:=hid hbel
   have hvbl:vb+1<wl.heap.size:=by have:=HBZ.out;have:=HB.out;omega
   have gv:=fY hbel HGV.out (by omega:vb<wl.heap.size)
   have gz:=fY hbel HGZ.out hvbl
   have HGV2:=hid gv;have HGZ2:=hid gz
   have fv4:=aE gv 4;have fv5:=aE gv 5;have cv4:=aA gv 4;have cv5:=aA gv 5
   (try dsimp only at cv4 cv5)
   clear hbu2 hbel hcf haf hvb2 hnf hvbl gv gz
   go_upto_region 13 with (fail)
   clear fv4 fv5 cv4 cv5
   have hg1:=aD (o:=5) (.slice af FS.length capf) (aD (o:=4) (.slice al L.length capl) HGV2.out)
   simp only[List.setIfInBounds_toArray,List.set_cons_zero,List.set_cons_succ] at hg1
   have hvn:vb+1≠vb:=by omega
   have hg2:=aJ (⟨vb,5,none⟩:Addr) (.slice af FS.length capf) (aJ (⟨vb,4,none⟩:Addr) (.slice al L.length capl) HGZ2.out hvn) hvn
   have hko:∀b,b≠vb→((wf.setCell ⟨vb,4,none⟩ (.slice al L.length capl)).setCell ⟨vb,5,none⟩ (.slice af FS.length capf)).heap[b]?=wf.heap[b]?:=fun b hb=>(Below.heap_setCell _ _ _ _ (by exact hb)).trans (Below.heap_setCell _ _ _ _ (by exact hb))
   have hbw:Below vb w ((wf.setCell ⟨vb,4,none⟩ (.slice al L.length capl)).setCell ⟨vb,5,none⟩ (.slice af FS.length capf)):=((HBEL.out.trans (HBF.out.mono (by have:=HBZ.out;have:=HB.out;omega))).setCell (p:=⟨vb,4,none⟩) lr _).setCell (p:=⟨vb,5,none⟩) lr _
   have hsz:((wf.setCell ⟨vb,4,none⟩ (.slice al L.length capl)).setCell ⟨vb,5,none⟩ (.slice af FS.length capf)).heap.size=wf.heap.size:=by simp[World.setCell]
   obtain⟨W9,hW9⟩:∃W9,W9=(wf.setCell ⟨vb,4,none⟩ (.slice al L.length capl)).setCell ⟨vb,5,none⟩ (.slice af FS.length capf):=⟨_,rfl⟩
   rw[←hW9] at hg1 hg2 hko hbw hsz ⊢
   have HKO:=hid hko;have HBW:=hid hbw;have HSZ:=hid hsz;have HG1:=hid hg1;have HG2:=hid hg2
   have d0:=aA hg1 0
   have z0:=aA hg2 0
   have y0:=aE hg2 0
   have d1:=aA hg1 1
   have z1:=aA hg2 1
   have y1:=aE hg2 1
   have d2:=aA hg1 2
   have z2:=aA hg2 2
   have y2:=aE hg2 2
   have d3:=aA hg1 3
   have z3:=aA hg2 3
   have y3:=aE hg2 3
   have d4:=aA hg1 4
   have z4:=aA hg2 4
   have y4:=aE hg2 4
   have d5:=aA hg1 5
   have z5:=aA hg2 5
   have y5:=aE hg2 5
   (try dsimp only at d0 z0 d1 z1 d2 z2 d3 z3 d4 z4 d5 z5)
   clear hW9 hko hbw hsz hg1 hg2
   go_wp2
   clear d0 z0 y0 d1 z1 y1 d2 z2 y2 d3 z3 y3 d4 z4 y4 d5 z5 y5
   have hF:=(aD (o:=5) (.slice af FS.length capf) (aD (o:=4) (.slice al L.length capl) (aD (o:=3) (.string tc) (aD (o:=2) (.int .i64 s0) (aD (o:=1) (.int .i64 i0) (aD (o:=0) (.int .i64 k0) HG2.out))))))
   simp only[List.setIfInBounds_toArray,List.set_cons_zero,List.set_cons_succ] at hF
   have hO:∀b,b≠vb+1→((((((W9.setCell ⟨vb+1,0,none⟩ (.int .i64 k0)).setCell ⟨vb+1,1,none⟩ (.int .i64 i0)).setCell ⟨vb+1,2,none⟩ (.int .i64 s0)).setCell ⟨vb+1,3,none⟩ (.string tc)).setCell ⟨vb+1,4,none⟩ (.slice al L.length capl)).setCell ⟨vb+1,5,none⟩ (.slice af FS.length capf)).heap[b]?=W9.heap[b]?:=(fun b hb=>(Below.heap_setCell _ _ _ _ (by exact hb)).trans ((Below.heap_setCell _ _ _ _ (by exact hb)).trans ((Below.heap_setCell _ _ _ _ (by exact hb)).trans ((Below.heap_setCell _ _ _ _ (by exact hb)).trans ((Below.heap_setCell _ _ _ _ (by exact hb)).trans (Below.heap_setCell _ _ _ _ (by exact hb)))))))
   have hB9:Below vb w ((((((W9.setCell ⟨vb+1,0,none⟩ (.int .i64 k0)).setCell ⟨vb+1,1,none⟩ (.int .i64 i0)).setCell ⟨vb+1,2,none⟩ (.int .i64 s0)).setCell ⟨vb+1,3,none⟩ (.string tc)).setCell ⟨vb+1,4,none⟩ (.slice al L.length capl)).setCell ⟨vb+1,5,none⟩ (.slice af FS.length capf)):=((((((HBW.out.setCell (p:=⟨vb+1,0,none⟩) (Nat.le_succ _) _).setCell (p:=⟨vb+1,1,none⟩) (Nat.le_succ _) _).setCell (p:=⟨vb+1,2,none⟩) (Nat.le_succ _) _).setCell (p:=⟨vb+1,3,none⟩) (Nat.le_succ _) _).setCell (p:=⟨vb+1,4,none⟩) (Nat.le_succ _) _).setCell (p:=⟨vb+1,5,none⟩) (Nat.le_succ _) _)
   have hZ9:((((((W9.setCell ⟨vb+1,0,none⟩ (.int .i64 k0)).setCell ⟨vb+1,1,none⟩ (.int .i64 i0)).setCell ⟨vb+1,2,none⟩ (.int .i64 s0)).setCell ⟨vb+1,3,none⟩ (.string tc)).setCell ⟨vb+1,4,none⟩ (.slice al L.length capl)).setCell ⟨vb+1,5,none⟩ (.slice af FS.length capf)).heap.size=W9.heap.size:=by simp[World.setCell]
   obtain⟨Wf,hWf⟩:∃Wf,Wf=((((((W9.setCell ⟨vb+1,0,none⟩ (.int .i64 k0)).setCell ⟨vb+1,1,none⟩ (.int .i64 i0)).setCell ⟨vb+1,2,none⟩ (.int .i64 s0)).setCell ⟨vb+1,3,none⟩ (.string tc)).setCell ⟨vb+1,4,none⟩ (.slice al L.length capl)).setCell ⟨vb+1,5,none⟩ (.slice af FS.length capf)):=⟨_,rfl⟩
   rw[←hWf] at hF hO hB9 hZ9 ⊢
   clear hWf
   have hBv:=HB.out
   have hBz:=HBZ.out
   have hfz:=HBF.out.size
   have hwz:=HVB.out
   have hsw:=HSZ.out
   have hK:∀b,B≤b→Wf.heap[b]?=wf.heap[b]?:=fun b hb=>(hO b (by omega)).trans (HKO.out b (by omega))
   have hL6:L.length≤6:=by rw[HLE.out];exact yT _ _ _
   have hF6:FS.length≤6:=by rw[HFE.out];exact yT _ _ _
   have htc:=(oH t0).1
   rw[←HTC.out] at htc
   rw[hwz] at hB9
   refine bodyPost_ret (v:=VC.v ⟨k0,i0,s0,tc,al,L.length,capl,af,FS.length,capf⟩) (by simp[results,Tryz.results78,go_sem,aA hF]) rfl ⟨_,rfl,hB9,⟨⟨rfl,rfl,rfl,rfl,⟨HOK.out.k,HOK.out.i,HOK.out.s,by dsimp only;omega,by dsimp only;omega,by dsimp only;omega,HCLP.out,HCF.out⟩,rfl,rfl,HNF.out⟩,?_,?_⟩⟩
   ·rcases HVALS.out with h0 | ⟨b,o,rfl,hb,hvv⟩
    ·exact .inl h0
    ·exact .inr ⟨b,o,rfl,⟨by omega,by omega⟩,hvv.same (fun b hb=>⟨⟨by omega,by omega⟩,(hK b hb.1).trans (HBF.out.block b hb.2)⟩) ((hK b hb.1).trans (HBF.out.block b hb.2))⟩
   ·rcases HFLD.out with h0 | ⟨b,o,rfl,hb,hvv⟩
    ·exact .inl h0
    ·exact .inr ⟨b,o,rfl,⟨by omega,by omega⟩,hvv.same (fun b hb=>⟨⟨by omega,by omega⟩,hK b (by omega)⟩) (hK b (by omega))⟩
def shV:Nat→Val→Val
 | 0,.mk k i s t l ns fs=>.mk k i s (gG t) [] [] []
 | n+1,.mk k i s t l ns fs=>.mk k i s (gG t) ((l.take 6).map (shV n)) ((ns.take 6).map gG) ((fs.take 6).map (shV n))
theorem eU:∀(n:Nat),n≤9→∀(d:Val) (c:VC) (w:World),IsVal (· < w.heap.size) w c d→Calls Tryz.prog 78 #[c.v,.int .i64 ((n:Int)+1)] w (dW w (shV n d))
 | 0,_,.mk k i s t l ns fs,⟨k0,i0,s0,t0,la,ll,lc,fa,fl,fc⟩,w,hd=>by
   obtain⟨rfl,rfl,rfl,rfl,_⟩:=hd.1
   have h:=mZ 1 (by omega) id (fun h=>absurd h (by omega)) _ _ _ _ la ll lc fa fl fc l ns fs w hd
   rw[show decide ((1:Int)<1)=false by decide] at h
   exact h
 | n+1,hn,.mk k i s t l ns fs,⟨k0,i0,s0,t0,la,ll,lc,fa,fl,fc⟩,w,hd=>by
   obtain⟨rfl,rfl,rfl,rfl,_⟩:=hd.1
   have h:=mZ (((n+1:Nat):Int)+1) (by omega) (shV n) (fun _ d c w hd=>by
    rw[show((n+1:Nat):Int)+1-1=(n:Int)+1 by omega]
    exact eU n (by omega) d c w hd) _ _ _ _ la ll lc fa fl fc l ns fs w hd
   rw[show decide ((1:Int)<((n+1:Nat):Int)+1)=true by rw[decide_eq_true_eq];omega] at h
   exact h
end Go.Proofs.YteladbdfiannjaaGreatDoor
