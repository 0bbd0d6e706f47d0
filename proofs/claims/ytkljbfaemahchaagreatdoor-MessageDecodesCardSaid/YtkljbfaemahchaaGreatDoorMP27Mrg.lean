/-
  The reader's readNumber: what ParLaw's rdNum says. Conditions: the reader's block holds its cells; the text's length fits; Tabs, NumVars.
-/
import Derived.Test.YtkljbfaemahchaaGreatDoorMP25Mrg
import Derived.Test.YtkljbfaemahchaaGreatDoorMP26Mrg
import Derived.Test.YtkljbfaemahchaaGreatDoorMP13Mrg
import Derived.Deep.DeepCutAuto
namespace Go.Proofs.YtkljbfaemahchaaGreatDoor
set_option linter.unusedVariables false
set_option linter.unusedSimpArgs false
section
open Go Go.RowKit Go.Shelf
attribute [local go_sem] putC_setCell putC_cell putC_cell_ne putC_frozen putC_frozen_ne size_putC
def TB (w : World) (b : Nat) : Prop:=∃ w0,Tabs w0 ∧ NumVars w0 ∧ Below w0.heap.size w0 w ∧ w0.heap.size ≤ b
theorem TB.tabs {w : World} {b : Nat} (h : TB w b) : Tabs w:=by
 obtain ⟨w0,h1,_,h2,_⟩:=h
 exact h1.below h2
theorem TB.nums {w : World} {b : Nat} (h : TB w b) : NumVars w:=by
 obtain ⟨w0,_,h1,h2,_⟩:=h
 exact h1.below h2
theorem TB.grown {w w' : World} {b : Nat} {row : Option Nat} (h : TB w b) (hg : w.grownBy w' row) (hr : row = none ∨ row = some b) : TB w' b:=by
 obtain ⟨w0,h1,h2,h3,h4⟩:=h
 refine ⟨w0,h1,h2,⟨hg.os.trans h3.os,hg.tape.trans h3.tape,hg.output.trans h3.output,Nat.le_trans h3.size hg.size,fun i hi => ?_⟩,h4⟩
 rw [hg.block i (Nat.lt_of_lt_of_le hi h3.size) (by rcases hr with rfl | rfl <;> (intro e; cases e)  <;> omega)]
 exact h3.block i hi
theorem TB.below {w w' : World} {b : Nat} (h : TB w b) (hb : Below w.heap.size w w') : TB w' b:=h.grown (grownOf hb none) (.inl rfl)
set_option maxRecDepth 100000 in
set_option maxHeartbeats 8000000 in
theorem readNumber_call (b : Nat) (s : ByteArray) (r : Rd) (at_ : Nat) (w : World) (h : IsRd w b s r) (hat : at_ < s.size) (hs : s.size ≤ 100000) (hdx : r.d = false ∧ r.x = false) (hTB : TB w b) :
 Calls Tryz.prog 304 #[.pointer (some ⟨b,0,none⟩),.int .i64 at_] w fun x w' => x = .returned (.tuple #[]) ∧ IsRd w' b s (rdNum s.data.toList s at_ r) ∧ w.grownBy w' (some b):=by
 have hln : s.data.toList.length = s.size:=rfl
 have HR:=hid h
 have HTB:=hid hTB
 have HDX:=hid hdx
 have HOK:=hid h.ok
 clear hTB hdx
 obtain ⟨W,hW,hw⟩:=h.put
 have HW:=hid hw
 have hat' : (at_ : Int) < (s.size : Int):=by omega
 have hat0 : (0 : Int) ≤ (at_ : Int):=by omega
 have hg0:=strGet s at_ hat
 obtain ⟨m,hm⟩ : ∃ m : Bool,m = decide (s[at_].toNat = 45):=⟨_,rfl⟩
 obtain ⟨f,hf⟩ : ∃ f,f = if s.data.toList[at_]? = some 45 then at_ + 1 else at_:=⟨_,rfl⟩
 have hfm : f = if m = true then at_ + 1 else at_:=by
  rw [hf,hg0,hm]
  have : (some s[at_] = some (45 : UInt8)) ↔ (decide (s[at_].toNat = 45) = true):=by
   rw [decide_eq_true_eq,Option.some.injEq]
   exact ⟨fun e => by rw [e]; rfl,fun e => UInt8.toNat_inj.1 e⟩
  simp only [this]
 have hfz : f ≤ s.size:=by rw [hfm]; split <;> omega
 have hm45 : ((s[at_].toNat : Int) == 45) = m:=by rw [hm,Bool.eq_iff_iff]; simp; omega
 have HRD:=hid (fun (w' : World) (h' : w' = w) => run_digit b s r f w' (h' ▸ HR.out) hfz (by omega))
 obtain ⟨tq,htq⟩ : ∃ tq,tq = runI s.data.toList f digC:=⟨_,rfl⟩
 have htqf : f ≤ tq:=htq ▸ runI_ge _ _ _
 have htqz : tq ≤ s.size:=htq ▸ runI_le _ _ _ hfz
 rw [← htq] at HRD
 have HF:=hid hf
 have HFM:=hid hfm
 have HTQ:=hid htq
 clear hf hfm htq hg0 hm h
 subst hw
 go_enter Tryz.func304,Tryz.ntmps304
 go_upto_if 15 with (fail)
 go_cut [4] (fun v wz => v = .int .i64 f ∧ wz = (putC W b (rdA s r.nx r.k r.p r.t r.b r.n r.sc r.d r.x r.e r.o)))
 case first =>
  cases m
  ·have e1 : f = at_:=HFM.out
   go_wp2
   go_meet
   exact ⟨by rw [e1],rfl⟩
  ·have e1 : f = at_ + 1:=HFM.out
   go_wp2
   go_meet
   exact ⟨by rw [e1]; go_num,rfl⟩
 case rest =>
 obtain ⟨rfl,hwc⟩:=hcut
 obtain ⟨wb,hwb⟩ : ∃ u,u = wc:=⟨_,rfl⟩
 rw [← hwb] at hwc ⊢
 clear hwb
 subst hwc
 have HRD:=hid (HRD.out _ rfl)
 clear hm45 HFM
 by_cases heq : tq = f
 ·have heq' : ((tq : Int) == (f : Int)) = true:=by simp; omega
  have HFL:=hid (fail_call b s r at_ 13 _ HR.out)
  have HEQ:=hid heq
  clear heq
  go_wp2_with (first
   | (go_at_call 214; refine HFL.out.mono ?_; rintro e w2 ⟨rfl,h2,hg2⟩; have H2R:=hid h2; have HG2:=hid hg2; clear h2 hg2)
   | (go_at_call 296; refine HRD.out.mono ?_; rintro e w2 ⟨rfl,rfl⟩))
  refine bodyPost_ret (results_none rfl _ _ _) rfl ?_
  refine ⟨rfl,?_,HG2.out⟩
  unfold rdNum
  dsimp only
  rw [← HF.out,← HTQ.out,if_pos HEQ.out]
  exact H2R.out
 have heq' : ((tq : Int) == (f : Int)) = false:=by simp; omega
 have HNE:=hid heq
 clear heq
 obtain ⟨dot,hdot⟩ : ∃ dot : Bool,dot = decide (s.data.toList[tq]? = some 46 ∧ (s.data.toList[tq + 1]?.any digC) = true):=⟨_,rfl⟩
 have HDOT:=hid hdot
 clear hdot
 go_upto_region 7 with (go_at_call 296; refine HRD.out.mono ?_; rintro e w2 ⟨rfl,rfl⟩)
 go_cut [57] (fun v wz => v = .bool dot ∧ wz = (putC W b (rdA s (tq : Int) r.k r.p r.t r.b r.n r.sc r.d r.x r.e r.o)))
 case first =>
  have hdd:=HDOT.out
  by_cases h1 : tq + 1 < s.size
  ·have h1' : (tq : Int) + 1 < (s.size : Int):=by omega
   have h2' : (tq : Int) < (s.size : Int):=by omega
   have h0' : (0 : Int) ≤ (tq : Int):=by omega
   have h01 : (0 : Int) ≤ (tq : Int) + 1:=by omega
   have g1:=strGet s tq (by omega)
   have g2:=strGet s (tq + 1) h1
   rw [g1,g2] at hdd
   by_cases h46 : s[tq].toNat = 46
   ·have q46 : ((s[tq].toNat : Int) == 46) = true:=by simp; omega
    have hde : dot = digC s[tq + 1]:=by
     rw [hdd]
     have : (some s[tq] = some (46 : UInt8)):=by rw [Option.some.injEq]; exact UInt8.toNat_inj.1 h46
     simp [this]
    have HDC:=hid (fun w' => digit_call s[tq + 1] w')
    rw [← hde] at HDC
    clear hdd hde h46 g1 g2
    go_wp2_with (go_at_call 303; refine (HDC.out _).mono ?_; rintro e w2 ⟨rfl,hw2⟩; obtain rfl:=hw2.symm)
    go_meet
    exact ⟨rfl,rfl⟩
   ·have q46 : ((s[tq].toNat : Int) == 46) = false:=by simp; omega
    have hde : dot = false:=by
     rw [hdd]
     have : ¬ (some s[tq] = some (46 : UInt8)):=by rw [Option.some.injEq]; exact fun e => h46 (by rw [e]; rfl)
     simp [this]
    clear hdd g1 g2
    go_wp2
    go_meet
    exact ⟨by rw [hde],rfl⟩
  ·have h1' : ¬ (tq : Int) + 1 < (s.size : Int):=by omega
   have hde : dot = false:=by
    rw [hdd,List.getElem?_eq_none (i:=tq + 1) (by omega)]
    simp
   clear hdd
   go_wp2
   go_meet
   exact ⟨by rw [hde],rfl⟩
 case rest =>
 obtain ⟨rfl,hwc⟩:=hcut
 obtain ⟨wb,hwb⟩ : ∃ u,u = wc:=⟨_,rfl⟩
 rw [← hwb] at hwc ⊢
 clear hwb
 subst hwc
 have hr1 : IsRd (putC W b (rdA s (tq : Int) r.k r.p r.t r.b r.n r.sc r.d r.x r.e r.o)) b s { r with nx:=tq }:=isRd_put W b s { r with nx:=tq } hW ⟨HOK.out.t0,htqz,HOK.out.p⟩ _ rfl
 have HR1:=hid hr1
 have HTZ:=hid htqz
 clear hr1 HRD
 obtain ⟨q1,q2,q3,hq⟩ : ∃ (q1 : Nat) (q2 q3 : Bool),(q1,q2,q3) = if dot = true then (runI s.data.toList (tq + 1) digC,true,false) else if s.data.toList[tq]? = some 100 then (tq + 1,true,true) else (tq,false,false):=⟨_,_,_,rfl⟩
 have HQ:=hid hq
 have hq1z : q1 ≤ s.size:=by
  cases dot
  ·rw [if_neg (by decide)] at hq
   split at hq
   ·rename_i h
    cases hq
    obtain ⟨h1,_⟩:=List.getElem?_eq_some_iff.1 h
    exact h1
   ·cases hq; exact htqz
  ·rw [if_pos rfl] at hq
   cases hq
   have hd:=HDOT.out.symm
   rw [decide_eq_true_eq] at hd
   have h2 : tq + 1 < s.data.toList.length:=by
    rcases Nat.lt_or_ge (tq + 1) s.data.toList.length with h | h
    ·exact h
    ·rw [List.getElem?_eq_none h] at hd; exact absurd hd.2 (by simp)
   exact runI_le _ _ _ (by omega)
 clear hq
 go_upto_if 57 with (fail)
 go_cut [] (fun wz => wz = putC W b (rdA s q1 r.k r.p r.t r.b r.n r.sc q2 q3 r.e r.o))
 case first =>
  have hd1 : r.d = false:=HDX.out.1
  have hx1 : r.x = false:=HDX.out.2
  cases dot
  ·have hq:=HQ.out
   rw [if_neg (by decide)] at hq
   by_cases hlt : tq < s.size
   ·have h2' : (tq : Int) < (s.size : Int):=by omega
    have h0' : (0 : Int) ≤ (tq : Int):=by omega
    have g1:=strGet s tq hlt
    rw [g1] at hq
    by_cases h100 : s[tq].toNat = 100
    ·have q100 : ((s[tq].toNat : Int) == 100) = true:=by simp; omega
     have : (some s[tq] = some (100 : UInt8)):=by rw [Option.some.injEq]; exact UInt8.toNat_inj.1 h100
     rw [if_pos this] at hq
     clear this h100 g1
     have HQQ:=hid hq
     clear hq hd1 hx1
     go_wp2
     go_meet
     have hq:=HQQ.out
     cases hq
     rfl
    ·have q100 : ((s[tq].toNat : Int) == 100) = false:=by simp; omega
     have : ¬ (some s[tq] = some (100 : UInt8)):=by rw [Option.some.injEq]; exact fun e => h100 (by rw [e]; rfl)
     rw [if_neg this] at hq
     clear this g1
     have HQQ:=hid hq
     clear hq
     have HD1:=hid hd1
     have HX1:=hid hx1
     clear hd1 hx1
     go_wp2
     go_meet
     have hq:=HQQ.out
     cases hq
     rw [HD1.out,HX1.out]
   ·have h2' : ¬ (tq : Int) < (s.size : Int):=by omega
    rw [List.getElem?_eq_none (i:=tq) (by omega),if_neg (by simp)] at hq
    have HQQ:=hid hq
    clear hq
    have HD1:=hid hd1
    have HX1:=hid hx1
    clear hd1 hx1
    go_wp2
    go_meet
    have hq:=HQQ.out
    cases hq
    rw [HD1.out,HX1.out]
  ·have hq:=HQ.out
   rw [if_pos rfl] at hq
   have hd:=HDOT.out.symm
   rw [decide_eq_true_eq] at hd
   have h2 : tq + 1 ≤ s.size:=by
    rcases Nat.lt_or_ge (tq + 1) s.data.toList.length with h | h
    ·omega
    ·rw [List.getElem?_eq_none h] at hd; exact absurd hd.2 (by simp)
   have hrr:=run_digit b s _ (tq + 1) _ HR1.out h2 (by omega)
   rw [show runI s.data.toList (tq + 1) digC = q1 by cases hq; rfl] at hrr
   have hqq : q2 = true ∧ q3 = false:=by cases hq; exact ⟨rfl,rfl⟩
   have HRR:=hid hrr
   have HQQ:=hid hqq
   have HX1:=hid hx1
   clear hq hd hrr hqq hd1 hx1
   go_wp2_with (go_at_call 296; refine HRR.out.mono ?_; rintro e w2 ⟨rfl,rfl⟩)
   go_meet
   rw [HQQ.out.1,HQQ.out.2,HX1.out]
 case rest =>
 obtain ⟨wR,hwR⟩ : ∃ u,u = wc:=⟨_,rfl⟩
 rw [← hwR] at hcut ⊢
 clear hwR
 have HRR:=hid (show IsRd wR b s { r with nx:=q1,d:=q2,x:=q3 } from hcut ▸ isRd_put W b s { r with nx:=q1,d:=q2,x:=q3 } hW ⟨HOK.out.t0,hq1z,HOK.out.p⟩ _ rfl)
 have HGR:=hid (show ((putC W b (rdA s r.nx r.k r.p r.t r.b r.n r.sc r.d r.x r.e r.o))).grownBy wR (some b) from hcut ▸ putC_grown _ _ _ _)
 have hq1g : tq ≤ q1:=by
  have hq:=HQ.out
  cases dot
  ·rw [if_neg (by decide)] at hq
   split at hq <;> (cases hq; omega)
  ·rw [if_pos rfl] at hq
   cases hq
   have:=runI_ge s.data.toList (tq + 1) digC
   omega
 have hfat : at_ ≤ f:=by rw [HF.out]; split <;> omega
 have HQS:=hid (show (q1,q2,q3) = if s.data.toList[tq]? = some 46 ∧ (s.data.toList[tq + 1]?.any digC) = true then (runI s.data.toList (tq + 1) digC,true,false) else if s.data.toList[tq]? = some 100 then (tq + 1,true,true) else (tq,false,false) by
  rw [HQ.out,HDOT.out]; simp only [decide_eq_true_eq])
 clear hcut HQ HDOT HR1 HTZ
 have HGB:=hid (show b < wR.heap.size from HRR.out.lt)
 have HC:=hid (fun (w' : World) (h : Below wR.heap.size wR w') => (show w'.cell? ⟨b,0,none⟩ = some (.string s) ∧ w'.cell? ⟨b,1,none⟩ = some (.int .i64 q1) from ⟨cellOf ((h.block b HGB.out).trans HRR.out.at_) 0,cellOf ((h.block b HGB.out).trans HRR.out.at_) 1⟩))
 have hs1 : (at_ : Int) ≤ (q1 : Int):=by omega
 have hs2 : (q1 : Int) ≤ (s.size : Int):=by omega
 have hs0 : (0 : Int) ≤ (q1 : Int):=by omega
 obtain ⟨tx,htx⟩ : ∃ tx,tx = s.extract at_ q1:=⟨_,rfl⟩
 have htxz : tx.size ≤ s.size:=by rw [htx,ByteArray.size_extract]; omega
 have hts:=fun w' => Tryz.strings_TrimSuffix tx ⟨#[100]⟩ w' (by omega)
 rw [show (⟨#[100]⟩ : ByteArray).data.toList = [100] from rfl] at hts
 obtain ⟨st,hst⟩ : ∃ st : ByteArray,st = ⟨(Lib.trimSuffix tx.data.toList [100]).toArray⟩:=⟨_,rfl⟩
 have hstz : st.size ≤ s.size:=by
  rw [hst,bSize]
  have h1 : tx.data.toList.length = tx.size:=rfl
  unfold Lib.trimSuffix
  split
  ·rw [List.length_take]; omega
  ·omega
 rw [← hst] at hts
 obtain ⟨z1,z2,z3,hz⟩ : ∃ (z1 : Int) (z2 : Nat) (z3 : Int),(z1,z2,z3) = decP st.data.toList:=⟨_,_,_,rfl⟩
 have hdp:=fun (w' : World) (h : Below wR.heap.size wR w') => decP_call st (by omega) w' ((HTB.out.grown HGR.out (.inr rfl)).below h).tabs ((HTB.out.grown HGR.out (.inr rfl)).below h).nums
 rw [← hz] at hdp
 dsimp only at hdp
 have HZS:=hid (show (z1,z2,z3) = decP (Lib.trimSuffix (s.extract at_ q1).data.toList [100]) by rw [hz,hst,htx])
 have HTS:=hid hts
 have HDP:=hid hdp
 have HTX:=hid htx
 have htx2:=htx.symm
 have hqe:=HQS.out
 clear hz hst hts hdp htxz hstz htx hqe hfat hq1g htqf htqz hfz hq1z
 go_upto_region 13 with (fail)
 go_cut [6,7] (fun pv ev wz => ∃ N : Nat,pv = .pointer (some ⟨N,0,none⟩) ∧ ev = .int .i64 z3 ∧ wR.heap.size ≤ N ∧ wz.heap[N]? = some (.cells #[.int .i64 z1,.int .i64 (z2 : Int)] 201) ∧ Below wR.heap.size wR wz)
 case first =>
  refine wp_region_held_drew (S:=(fun w' => Below wR.heap.size wR w')) (by kernel_rfl) ((Below.refl _ _).drew) (fun hS => ?_)
  refine tkQ 0 (v:=?_) ?_ hS ?_; rotate_left; · intro w' hw'; have hcells:=HC.out w' hw'; go_simp; (try with_reducible rfl)
  simp only [Act.put,pt1,pt2,pt3,pt4,pt5,pt6]
  refine tkQ 1 (v:=?_) ?_ hS ?_; rotate_left; · intro w' hw'; have hcells:=HC.out w' hw'; go_simp; (try with_reducible rfl)
  simp only [Act.put,pt1,pt2,pt3,pt4,pt5,pt6]
  refine tkQ 2 (v:=?_) ?_ hS ?_; rotate_left; · intro w' hw'; have hcells:=HC.out w' hw'; go_simp; (try with_reducible rfl)
  simp only [Act.put,pt1,pt2,pt3,pt4,pt5,pt6]
  refine tkQ 3 (v:=?_) ?_ hS ?_; rotate_left; · intro w' hw'; have hcells:=HC.out w' hw'; go_simp; (try with_reducible rfl)
  simp only [Act.put,pt1,pt2,pt3,pt4,pt5,pt6]
  refine tkQ 4 (v:=?_) ?_ hS ?_; rotate_left; · intro w' hw'; have hcells:=HC.out w' hw'; go_simp; (try with_reducible rfl)
  simp only [Act.put,pt1,pt2,pt3,pt4,pt5,pt6]
  refine tkQ 5 (v:=?_) ?_ hS ?_; rotate_left; · intro w' hw'; have hcells:=HC.out w' hw'; go_simp; (try with_reducible rfl)
  simp only [Act.put,pt1,pt2,pt3,pt4,pt5,pt6]
  refine tkQ 6 (v:=?_) ?_ hS ?_; rotate_left; · intro w' hw'; have hcells:=HC.out w' hw'; go_simp; (try with_reducible rfl)
  simp only [Act.put,pt1,pt2,pt3,pt4,pt5,pt6]
  refine tkQ 7 (v:=?_) ?_ hS ?_; rotate_left; · intro w' hw'; have hcells:=HC.out w' hw'; go_simp; (try with_reducible rfl)
  simp only [Act.put,pt1,pt2,pt3,pt4,pt5,pt6]
  refine tkQ 8 (v:=?_) ?_ hS ?_; rotate_left; · intro w' hw'; have hcells:=HC.out w' hw'; go_simp; (try with_reducible rfl)
  simp only [Act.put,pt1,pt2,pt3,pt4,pt5,pt6]
  refine tkQ 9 (v:=?_) ?_ hS ?_; rotate_left; · intro w' hw'; have hcells:=HC.out w' hw'; go_simp; (try with_reducible rfl)
  simp only [Act.put,pt1,pt2,pt3,pt4,pt5,pt6]
  refine wpAnyH_ready (rs:=[10,15]) (by kernel_rfl) (by simp) ?_
  refine AllReadyH.cons (o:=_) rfl (fun K hK => ?_) ?_
  ·go_simp; go_at_call 171; refine (HTS.out _).mono ?_
   rintro e w1 ⟨rfl,hw1⟩
   obtain rfl:=hw1.symm
   refine hK.out _ _ (hS) (fun hS => ?_)
   clear hK K
   (try simp only [Act.put,pt1,pt2,pt3,pt4,pt5,pt6])
   refine wpAnyH_ready (rs:=[11,15]) (by kernel_rfl) (by simp) ?_
   refine AllReadyH.cons (o:=_) rfl (fun K hK => ?_) ?_
   ·go_simp; go_at_call 347; refine (HDP.out _ hS).mono ?_
    rintro e w2 ⟨rfl,hb2⟩
    refine hK.out _ _ (hS.trans (hb2.mono hS.size)) (fun hS => ?_)
    clear hK K
    (try simp only [Act.put,pt1,pt2,pt3,pt4,pt5,pt6])
    refine tkQ 12 (v:=?_) ?_ hS ?_; rotate_left; · intro w' hw'; have hcells:=HC.out w' hw'; go_simp; (try with_reducible rfl)
    simp only [Act.put,pt1,pt2,pt3,pt4,pt5,pt6]
    refine tkQ 13 (v:=?_) ?_ hS ?_; rotate_left; · intro w' hw'; have hcells:=HC.out w' hw'; go_simp; (try with_reducible rfl)
    simp only [Act.put,pt1,pt2,pt3,pt4,pt5,pt6]
    refine tkQ 14 (v:=?_) ?_ hS ?_; rotate_left; · intro w' hw'; have hcells:=HC.out w' hw'; go_simp; (try with_reducible rfl)
    simp only [Act.put,pt1,pt2,pt3,pt4,pt5,pt6]
    refine wpAnyH_ready (rs:=[15]) (by kernel_rfl) (by simp) ?_
    refine arQ fun K hK => ?_
    go_simp
    refine hK.out _ _ (hS.trans (((Below.refl _ _).alloc (Nat.le_refl _) _).mono hS.size)) (fun hS => ?_)
    clear hK K
    (try simp only [Act.put,pt1,pt2,pt3,pt4,pt5,pt6])
    refine wpAnyH_ready (rs:=[16]) (by kernel_rfl) (by simp) ?_
    refine arQ fun K hK => ?_
    go_simp
    refine hK.out _ _ (((Below.refl wR.heap.size wR).drew).trans (hb2.alloc hb2.size _)) (fun hS => ?_)
    clear hK K
    (try simp only [Act.put,pt1,pt2,pt3,pt4,pt5,pt6])
    refine tkQ 17 (v:=?_) ?_ hS ?_; rotate_left; · intro w' hw'; have hcells:=HC.out w' hw'; go_simp; (try with_reducible rfl)
    simp only [Act.put,pt1,pt2,pt3,pt4,pt5,pt6]
    refine wpAnyH_done (by kernel_rfl) ?_ _
    (try dsimp only)
    have HS2:=hid hS
    clear hS
    go_wp2
    go_meet
    refine ⟨_,rfl,rfl,hb2.size,heap_alloc_new _ _,HS2.out⟩
   refine arQ fun K hK => ?_
   go_simp
   refine hK.out _ _ (hS.trans (((Below.refl _ _).alloc (Nat.le_refl _) _).mono hS.size)) (fun hS => ?_)
   clear hK K
   (try simp only [Act.put,pt1,pt2,pt3,pt4,pt5,pt6])
   refine wpAnyH_ready (rs:=[11]) (by kernel_rfl) (by simp) ?_
   refine arQ fun K hK => ?_
   go_simp; go_at_call 347; refine (HDP.out _ hS).mono ?_
   rintro e w2 ⟨rfl,hb2⟩
   refine hK.out _ _ (hS.trans (hb2.mono hS.size)) (fun hS => ?_)
   clear hK K
   (try simp only [Act.put,pt1,pt2,pt3,pt4,pt5,pt6])
   refine tkQ 12 (v:=?_) ?_ hS ?_; rotate_left; · intro w' hw'; have hcells:=HC.out w' hw'; go_simp; (try with_reducible rfl)
   simp only [Act.put,pt1,pt2,pt3,pt4,pt5,pt6]
   refine tkQ 13 (v:=?_) ?_ hS ?_; rotate_left; · intro w' hw'; have hcells:=HC.out w' hw'; go_simp; (try with_reducible rfl)
   simp only [Act.put,pt1,pt2,pt3,pt4,pt5,pt6]
   refine tkQ 14 (v:=?_) ?_ hS ?_; rotate_left; · intro w' hw'; have hcells:=HC.out w' hw'; go_simp; (try with_reducible rfl)
   simp only [Act.put,pt1,pt2,pt3,pt4,pt5,pt6]
   refine wpAnyH_ready (rs:=[16]) (by kernel_rfl) (by simp) ?_
   refine arQ fun K hK => ?_
   have hB : w2.heap[wR.heap.size]? = some (.cells #[.int .i64 0,.int .i64 0] 201):=heapExt hb2 (heap_alloc_new wR.drew _)
   have z0:=cellOf hB 0
   have z1':=cellOf hB 1
   have y0:=freeOf hB 0
   have y1:=freeOf hB 1
   (try dsimp only at z0 z1')
   have HB:=hid hB
   clear hB
   go_simp
   refine hK.out _ _ ((hS.setCell (p:=⟨wR.heap.size,0,none⟩) (Nat.le_refl _) _).setCell (p:=⟨wR.heap.size,1,none⟩) (Nat.le_refl _) _) (fun hS => ?_)
   clear hK K
   (try simp only [Act.put,pt1,pt2,pt3,pt4,pt5,pt6])
   refine tkQ 17 (v:=?_) ?_ hS ?_; rotate_left; · intro w' hw'; have hcells:=HC.out w' hw'; go_simp; (try with_reducible rfl)
   simp only [Act.put,pt1,pt2,pt3,pt4,pt5,pt6]
   refine wpAnyH_done (by kernel_rfl) ?_ _
   (try dsimp only)
   have HS2:=hid hS
   clear hS
   go_wp2
   go_meet
   exact ⟨_,rfl,rfl,Nat.le_refl _,heapSet (o:=1) (Value.int .i64 (z2 : Int)) (heapSet (o:=0) (Value.int .i64 z1) HB.out),HS2.out⟩
  refine arQ fun K hK => ?_
  go_simp
  refine hK.out _ _ (hS.trans (((Below.refl _ _).alloc (Nat.le_refl _) _).mono hS.size)) (fun hS => ?_)
  clear hK K
  (try simp only [Act.put,pt1,pt2,pt3,pt4,pt5,pt6])
  refine wpAnyH_ready (rs:=[10]) (by kernel_rfl) (by simp) ?_
  refine arQ fun K hK => ?_
  go_simp; go_at_call 171; refine (HTS.out _).mono ?_
  rintro e w1 ⟨rfl,hw1⟩
  obtain rfl:=hw1.symm
  refine hK.out _ _ (hS) (fun hS => ?_)
  clear hK K
  (try simp only [Act.put,pt1,pt2,pt3,pt4,pt5,pt6])
  refine wpAnyH_ready (rs:=[11]) (by kernel_rfl) (by simp) ?_
  refine arQ fun K hK => ?_
  go_simp; go_at_call 347; refine (HDP.out _ hS).mono ?_
  rintro e w2 ⟨rfl,hb2⟩
  refine hK.out _ _ (hS.trans (hb2.mono hS.size)) (fun hS => ?_)
  clear hK K
  (try simp only [Act.put,pt1,pt2,pt3,pt4,pt5,pt6])
  refine tkQ 12 (v:=?_) ?_ hS ?_; rotate_left; · intro w' hw'; have hcells:=HC.out w' hw'; go_simp; (try with_reducible rfl)
  simp only [Act.put,pt1,pt2,pt3,pt4,pt5,pt6]
  refine tkQ 13 (v:=?_) ?_ hS ?_; rotate_left; · intro w' hw'; have hcells:=HC.out w' hw'; go_simp; (try with_reducible rfl)
  simp only [Act.put,pt1,pt2,pt3,pt4,pt5,pt6]
  refine tkQ 14 (v:=?_) ?_ hS ?_; rotate_left; · intro w' hw'; have hcells:=HC.out w' hw'; go_simp; (try with_reducible rfl)
  simp only [Act.put,pt1,pt2,pt3,pt4,pt5,pt6]
  refine wpAnyH_ready (rs:=[16]) (by kernel_rfl) (by simp) ?_
  refine arQ fun K hK => ?_
  have hB : w2.heap[wR.heap.size]? = some (.cells #[.int .i64 0,.int .i64 0] 201):=heapExt hb2 (heap_alloc_new wR.drew _)
  have z0:=cellOf hB 0
  have z1':=cellOf hB 1
  have y0:=freeOf hB 0
  have y1:=freeOf hB 1
  (try dsimp only at z0 z1')
  have HB:=hid hB
  clear hB
  go_simp
  refine hK.out _ _ ((hS.setCell (p:=⟨wR.heap.size,0,none⟩) (Nat.le_refl _) _).setCell (p:=⟨wR.heap.size,1,none⟩) (Nat.le_refl _) _) (fun hS => ?_)
  clear hK K
  (try simp only [Act.put,pt1,pt2,pt3,pt4,pt5,pt6])
  refine tkQ 17 (v:=?_) ?_ hS ?_; rotate_left; · intro w' hw'; have hcells:=HC.out w' hw'; go_simp; (try with_reducible rfl)
  simp only [Act.put,pt1,pt2,pt3,pt4,pt5,pt6]
  refine wpAnyH_done (by kernel_rfl) ?_ _
  (try dsimp only)
  have HS2:=hid hS
  clear hS
  go_wp2
  go_meet
  exact ⟨_,rfl,rfl,Nat.le_refl _,heapSet (o:=1) (Value.int .i64 (z2 : Int)) (heapSet (o:=0) (Value.int .i64 z1) HB.out),HS2.out⟩
 case rest =>
 obtain ⟨N,rfl,rfl,hNge,hN6,hb6⟩:=hcut
 obtain ⟨w6,hw6⟩ : ∃ u,u = wc:=⟨_,rfl⟩
 rw [← hw6] at hN6 hb6 ⊢
 clear hw6
 have HR6:=hid (HRR.out.grown (grownOf hb6 none) (by simp))
 have HG6:=hid (HGR.out.trans (grownOf hb6 (some b)))
 have hNb : N ≠ b:=by have:=HGB.out; omega
 have HNB:=hid hNb
 have HN6:=hid hN6
 have HNL:=hid (show N < w6.heap.size by
  rcases Nat.lt_or_ge N w6.heap.size with q | q
  ·exact q
  ·rw [Array.getElem?_eq_none q] at hN6; cases hN6)
 clear hNge hN6 hb6 hNb HTS HDP HC
 by_cases h3 : z3 = 0
 ·subst h3
  go_upto_region 16 with (fail)
  have HR7:=HR6
  have HG7:=HG6
  have HN7:=HN6
  have HNL7:=HNL
  clear HR6 HG6 HN6 HNL
  obtain ⟨r2,hr2⟩ : ∃ r2 : Rd,r2 = { r with nx:=q1,d:=q2,x:=q3 }:=⟨_,rfl⟩
  rw [← hr2] at HR7
  have HSP:=hid (show rdNum s.data.toList s at_ r = { r2 with k:=2,n:=z1,sc:=z2 } by
   rw [hr2]
   unfold rdNum
   dsimp only
   rw [← HF.out,← HTQ.out,if_neg HNE.out,← HQS.out]
   dsimp only
   rw [← HZS.out]
   dsimp only
   rw [if_neg (by simp)])
  clear hr2
  obtain ⟨W2,hW2,hw2⟩:=HR7.out.put
  subst hw2
  have HC16:=hid (fun (w' : World) (h : w'.heap[N]? = some (.cells #[.int .i64 z1,.int .i64 (z2 : Int)] 201)) => (show w'.cell? ⟨N,0,none⟩ = some (.int .i64 z1) ∧ w'.cell? ⟨N,1,none⟩ = some (.int .i64 (z2 : Int)) from ⟨cellOf h 0,cellOf h 1⟩))
  refine wp_region_held_drew (S:=(fun w' => w'.heap[N]? = some (.cells #[.int .i64 z1,.int .i64 (z2 : Int)] 201))) (by kernel_rfl) (HN7.out) (fun hS => ?_)
  refine tkQ 0 (v:=?_) ?_ hS ?_; rotate_left; · intro w' hw'; have hcells:=HC16.out w' hw'; go_simp; (try with_reducible rfl)
  simp only [Act.put,pt1,pt2,pt3,pt4,pt5,pt6]
  refine tkQ 1 (v:=?_) ?_ hS ?_; rotate_left; · intro w' hw'; have hcells:=HC16.out w' hw'; go_simp; (try with_reducible rfl)
  simp only [Act.put,pt1,pt2,pt3,pt4,pt5,pt6]
  refine tkQ 2 (v:=?_) ?_ hS ?_; rotate_left; · intro w' hw'; have hcells:=HC16.out w' hw'; go_simp; (try with_reducible rfl)
  simp only [Act.put,pt1,pt2,pt3,pt4,pt5,pt6]
  refine tkQ 3 (v:=?_) ?_ hS ?_; rotate_left; · intro w' hw'; have hcells:=HC16.out w' hw'; go_simp; (try with_reducible rfl)
  simp only [Act.put,pt1,pt2,pt3,pt4,pt5,pt6]
  refine tkQ 4 (v:=?_) ?_ hS ?_; rotate_left; · intro w' hw'; have hcells:=HC16.out w' hw'; go_simp; (try with_reducible rfl)
  simp only [Act.put,pt1,pt2,pt3,pt4,pt5,pt6]
  refine tkQ 5 (v:=?_) ?_ hS ?_; rotate_left; · intro w' hw'; have hcells:=HC16.out w' hw'; go_simp; (try with_reducible rfl)
  simp only [Act.put,pt1,pt2,pt3,pt4,pt5,pt6]
  refine wpAnyH_ready (rs:=[6]) (by kernel_rfl) (by simp) ?_
  refine arQ fun K hK => ?_
  go_simp
  refine hK.out _ _ ((putC_other W2 b _ N HNB.out).trans ((putC_other W2 b _ N HNB.out).symm.trans HN7.out)) (fun hS => ?_)
  clear hK K
  (try simp only [Act.put,pt1,pt2,pt3,pt4,pt5,pt6])
  refine tkQ 7 (v:=?_) ?_ hS ?_; rotate_left; · intro w' hw'; have hcells:=HC16.out w' hw'; go_simp; (try with_reducible rfl)
  simp only [Act.put,pt1,pt2,pt3,pt4,pt5,pt6]
  refine tkQ 8 (v:=?_) ?_ hS ?_; rotate_left; · intro w' hw'; have hcells:=HC16.out w' hw'; go_simp; (try with_reducible rfl)
  simp only [Act.put,pt1,pt2,pt3,pt4,pt5,pt6]
  refine tkQ 9 (v:=?_) ?_ hS ?_; rotate_left; · intro w' hw'; have hcells:=HC16.out w' hw'; go_simp; (try with_reducible rfl)
  simp only [Act.put,pt1,pt2,pt3,pt4,pt5,pt6]
  refine wpAnyH_ready (rs:=[10]) (by kernel_rfl) (by simp) ?_
  refine arQ fun K hK => ?_
  go_simp
  refine hK.out _ _ ((putC_other W2 b _ N HNB.out).trans ((putC_other W2 b _ N HNB.out).symm.trans HN7.out)) (fun hS => ?_)
  clear hK K
  (try simp only [Act.put,pt1,pt2,pt3,pt4,pt5,pt6])
  refine wpAnyH_done (by kernel_rfl) ?_ _
  (try dsimp only)
  clear hS
  go_wp2
  refine bodyPost_end (results_none rfl _ _ _) rfl ?_
  refine ⟨rfl,?_,HG7.out.trans ((putC_grown _ _ _ _).trans ⟨rfl,rfl,rfl,Nat.le_refl _,fun _ _ _ => rfl⟩)⟩
  rw [HSP.out]
  exact (isRd_put W2 b s { r2 with k:=2,n:=z1,sc:=z2 } hW2 ⟨(fun e => nomatch e),HR7.out.ok.nx,HR7.out.ok.p⟩ _ rfl).grown (row:=none) ⟨rfl,rfl,rfl,Nat.le_refl _,fun _ _ _ => rfl⟩ (by simp)
 ·have HFL:=hid (fail_call b s _ at_ z3 w6 HR6.out)
  go_upto_region 16 with (go_at_call 214; refine HFL.out.mono ?_; rintro e w7 ⟨rfl,h7,hg7⟩; have HR7:=hid h7; have HG7:=hid (HG6.out.trans hg7); have HN7:=hid ((hg7.block N HNL.out (by intro e; cases e; exact HNB.out rfl)).trans HN6.out); have HNL7:=hid (Nat.lt_of_lt_of_le HNL.out hg7.size); clear h7 hg7)
  have HH3:=hid h3
  clear h3
  obtain ⟨r2,hr2⟩ : ∃ r2 : Rd,r2 = Rd.fail { r with nx:=q1,d:=q2,x:=q3 } at_ z3:=⟨_,rfl⟩
  rw [← hr2] at HR7
  have HSP:=hid (show rdNum s.data.toList s at_ r = { r2 with k:=2,n:=z1,sc:=z2 } by
   rw [hr2]
   unfold rdNum
   dsimp only
   rw [← HF.out,← HTQ.out,if_neg HNE.out,← HQS.out]
   dsimp only
   rw [← HZS.out]
   dsimp only
   rw [if_pos HH3.out])
  clear hr2
  obtain ⟨W2,hW2,hw2⟩:=HR7.out.put
  subst hw2
  have HC16:=hid (fun (w' : World) (h : w'.heap[N]? = some (.cells #[.int .i64 z1,.int .i64 (z2 : Int)] 201)) => (show w'.cell? ⟨N,0,none⟩ = some (.int .i64 z1) ∧ w'.cell? ⟨N,1,none⟩ = some (.int .i64 (z2 : Int)) from ⟨cellOf h 0,cellOf h 1⟩))
  refine wp_region_held_drew (S:=(fun w' => w'.heap[N]? = some (.cells #[.int .i64 z1,.int .i64 (z2 : Int)] 201))) (by kernel_rfl) (HN7.out) (fun hS => ?_)
  refine tkQ 0 (v:=?_) ?_ hS ?_; rotate_left; · intro w' hw'; have hcells:=HC16.out w' hw'; go_simp; (try with_reducible rfl)
  simp only [Act.put,pt1,pt2,pt3,pt4,pt5,pt6]
  refine tkQ 1 (v:=?_) ?_ hS ?_; rotate_left; · intro w' hw'; have hcells:=HC16.out w' hw'; go_simp; (try with_reducible rfl)
  simp only [Act.put,pt1,pt2,pt3,pt4,pt5,pt6]
  refine tkQ 2 (v:=?_) ?_ hS ?_; rotate_left; · intro w' hw'; have hcells:=HC16.out w' hw'; go_simp; (try with_reducible rfl)
  simp only [Act.put,pt1,pt2,pt3,pt4,pt5,pt6]
  refine tkQ 3 (v:=?_) ?_ hS ?_; rotate_left; · intro w' hw'; have hcells:=HC16.out w' hw'; go_simp; (try with_reducible rfl)
  simp only [Act.put,pt1,pt2,pt3,pt4,pt5,pt6]
  refine tkQ 4 (v:=?_) ?_ hS ?_; rotate_left; · intro w' hw'; have hcells:=HC16.out w' hw'; go_simp; (try with_reducible rfl)
  simp only [Act.put,pt1,pt2,pt3,pt4,pt5,pt6]
  refine tkQ 5 (v:=?_) ?_ hS ?_; rotate_left; · intro w' hw'; have hcells:=HC16.out w' hw'; go_simp; (try with_reducible rfl)
  simp only [Act.put,pt1,pt2,pt3,pt4,pt5,pt6]
  refine wpAnyH_ready (rs:=[6]) (by kernel_rfl) (by simp) ?_
  refine arQ fun K hK => ?_
  go_simp
  refine hK.out _ _ ((putC_other W2 b _ N HNB.out).trans ((putC_other W2 b _ N HNB.out).symm.trans HN7.out)) (fun hS => ?_)
  clear hK K
  (try simp only [Act.put,pt1,pt2,pt3,pt4,pt5,pt6])
  refine tkQ 7 (v:=?_) ?_ hS ?_; rotate_left; · intro w' hw'; have hcells:=HC16.out w' hw'; go_simp; (try with_reducible rfl)
  simp only [Act.put,pt1,pt2,pt3,pt4,pt5,pt6]
  refine tkQ 8 (v:=?_) ?_ hS ?_; rotate_left; · intro w' hw'; have hcells:=HC16.out w' hw'; go_simp; (try with_reducible rfl)
  simp only [Act.put,pt1,pt2,pt3,pt4,pt5,pt6]
  refine tkQ 9 (v:=?_) ?_ hS ?_; rotate_left; · intro w' hw'; have hcells:=HC16.out w' hw'; go_simp; (try with_reducible rfl)
  simp only [Act.put,pt1,pt2,pt3,pt4,pt5,pt6]
  refine wpAnyH_ready (rs:=[10]) (by kernel_rfl) (by simp) ?_
  refine arQ fun K hK => ?_
  go_simp
  refine hK.out _ _ ((putC_other W2 b _ N HNB.out).trans ((putC_other W2 b _ N HNB.out).symm.trans HN7.out)) (fun hS => ?_)
  clear hK K
  (try simp only [Act.put,pt1,pt2,pt3,pt4,pt5,pt6])
  refine wpAnyH_done (by kernel_rfl) ?_ _
  (try dsimp only)
  clear hS
  go_wp2
  refine bodyPost_end (results_none rfl _ _ _) rfl ?_
  refine ⟨rfl,?_,HG7.out.trans ((putC_grown _ _ _ _).trans ⟨rfl,rfl,rfl,Nat.le_refl _,fun _ _ _ => rfl⟩)⟩
  rw [HSP.out]
  exact (isRd_put W2 b s { r2 with k:=2,n:=z1,sc:=z2 } hW2 ⟨(fun e => nomatch e),HR7.out.ok.nx,HR7.out.ok.p⟩ _ rfl).grown (row:=none) ⟨rfl,rfl,rfl,Nat.le_refl _,fun _ _ _ => rfl⟩ (by simp)
end
section
open Go Go.RowKit Go.Shelf
attribute [local go_sem] putC_setCell putC_cell putC_cell_ne putC_frozen putC_frozen_ne size_putC
abbrev tokV (r : Rd) : Value:=.agg #[.int .i64 r.k,.int .i64 r.p,.string r.t,.string r.b,.int .i64 r.n,.int .i64 r.sc,.bool r.d,.bool r.x]
set_option maxRecDepth 100000 in
set_option maxHeartbeats 8000000 in
theorem adv_bad (b : Nat) (s : ByteArray) (r : Rd) (w : World) (h : IsRd w b s r) (he : r.e ≠ 0) :
 Calls Tryz.prog 215 #[.pointer (some ⟨b,0,none⟩)] w fun x w' => x = .returned (tokV r) ∧ IsRd w' b s (r.adv s) ∧ w.grownBy w' (some b):=by
 have HS:=hid (show r.adv s = r by unfold Rd.adv; rw [if_pos he])
 have HR:=hid h
 obtain ⟨W,hW,hw⟩:=h.put
 clear h
 subst hw
 go_enter Tryz.func215,Tryz.ntmps215
 go_wp2
 refine bodyPost_ret (v:=tokV r) (by simp [results,Tryz.results215,go_sem]) rfl ?_
 refine ⟨rfl,?_,?_⟩
 ·rw [HS.out]
  exact (HR.out.alloc _).alloc _
 ·exact (World.grownBy_alloc _ _ _).trans (World.grownBy_alloc _ _ _)
end
end Go.Proofs.YtkljbfaemahchaaGreatDoor
