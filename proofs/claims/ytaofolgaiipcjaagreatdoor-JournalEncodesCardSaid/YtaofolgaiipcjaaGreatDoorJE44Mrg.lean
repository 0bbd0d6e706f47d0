/-
  manifoldlaw46.encode, as JEq's encL says. Conditions: the entry can be read as data, its texts are not longer than 1000000 bytes; Tabs, ZTab.
-/
import Derived.Test.YtaofolgaiipcjaaGreatDoorJE42Mrg
import Derived.Test.YtaofolgaiipcjaaGreatDoorJE43Mrg
import Derived.Test.YtaofolgaiipcjaaGreatDoorJE38Mrg
import Derived.Deep.RegionHeld3
import Derived.Test.YtaofolgaiipcjaaGreatDoorJE40Mrg
namespace Go.Proofs.YtaofolgaiipcjaaGreatDoor
set_option linter.unusedVariables false
set_option linter.unusedSimpArgs false
section
open Go Go.RowKit Go.Shelf
section
attribute [-go_sem] loadCellsFrom storeCells
attribute [local go_sem] lcf0 lcf1 lcf2 lcf3 lcf4 lcf5 stc0 stc1
set_option maxRecDepth 100000 in
set_option maxHeartbeats 4000000 in
theorem lEnc_call (c : EnC) (d : En) (w : World) (hd : IsEn (· < w.heap.size) w c d) (hz : d.nm.size ≤ 1000000 ∧ d.nd.size ≤ 1000000 ∧ d.tx.size ≤ 1000000) (hT : Tabs w) (hZT : ZTab w) :
 Calls Tryz.prog 17 #[c.v] w fun e w' => e = .returned (.tuple #[.string (encL d).1,.int .i64 (encL d).2]) ∧ Below w.heap.size w w':=by
 rw [← hd.nm,← hd.nd,← hd.tx] at hz
 obtain ⟨k,ti,nu,ve,ca,nm,nd,tx,un,dn,⟨bk,bi,bs,bt,bla,bll,blc,bfa,bfl,bfc⟩,⟨se,sa,sn,scc⟩⟩:=c
 by_cases h1 : k = 1
 ·subst h1
  exact lEnc1_call ti nu ve ca nm nd tx un dn bk bi bs bt bla bll blc bfa bfl bfc se sa sn scc d w hd hz hT hZT
 by_cases h2 : k = 2
 ·subst h2
  exact lEnc2_call ti nu ve ca nm nd tx un dn bk bi bs bt bla bll blc bfa bfl bfc se sa sn scc d w hd hz hT hZT
 by_cases h3 : k = 3
 ·subst h3
  exact lEnc3_call ti nu ve ca nm nd tx un dn bk bi bs bt bla bll blc bfa bfl bfc se sa sn scc d w hd hz hT hZT
 by_cases h4 : k = 4
 ·subst h4
  exact lEnc4_call ti nu ve ca nm nd tx un dn bk bi bs bt bla bll blc bfa bfl bfc se sa sn scc d w hd hz hT hZT
 by_cases h5 : k = 5
 ·subst h5
  exact lEnc5_call ti nu ve ca nm nd tx un dn bk bi bs bt bla bll blc bfa bfl bfc se sa sn scc d w hd hz hT hZT
 by_cases h6 : k = 6
 ·subst h6
  exact lEnc6_call ti nu ve ca nm nd tx un dn bk bi bs bt bla bll blc bfa bfl bfc se sa sn scc d w hd hz hT hZT
 have hc : chkEn d = 11:=by
  have hk : k = d.k:=hd.k
  unfold chkEn
  rw [if_pos (by omega)]
 have hl : encL d = (⟨#[]⟩,11):=by
  unfold encL
  rw [hc,if_pos (by decide)]
 have hck:=fun w0 (hb : Below w.heap.size w w0) => chkEn_call ⟨k,ti,nu,ve,ca,nm,nd,tx,un,dn,⟨bk,bi,bs,bt,bla,bll,blc,bfa,bfl,bfc⟩,⟨se,sa,sn,scc⟩⟩ d w0 (hd.same fun j hj => ⟨Nat.lt_of_lt_of_le hj hb.size,hb.block j hj⟩) (hT.below hb)
 rw [hc] at hck
 have hb0 : Below w.heap.size w (w.alloc (.cells #[.int .i64 k,.int .i64 ti,.int .i64 nu,.int .i64 ve,.int .i64 ca,.string nm,.string nd,.string tx,.bool un,.bool dn,.int .i64 bk,.int .i64 bi,.int .i64 bs,.string bt,.slice bla bll blc,.slice bfa bfl bfc,.int .i64 se,.slice sa sn scc] 30)):=(Below.refl _ w).alloc (Nat.le_refl _) _
 have h0:=heap_alloc_new w (.cells #[.int .i64 k,.int .i64 ti,.int .i64 nu,.int .i64 ve,.int .i64 ca,.string nm,.string nd,.string tx,.bool un,.bool dn,.int .i64 bk,.int .i64 bi,.int .i64 bs,.string bt,.slice bla bll blc,.slice bfa bfl bfc,.int .i64 se,.slice sa sn scc] 30)
 have l0:=ldEn (c:=⟨k,ti,nu,ve,ca,nm,nd,tx,un,dn,⟨bk,bi,bs,bt,bla,bll,blc,bfa,bfl,bfc⟩,⟨se,sa,sn,scc⟩⟩) (fr:=(0,0)) h0
 dsimp only [EnC.v,EnC.ar,VC.v] at hck l0 ⊢
 have HCK:=hid (hck _ hb0)
 have HL:=hid hl
 have HB0:=hid hb0
 clear hck hl hb0 h0 hc hd hz hT hZT h1 h2 h3 h4 h5 h6
 go_enter Tryz.func17,Tryz.ntmps17
 go_wp2_with (go_at_call 20; refine HCK.out.mono ?_; rintro x w1 ⟨rfl,hb⟩; have HB1:=hid hb; clear hb)
 refine bodyPost_ret (v:=.tuple #[.string ⟨#[]⟩,.int .i64 11]) (by simp [results,Tryz.results17,go_sem]) rfl ?_
 exact ⟨by rw [HL.out],HB0.out.trans (HB1.out.mono HB0.out.size)⟩
end
end
section
open Go Go.RowKit Go.Shelf
section
attribute [-go_sem] loadCellsFrom storeCells
attribute [local go_sem] lcf0 lcf1 lcf2 lcf3 lcf4 lcf5 stc0 stc1
set_option maxRecDepth 100000 in
set_option maxHeartbeats 16000000 in
theorem jencs_call (c : EnC) (d : En) (w : World) (hd : IsEn (· < w.heap.size) w c d) (hT : Tabs w) (hZT : ZTab w) :
 Calls Tryz.prog 3 #[c.v] w fun e w' => e = .returned (.bool true) ∧ Below w.heap.size w w':=by
 obtain ⟨N,hN⟩ : ∃ N,N = w.heap.size:=⟨_,rfl⟩
 obtain ⟨w1,hw1⟩ : ∃ w1,w1 = w.alloc (.cells c.ar 30):=⟨_,rfl⟩
 have hA : w1.heap[N]? = some (.cells c.ar 30):=by rw [hw1,hN]; exact heap_alloc_new w _
 have hb1 : Below w.heap.size w w1:=by rw [hw1]; exact (Below.refl _ w).alloc (Nat.le_refl _) _
 have hD:=fun (w' : World) (h : Below w1.heap.size w1 w') => (show IsEn (· < w'.heap.size) w' c d from
  have hx:=hb1.trans (h.mono hb1.size)
  hd.same fun j hj => ⟨Nat.lt_of_lt_of_le hj hx.size,hx.block j hj⟩)
 have hV:=fun (w' : World) (h : Below w1.heap.size w1 w') => (show Tabs w' ∧ ZTab w' from
  have hx:=hb1.trans (h.mono hb1.size)
  ⟨hT.below hx,hZT.below hx⟩)
 have hk:=fun (w' : World) (h : Below w1.heap.size w1 w') => known46_call w' (hV w' h).1 (hV w' h).2
 have hsa:=fun (w' : World) (h : Below w1.heap.size w1 w') => smallJ_call c d w' (hD w' h)
 have HNM:=hid (show Named d.bd from hd.bd.named)
 have HSZ:=hid (show (stampTE d.st).1.size ≤ 20000 from stampTE_size d.st hd.st.re hd.st.ps.rng)
 have HL:=hid (fun (w' : World) (h : Below w1.heap.size w1 w') => (show (loadCellsFrom ⟨N,0,none⟩ 0 18 #[]).run Tryz.prog w' = .ok c.ar w' from ldEn (heapExt h hA)))
 dsimp only [EnC.ar] at HL hw1
 dsimp only [EnC.v,VC.v] at hsa
 have HD:=hid hD
 have HV:=hid hV
 have HK:=hid hk
 have HSA:=hid hsa
 have HW1:=hid hw1
 have HB1:=hid hb1
 have HN:=hid hN
 have la:=HL.out w1 (Below.refl _ _)
 dsimp only [EnC.v,VC.v]
 clear hN hw1 hA hb1 hD hV hk hsa hd hT hZT
 have R1:=hid (Below.refl w1.heap.size w1)
 have fin:=fun (w' : World) (h : Below w1.heap.size w1 w') => HB1.out.trans (h.mono HB1.out.size)
 have FIN:=hid fin
 clear fin
 go_enter Tryz.func3,Tryz.ntmps3
 go_upto_region 1 with (fail)
 rw [← HW1.out,← HN.out]
 go_upto_region 3 with (first
  | (go_at_call 14; refine (HK.out w3 HB3.out).mono ?_; rintro e w4 ⟨rfl,hb⟩; have HB4:=hid (HB3.out.trans (hb.mono HB3.out.size)); clear hb)
  | (go_at_call 15; go_loud (refine (HSA.out w2 HB2.out).mono ?_); rintro e w3 ⟨ba,rfl,hba,hb⟩; have la:=HL.out w3 (HB2.out.trans (hb.mono HB2.out.size)); have HB3:=hid (HB2.out.trans (hb.mono HB2.out.size)); have HBA:=hid hba; clear hb hba; cases ba)
  | (go_at_call 14; go_loud (refine (HK.out w1 R1.out).mono ?_); rintro e w2 ⟨rfl,hb⟩; have la:=HL.out w2 hb; have HB2:=hid hb; clear hb))
 ·go_ret
  exact ⟨rfl,FIN.out w4 HB4.out⟩
 have hza:=HBA.out trivial
 have hq : encL d = encJ d:=encL_eq (Nat.le_trans hza.1 (by decide)) (Nat.le_trans hza.2.1 (by decide)) (Nat.le_trans hza.2.2 (by decide)) (Nat.le_trans HSZ.out (by decide)) HNM.out
 have ha:=jEnc_call c d w3 (HD.out w3 HB3.out) ⟨by omega,by omega,by omega⟩ (HV.out w3 HB3.out).1 (HV.out w3 HB3.out).2
 have hl:=fun (w' : World) (h : Below w1.heap.size w1 w') => lEnc_call c d w' (HD.out w' h) ⟨by omega,by omega,by omega⟩ (HV.out w' h).1 (HV.out w' h).2
 rw [hq] at hl
 obtain ⟨P,hP⟩ : ∃ P,P = encJ d:=⟨_,rfl⟩
 rw [← hP] at ha
 simp only [← hP] at hl
 dsimp only [EnC.v,VC.v] at ha hl
 have HA:=hid ha
 have HLE:=hid hl
 have p1 : (P.1.toList == P.1.toList) = true:=by simp
 have p2 : (P.2 == P.2) = true:=by simp
 clear hza hq ha hl hP
 go_wp2_with (first
  | (go_at_call 17; go_loud (refine (HLE.out w4 HB4.out).mono ?_); rintro e w5 ⟨rfl,hb⟩; have HB5:=hid (HB4.out.trans (hb.mono HB4.out.size)); clear hb)
  | (go_at_call 16; go_loud (refine HA.out.mono ?_); rintro e w4 ⟨rfl,hb⟩; have la:=HL.out w4 (HB3.out.trans (hb.mono HB3.out.size)); have HB4:=hid (HB3.out.trans (hb.mono HB3.out.size)); clear hb))
 go_ret
 exact ⟨rfl,FIN.out w5 HB5.out⟩
end
end
end Go.Proofs.YtaofolgaiipcjaaGreatDoor
