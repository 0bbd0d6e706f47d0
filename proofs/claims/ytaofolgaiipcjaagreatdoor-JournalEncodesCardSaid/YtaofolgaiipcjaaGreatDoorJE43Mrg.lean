/-
  manifoldlaw46.encode, as JEq's encL says. Conditions: the entry can be read as data, its texts are not longer than 1000000 bytes; Tabs, ZTab.
-/
import Derived.Test.YtaofolgaiipcjaaGreatDoorJE42Mrg
import Derived.Test.YtaofolgaiipcjaaGreatDoorJE38Mrg
import Derived.Deep.RegionHeld3
namespace Go.Proofs.YtaofolgaiipcjaaGreatDoor
set_option linter.unusedVariables false
set_option linter.unusedSimpArgs false
open Go Go.RowKit Go.Shelf
section
attribute [-go_sem] loadCellsFrom storeCells
attribute [local go_sem] lcf0 lcf1 lcf2 lcf3 lcf4 lcf5 stc0 stc1
set_option maxRecDepth 100000 in
set_option maxHeartbeats 16000000 in
theorem lEnc3_call (ti nu ve ca : Int) (nm nd tx : ByteArray) (un dn : Bool) (bk bi bs : Int) (bt : ByteArray) (bla : Option Addr) (bll blc : Nat) (bfa : Option Addr) (bfl bfc : Nat) (se : Int) (sa : Option Addr) (sn scc : Nat) (d : En) (w : World) (hd : IsEn (· < w.heap.size) w ⟨3,ti,nu,ve,ca,nm,nd,tx,un,dn,⟨bk,bi,bs,bt,bla,bll,blc,bfa,bfl,bfc⟩,⟨se,sa,sn,scc⟩⟩ d) (hz : nm.size ≤ 1000000 ∧ nd.size ≤ 1000000 ∧ tx.size ≤ 1000000) (hT : Tabs w) (hZT : ZTab w) :
 Calls Tryz.prog 17 #[.agg #[.int .i64 3,.int .i64 ti,.int .i64 nu,.int .i64 ve,.int .i64 ca,.string nm,.string nd,.string tx,.bool un,.bool dn,.int .i64 bk,.int .i64 bi,.int .i64 bs,.string bt,.slice bla bll blc,.slice bfa bfl bfc,.int .i64 se,.slice sa sn scc]] w fun e w' => e = .returned (.tuple #[.string (encL d).1,.int .i64 (encL d).2]) ∧ Below w.heap.size w w':=by
 obtain ⟨N,hN⟩ : ∃ N,N = w.heap.size:=⟨_,rfl⟩
 obtain ⟨w0,hw0⟩ : ∃ w0,w0 = w.alloc (.cells #[.int .i64 3,.int .i64 ti,.int .i64 nu,.int .i64 ve,.int .i64 ca,.string nm,.string nd,.string tx,.bool un,.bool dn,.int .i64 bk,.int .i64 bi,.int .i64 bs,.string bt,.slice bla bll blc,.slice bfa bfl bfc,.int .i64 se,.slice sa sn scc] 30):=⟨_,rfl⟩
 have h0 : w0.heap[N]? = some (.cells #[.int .i64 3,.int .i64 ti,.int .i64 nu,.int .i64 ve,.int .i64 ca,.string nm,.string nd,.string tx,.bool un,.bool dn,.int .i64 bk,.int .i64 bi,.int .i64 bs,.string bt,.slice bla bll blc,.slice bfa bfl bfc,.int .i64 se,.slice sa sn scc] 30):=by rw [hw0,hN]; exact heap_alloc_new w _
 have hb0 : Below w.heap.size w w0:=by rw [hw0]; exact (Below.refl _ w).alloc (Nat.le_refl _) _
 have hd0:=hd.same (w':=w0) (S':=(· < w0.heap.size)) fun j hj => ⟨Nat.lt_of_lt_of_le hj hb0.size,hb0.block j hj⟩
 have hck:=chkEn_call ⟨3,ti,nu,ve,ca,nm,nd,tx,un,dn,⟨bk,bi,bs,bt,bla,bll,blc,bfa,bfl,bfc⟩,⟨se,sa,sn,scc⟩⟩ d w0 hd0 (hT.below hb0)
 have hk : d.k = 3:=hd.k.symm
 have hti : ti = d.ti:=hd.ti
 have hit : I64 ti:=hd.rti
 have hnu : nu = d.nu:=hd.nu
 have hin : I64 nu:=hd.rnu
 have hve : ve = d.ve:=hd.ve
 have hiv : I64 ve:=hd.rve
 have hca : ca = d.ca:=hd.ca
 have hic : I64 ca:=hd.rca
 have hnm : nm = d.nm:=hd.nm
 have hnd : nd = d.nd:=hd.nd
 have htx : tx = d.tx:=hd.tx
 have hun : un = d.un:=hd.un
 have hdn : dn = d.dn:=hd.dn
 obtain ⟨E,hE⟩ : ∃ E,E = chkEn d:=⟨_,rfl⟩
 obtain ⟨H,hH⟩ : ∃ H,H = putsF [3,ti]:=⟨_,rfl⟩
 obtain ⟨Q,hQ⟩ : ∃ Q,Q = putsF [nu]:=⟨_,rfl⟩
 obtain ⟨R,hR⟩ : ∃ R,R = putsF [ca,flgN un dn]:=⟨_,rfl⟩
 obtain ⟨L,hL⟩ : ∃ L,L = litF d.bd:=⟨_,rfl⟩
 obtain ⟨T1,hT1⟩ : ∃ T,T = textF nm:=⟨_,rfl⟩
 obtain ⟨T2,hT2⟩ : ∃ T,T = textF nd:=⟨_,rfl⟩
 obtain ⟨T3,hT3⟩ : ∃ T,T = textF L.1:=⟨_,rfl⟩
 have hel : encL d = if E ≠ 0 then (⟨#[]⟩,E) else if H.2 = false then (⟨#[]⟩,2) else if L.2 ≠ 0 then (⟨#[]⟩,L.2) else if Q.2 = false ∨ R.2 = false then (⟨#[]⟩,2) else (H.1 ++ T1 ++ Q.1 ++ T2 ++ R.1 ++ T3,0):=by
  unfold encL
  rw [if_neg (show ¬ d.k = 1 by rw [hk]; decide),if_pos hk]
  rw [hE,hH]
  rw [hT3,hL,hQ,hR,hT1,hT2,← hnm,← hnu,← hca,← hnd,← hun,← hdn]
  rw [hti,hk]
 have hph:=fun (W : World) (h : Below w0.heap.size w0 W) => putRow [3,ti] W (by intro x hx; simp only [List.mem_cons,List.not_mem_nil,or_false] at hx; rcases hx with rfl | rfl; simp [I64]; assumption) (by simp)
 have hhs:=putsF_len [3,ti]
 have hpq:=fun (W : World) (h : Below w0.heap.size w0 W) => putRow [nu] W (by intro x hx; rw [List.mem_singleton.1 hx]; assumption) (by simp)
 have hpr:=fun (W : World) (h : Below w0.heap.size w0 W) => putRow [ca,flgN un dn] W (by intro x hx; simp only [List.mem_cons,List.not_mem_nil,or_false] at hx; rcases hx with rfl | rfl; assumption; cases un <;> cases dn <;> simp [flgN,I64]) (by simp)
 have hps:=putsF_len [nu]
 have hqs:=putsF_len [ca,flgN un dn]
 have hls:=litF_size d.bd
 have hlt:=fun (W : World) (h : Below w0.heap.size w0 W) => litG_call ⟨bk,bi,bs,bt,bla,bll,blc,bfa,bfl,bfc⟩ d.bd W (hd0.bd.same fun j hj => ⟨Nat.lt_of_lt_of_le hj h.size,h.block j hj⟩) ((hT.below hb0).below h) ((hZT.below hb0).below h)
 have ht1:=fun W => ltext_call nm W (by omega)
 have ht2:=fun W => ltext_call nd W (by omega)
 have ht3:=fun W => ltext_call (litF d.bd).1 W (by omega)
 have hz1:=textF_len nm
 have hz2:=textF_len nd
 have hz3:=textF_len (litF d.bd).1
 rw [← hE] at hck
 rw [← hH] at hhs
 simp only [← hH] at hph
 rw [← hQ] at hps
 rw [← hR] at hqs
 simp only [← hQ] at hpq
 simp only [← hR] at hpr
 rw [← hL] at hls hz3
 simp only [← hL] at hlt ht3
 rw [← hT1] at hz1
 rw [← hT2] at hz2
 rw [← hT3] at hz3
 simp only [← hT1] at ht1
 simp only [← hT2] at ht2
 simp only [← hT3] at ht3
 simp only [List.length_cons,List.length_nil] at hhs hps hqs
 have s2 : H.1.size + T1.size ≤ 9223372036854775807:=by omega
 have r2 : (9223372036854775807 < H.1.size + T1.size) = False:=by simp; omega
 have s3 : H.1.size + T1.size + Q.1.size ≤ 9223372036854775807:=by omega
 have r3 : (9223372036854775807 < H.1.size + T1.size + Q.1.size) = False:=by simp; omega
 have s4 : H.1.size + T1.size + Q.1.size + T2.size ≤ 9223372036854775807:=by omega
 have r4 : (9223372036854775807 < H.1.size + T1.size + Q.1.size + T2.size) = False:=by simp; omega
 have s5 : H.1.size + T1.size + Q.1.size + T2.size + R.1.size ≤ 9223372036854775807:=by omega
 have r5 : (9223372036854775807 < H.1.size + T1.size + Q.1.size + T2.size + R.1.size) = False:=by simp; omega
 have s6 : H.1.size + T1.size + Q.1.size + T2.size + R.1.size + T3.size ≤ 9223372036854775807:=by omega
 have r6 : (9223372036854775807 < H.1.size + T1.size + Q.1.size + T2.size + R.1.size + T3.size) = False:=by simp; omega
 dsimp only [EnC.v,VC.v] at hck
 have HC:=hid (fun (w' : World) (h : Below w0.heap.size w0 w') => have q:=heapExt h h0
  (show w'.cell? ⟨N,0,none⟩ = some (.int .i64 3) ∧ w'.cell? ⟨N,1,none⟩ = some (.int .i64 ti) ∧ w'.cell? ⟨N,2,none⟩ = some (.int .i64 nu) ∧ w'.cell? ⟨N,3,none⟩ = some (.int .i64 ve) ∧ w'.cell? ⟨N,4,none⟩ = some (.int .i64 ca) ∧ w'.cell? ⟨N,5,none⟩ = some (.string nm) ∧ w'.cell? ⟨N,6,none⟩ = some (.string nd) ∧ w'.cell? ⟨N,7,none⟩ = some (.string tx) ∧ w'.cell? ⟨N,8,none⟩ = some (.bool un) ∧ w'.cell? ⟨N,9,none⟩ = some (.bool dn) ∧ (loadCellsFrom ⟨N,10,none⟩ 0 6 #[]).run Tryz.prog w' = .ok #[.int .i64 bk,.int .i64 bi,.int .i64 bs,.string bt,.slice bla bll blc,.slice bfa bfl bfc] w' ∧ w'.cell? ⟨N,16,none⟩ = some (.int .i64 se) ∧ w'.cell? ⟨N,17,none⟩ = some (.slice sa sn scc) ∧ (loadCellsFrom ⟨N,0,none⟩ 0 18 #[]).run Tryz.prog w' = .ok #[.int .i64 3,.int .i64 ti,.int .i64 nu,.int .i64 ve,.int .i64 ca,.string nm,.string nd,.string tx,.bool un,.bool dn,.int .i64 bk,.int .i64 bi,.int .i64 bs,.string bt,.slice bla bll blc,.slice bfa bfl bfc,.int .i64 se,.slice sa sn scc] w' from ⟨cellOf q 0,cellOf q 1,cellOf q 2,cellOf q 3,cellOf q 4,cellOf q 5,cellOf q 6,cellOf q 7,cellOf q 8,cellOf q 9,ldAtJ q rfl rfl rfl rfl rfl rfl,cellOf q 16,cellOf q 17,ldEn (c:=⟨3,ti,nu,ve,ca,nm,nd,tx,un,dn,⟨bk,bi,bs,bt,bla,bll,blc,bfa,bfl,bfc⟩,⟨se,sa,sn,scc⟩⟩) (fr:=(0,0)) q⟩))
 have HCK:=hid hck
 have HEL:=hid hel
 have HPH:=hid hph
 have HPQ:=hid hpq
 have HPR:=hid hpr
 have HLT:=hid hlt
 have HT1:=hid ht1
 have HT2:=hid ht2
 have HT3:=hid ht3
 have HW:=hid hw0
 have HN:=hid hN
 have HB0:=hid hb0
 obtain ⟨x0,x1,x2,x3,x4,x5,x6,x7,x8,x9,x10,x16,x17,x18⟩:=HC.out w0 (Below.refl _ _)
 rw [← hN]
 clear hck hel hph hw0 hN hb0 h0 hd hd0 hz hT hZT hE hH hk hti hit hnu hin hve hiv hca hic hnm hnd htx hun hdn hhs hpq hpr hlt ht1 ht2 ht3 hps hqs hls hz1 hz2 hz3 hQ hR hL hT1 hT2 hT3
 by_cases hE0 : E = 0
 rotate_left
 ·have q0 : (E != 0) = true:=by simp [hE0]
  have HE:=hid hE0
  clear hE0
  go_enter Tryz.func17,Tryz.ntmps17
  go_upto_region 1 with (fail)
  rw [← HW.out,← HN.out]
  go_wp2_with (go_at_call 20; refine HCK.out.mono ?_; rintro x w1 ⟨rfl,hb⟩; have HB1:=hid hb; obtain ⟨a0,a1,a2,a3,a4,a5,a6,a7,a8,a9,a10,a16,a17,a18⟩:=HC.out w1 hb; clear hb)
  refine bodyPost_ret (v:=.tuple #[.string ⟨#[]⟩,.int .i64 E]) (by simp [results,Tryz.results17,go_sem]) rfl ?_
  exact ⟨by rw [HEL.out]; rw [if_pos HE.out],by rw [HN.out]; exact HB0.out.trans (HB1.out.mono HB0.out.size)⟩
 have q0 : (E != 0) = false:=by simp [hE0]
 have HE:=hid hE0
 clear hE0
 cases hh : H.2
 ·have HH:=hid hh
  go_enter Tryz.func17,Tryz.ntmps17
  go_upto_region 1 with (fail)
  rw [← HW.out,← HN.out]
  go_wp2_with (first
   | (go_at_call 45; go_loud (refine (HPH.out w1 HB1.out).mono ?_); rintro x w2 ⟨rfl,hb⟩; have hbx:=HB1.out.trans (hb.mono HB1.out.size); have HB2:=hid hbx; obtain ⟨b0,b1,b2,b3,b4,b5,b6,b7,b8,b9,b10,b16,b17,b18⟩:=HC.out w2 hbx; clear hb hbx)
   | (go_at_call 20; refine HCK.out.mono ?_; rintro x w1 ⟨rfl,hb⟩; have HB1:=hid hb; obtain ⟨a0,a1,a2,a3,a4,a5,a6,a7,a8,a9,a10,a16,a17,a18⟩:=HC.out w1 hb; clear hb))
  refine bodyPost_ret (v:=.tuple #[.string ⟨#[]⟩,.int .i64 2]) (by simp [results,Tryz.results17,go_sem]) rfl ?_
  exact ⟨by rw [HEL.out]; rw [if_neg (fun h => h HE.out),if_pos HH.out],by rw [HN.out]; exact HB0.out.trans (HB2.out.mono HB0.out.size)⟩
 have HH:=hid (show ¬ H.2 = false by rw [hh]; decide)
 by_cases hl0 : L.2 = 0
 rotate_left
 ·have ql : (L.2 != 0) = true:=by simp [hl0]
  have HL0:=hid hl0
  clear hl0
  go_enter Tryz.func17,Tryz.ntmps17
  go_upto_region 1 with (fail)
  rw [← HW.out,← HN.out]
  go_wp2_with (first
   | (go_at_call 47; go_loud (refine (HLT.out w2 HB2.out).mono ?_); rintro x w3 ⟨rfl,hb⟩; have hbx:=HB2.out.trans (hb.mono HB2.out.size); have HB3:=hid hbx; obtain ⟨c0,c1,c2,c3,c4,c5,c6,c7,c8,c9,c10,c16,c17,c18⟩:=HC.out w3 hbx; clear hb hbx)
   | (go_at_call 45; go_loud (refine (HPH.out w1 HB1.out).mono ?_); rintro x w2 ⟨rfl,hb⟩; have hbx:=HB1.out.trans (hb.mono HB1.out.size); have HB2:=hid hbx; obtain ⟨b0,b1,b2,b3,b4,b5,b6,b7,b8,b9,b10,b16,b17,b18⟩:=HC.out w2 hbx; clear hb hbx)
   | (go_at_call 20; refine HCK.out.mono ?_; rintro x w1 ⟨rfl,hb⟩; have HB1:=hid hb; obtain ⟨a0,a1,a2,a3,a4,a5,a6,a7,a8,a9,a10,a16,a17,a18⟩:=HC.out w1 hb; clear hb))
  refine bodyPost_ret (v:=.tuple #[.string ⟨#[]⟩,.int .i64 L.2]) (by simp [results,Tryz.results17,go_sem]) rfl ?_
  exact ⟨by rw [HEL.out]; rw [if_neg (fun h => h HE.out),if_neg HH.out,if_pos HL0.out],by rw [HN.out]; exact HB0.out.trans (HB3.out.mono HB0.out.size)⟩
 have ql : (L.2 != 0) = false:=by simp [hl0]
 have HL0:=hid (show ¬ L.2 ≠ 0 from fun h => h hl0)
 clear hl0
 cases un <;> cases dn
 all_goals (
  simp only [flgN,Bool.false_eq_true,if_true,if_false,reduceIte] at HPR
  cases hq : Q.2
  ·have HQ:=hid hq
   go_enter Tryz.func17,Tryz.ntmps17
   go_upto_region 1 with (fail)
   rw [← HW.out,← HN.out]
   go_wp2_with (first
    | (go_at_call 45; go_loud (refine (HPR.out w4 HB4.out).mono ?_); rintro x w5 ⟨rfl,hb⟩; have hbx:=HB4.out.trans (hb.mono HB4.out.size); have HB5:=hid hbx; obtain ⟨e0,e1,e2,e3,e4,e5,e6,e7,e8,e9,e10,e16,e17,e18⟩:=HC.out w5 hbx; clear hb hbx)
    | (go_at_call 45; go_loud (refine (HPQ.out w3 HB3.out).mono ?_); rintro x w4 ⟨rfl,hb⟩; have hbx:=HB3.out.trans (hb.mono HB3.out.size); have HB4:=hid hbx; obtain ⟨d0,d1,d2,d3,d4,d5,d6,d7,d8,d9,d10,d16,d17,d18⟩:=HC.out w4 hbx; clear hb hbx)
    | (go_at_call 47; go_loud (refine (HLT.out w2 HB2.out).mono ?_); rintro x w3 ⟨rfl,hb⟩; have hbx:=HB2.out.trans (hb.mono HB2.out.size); have HB3:=hid hbx; obtain ⟨c0,c1,c2,c3,c4,c5,c6,c7,c8,c9,c10,c16,c17,c18⟩:=HC.out w3 hbx; clear hb hbx)
    | (go_at_call 45; go_loud (refine (HPH.out w1 HB1.out).mono ?_); rintro x w2 ⟨rfl,hb⟩; have hbx:=HB1.out.trans (hb.mono HB1.out.size); have HB2:=hid hbx; obtain ⟨b0,b1,b2,b3,b4,b5,b6,b7,b8,b9,b10,b16,b17,b18⟩:=HC.out w2 hbx; clear hb hbx)
    | (go_at_call 20; refine HCK.out.mono ?_; rintro x w1 ⟨rfl,hb⟩; have HB1:=hid hb; obtain ⟨a0,a1,a2,a3,a4,a5,a6,a7,a8,a9,a10,a16,a17,a18⟩:=HC.out w1 hb; clear hb))
   refine bodyPost_ret (v:=.tuple #[.string ⟨#[]⟩,.int .i64 2]) (by simp [results,Tryz.results17,go_sem]) rfl ?_
   exact ⟨by rw [HEL.out]; rw [if_neg (fun h => h HE.out),if_neg HH.out,if_neg HL0.out,if_pos (.inl HQ.out)],by rw [HN.out]; exact HB0.out.trans (HB5.out.mono HB0.out.size)⟩
  cases hr : R.2
  ·have HQ:=hid hr
   go_enter Tryz.func17,Tryz.ntmps17
   go_upto_region 1 with (fail)
   rw [← HW.out,← HN.out]
   go_wp2_with (first
    | (go_at_call 45; go_loud (refine (HPR.out w4 HB4.out).mono ?_); rintro x w5 ⟨rfl,hb⟩; have hbx:=HB4.out.trans (hb.mono HB4.out.size); have HB5:=hid hbx; obtain ⟨e0,e1,e2,e3,e4,e5,e6,e7,e8,e9,e10,e16,e17,e18⟩:=HC.out w5 hbx; clear hb hbx)
    | (go_at_call 45; go_loud (refine (HPQ.out w3 HB3.out).mono ?_); rintro x w4 ⟨rfl,hb⟩; have hbx:=HB3.out.trans (hb.mono HB3.out.size); have HB4:=hid hbx; obtain ⟨d0,d1,d2,d3,d4,d5,d6,d7,d8,d9,d10,d16,d17,d18⟩:=HC.out w4 hbx; clear hb hbx)
    | (go_at_call 47; go_loud (refine (HLT.out w2 HB2.out).mono ?_); rintro x w3 ⟨rfl,hb⟩; have hbx:=HB2.out.trans (hb.mono HB2.out.size); have HB3:=hid hbx; obtain ⟨c0,c1,c2,c3,c4,c5,c6,c7,c8,c9,c10,c16,c17,c18⟩:=HC.out w3 hbx; clear hb hbx)
    | (go_at_call 45; go_loud (refine (HPH.out w1 HB1.out).mono ?_); rintro x w2 ⟨rfl,hb⟩; have hbx:=HB1.out.trans (hb.mono HB1.out.size); have HB2:=hid hbx; obtain ⟨b0,b1,b2,b3,b4,b5,b6,b7,b8,b9,b10,b16,b17,b18⟩:=HC.out w2 hbx; clear hb hbx)
    | (go_at_call 20; refine HCK.out.mono ?_; rintro x w1 ⟨rfl,hb⟩; have HB1:=hid hb; obtain ⟨a0,a1,a2,a3,a4,a5,a6,a7,a8,a9,a10,a16,a17,a18⟩:=HC.out w1 hb; clear hb))
   refine bodyPost_ret (v:=.tuple #[.string ⟨#[]⟩,.int .i64 2]) (by simp [results,Tryz.results17,go_sem]) rfl ?_
   exact ⟨by rw [HEL.out]; rw [if_neg (fun h => h HE.out),if_neg HH.out,if_neg HL0.out,if_pos (.inr HQ.out)],by rw [HN.out]; exact HB0.out.trans (HB5.out.mono HB0.out.size)⟩
  have HQ:=hid (show ¬ (Q.2 = false ∨ R.2 = false) by rw [hq,hr]; decide)
  go_enter Tryz.func17,Tryz.ntmps17
  go_upto_region 1 with (fail)
  rw [← HW.out,← HN.out]
  go_upto_region 26 with (first
   | (go_at_call 45; go_loud (refine (HPR.out w4 HB4.out).mono ?_); rintro x w5 ⟨rfl,hb⟩; have hbx:=HB4.out.trans (hb.mono HB4.out.size); have HB5:=hid hbx; obtain ⟨e0,e1,e2,e3,e4,e5,e6,e7,e8,e9,e10,e16,e17,e18⟩:=HC.out w5 hbx; clear hb hbx)
   | (go_at_call 45; go_loud (refine (HPQ.out w3 HB3.out).mono ?_); rintro x w4 ⟨rfl,hb⟩; have hbx:=HB3.out.trans (hb.mono HB3.out.size); have HB4:=hid hbx; obtain ⟨d0,d1,d2,d3,d4,d5,d6,d7,d8,d9,d10,d16,d17,d18⟩:=HC.out w4 hbx; clear hb hbx)
   | (go_at_call 47; go_loud (refine (HLT.out w2 HB2.out).mono ?_); rintro x w3 ⟨rfl,hb⟩; have hbx:=HB2.out.trans (hb.mono HB2.out.size); have HB3:=hid hbx; obtain ⟨c0,c1,c2,c3,c4,c5,c6,c7,c8,c9,c10,c16,c17,c18⟩:=HC.out w3 hbx; clear hb hbx)
   | (go_at_call 45; go_loud (refine (HPH.out w1 HB1.out).mono ?_); rintro x w2 ⟨rfl,hb⟩; have hbx:=HB1.out.trans (hb.mono HB1.out.size); have HB2:=hid hbx; obtain ⟨b0,b1,b2,b3,b4,b5,b6,b7,b8,b9,b10,b16,b17,b18⟩:=HC.out w2 hbx; clear hb hbx)
   | (go_at_call 20; refine HCK.out.mono ?_; rintro x w1 ⟨rfl,hb⟩; have HB1:=hid hb; obtain ⟨a0,a1,a2,a3,a4,a5,a6,a7,a8,a9,a10,a16,a17,a18⟩:=HC.out w1 hb; clear hb))
  have HCR:=hid (fun (w' : World) (h : Below w5.heap.size w5 w') => HC.out w' (HB5.out.trans (h.mono HB5.out.size)))
  refine wp_region_held_drew (S:=(fun w' => Below w5.heap.size w5 w')) (by kernel_rfl) ((Below.refl _ _).drew) (fun hS => ?_)
  refine tkQ 0 (v:=?_) ?_ hS ?_; rotate_left; · intro w' hw'; have hcells:=HCR.out w' hw'; go_simp; (try with_reducible rfl)
  simp only [Act.put,pt1,pt2,pt3,pt4,pt5,pt6]
  refine tkQ 1 (v:=?_) ?_ hS ?_; rotate_left; · intro w' hw'; have hcells:=HCR.out w' hw'; go_simp; (try with_reducible rfl)
  simp only [Act.put,pt1,pt2,pt3,pt4,pt5,pt6]
  refine tkQ 2 (v:=?_) ?_ hS ?_; rotate_left; · intro w' hw'; have hcells:=HCR.out w' hw'; go_simp; (try with_reducible rfl)
  simp only [Act.put,pt1,pt2,pt3,pt4,pt5,pt6]
  refine tkQ 5 (v:=?_) ?_ hS ?_; rotate_left; · intro w' hw'; have hcells:=HCR.out w' hw'; go_simp; (try with_reducible rfl)
  simp only [Act.put,pt1,pt2,pt3,pt4,pt5,pt6]
  refine tkQ 7 (v:=?_) ?_ hS ?_; rotate_left; · intro w' hw'; have hcells:=HCR.out w' hw'; go_simp; (try with_reducible rfl)
  simp only [Act.put,pt1,pt2,pt3,pt4,pt5,pt6]
  refine tkQ 8 (v:=?_) ?_ hS ?_; rotate_left; · intro w' hw'; have hcells:=HCR.out w' hw'; go_simp; (try with_reducible rfl)
  simp only [Act.put,pt1,pt2,pt3,pt4,pt5,pt6]
  refine tkQ 11 (v:=?_) ?_ hS ?_; rotate_left; · intro w' hw'; have hcells:=HCR.out w' hw'; go_simp; (try with_reducible rfl)
  simp only [Act.put,pt1,pt2,pt3,pt4,pt5,pt6]
  refine tkQ 13 (v:=?_) ?_ hS ?_; rotate_left; · intro w' hw'; have hcells:=HCR.out w' hw'; go_simp; (try with_reducible rfl)
  simp only [Act.put,pt1,pt2,pt3,pt4,pt5,pt6]
  refine wpAnyH_ready (rs:=[3]) (by kernel_rfl) (by simp) ?_
  refine arQ fun K hK => ?_
  go_simp; go_at_call 46; refine (HT1.out _).mono ?_
  rintro e wt3 ⟨rfl,hbt3⟩
  refine hK.out _ _ (hS.trans (hbt3.mono hS.size)) (fun hS => ?_)
  clear hK K
  (try simp only [Act.put,pt1,pt2,pt3,pt4,pt5,pt6])
  refine tkQ 4 (v:=?_) ?_ hS ?_; rotate_left; · intro w' hw'; have hcells:=HCR.out w' hw'; go_simp; (try with_reducible rfl)
  simp only [Act.put,pt1,pt2,pt3,pt4,pt5,pt6]
  refine tkQ 6 (v:=?_) ?_ hS ?_; rotate_left; · intro w' hw'; have hcells:=HCR.out w' hw'; go_simp; (try with_reducible rfl)
  simp only [Act.put,pt1,pt2,pt3,pt4,pt5,pt6]
  refine wpAnyH_ready (rs:=[9]) (by kernel_rfl) (by simp) ?_
  refine arQ fun K hK => ?_
  go_simp; go_at_call 46; refine (HT2.out _).mono ?_
  rintro e wt9 ⟨rfl,hbt9⟩
  refine hK.out _ _ (hS.trans (hbt9.mono hS.size)) (fun hS => ?_)
  clear hK K
  (try simp only [Act.put,pt1,pt2,pt3,pt4,pt5,pt6])
  refine tkQ 10 (v:=?_) ?_ hS ?_; rotate_left; · intro w' hw'; have hcells:=HCR.out w' hw'; go_simp; (try with_reducible rfl)
  simp only [Act.put,pt1,pt2,pt3,pt4,pt5,pt6]
  refine tkQ 12 (v:=?_) ?_ hS ?_; rotate_left; · intro w' hw'; have hcells:=HCR.out w' hw'; go_simp; (try with_reducible rfl)
  simp only [Act.put,pt1,pt2,pt3,pt4,pt5,pt6]
  refine wpAnyH_ready (rs:=[14]) (by kernel_rfl) (by simp) ?_
  refine arQ fun K hK => ?_
  go_simp; go_at_call 46; refine (HT3.out _).mono ?_
  rintro e wt14 ⟨rfl,hbt14⟩
  refine hK.out _ _ (hS.trans (hbt14.mono hS.size)) (fun hS => ?_)
  clear hK K
  (try simp only [Act.put,pt1,pt2,pt3,pt4,pt5,pt6])
  refine tkQ 15 (v:=?_) ?_ hS ?_; rotate_left; · intro w' hw'; have hcells:=HCR.out w' hw'; go_simp; (try with_reducible rfl)
  simp only [Act.put,pt1,pt2,pt3,pt4,pt5,pt6]
  refine tkQ 16 (v:=?_) ?_ hS ?_; rotate_left; · intro w' hw'; have hcells:=HCR.out w' hw'; go_simp; (try with_reducible rfl)
  simp only [Act.put,pt1,pt2,pt3,pt4,pt5,pt6]
  refine tkQ 17 (v:=?_) ?_ hS ?_; rotate_left; · intro w' hw'; have hcells:=HCR.out w' hw'; go_simp; (try with_reducible rfl)
  simp only [Act.put,pt1,pt2,pt3,pt4,pt5,pt6]
  refine wpAnyH_done (by kernel_rfl) ?_ _
  (try dsimp only)
  have HF:=hid (HB5.out.trans (hS.mono HB5.out.size))
  clear hS
  go_wp2
  refine bodyPost_ret (v:=.tuple #[.string (H.1 ++ T1 ++ Q.1 ++ T2 ++ R.1 ++ T3),.int .i64 0]) (by simp [results,Tryz.results17,go_sem]) rfl ?_
  exact ⟨by rw [HEL.out]; rw [if_neg (fun h => h HE.out),if_neg HH.out,if_neg HL0.out,if_neg HQ.out],by rw [HN.out]; exact HB0.out.trans (HF.out.mono HB0.out.size)⟩)
end
end Go.Proofs.YtaofolgaiipcjaaGreatDoor
