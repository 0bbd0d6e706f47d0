/-
  replay.text of an effect. Conditions: the effect can be read as data; Tabs, ZTab.
-/
import Derived.Test.YtkljbfaemahchaaGreatDoorET43Mrg
import Derived.Test.YtkljbfaemahchaaGreatDoorET32Mrg
import Derived.Test.YtkljbfaemahchaaGreatDoorET46Mrg
import Derived.Test.YtkljbfaemahchaaGreatDoorET47Mrg
namespace Go.Proofs.YtkljbfaemahchaaGreatDoor
set_option linter.unusedVariables false
set_option linter.unusedSimpArgs false
section
open Go Go.RowKit Go.Shelf
theorem fldF_size (node : ByteArray) (call : Int) (d : Val) (ws : List ByteArray) : (fldF node call d ws).1.size ≤ 65536 := by
  unfold fldF
  repeat' split
  all_goals first
    | exact Nat.zero_le _
    | (dsimp only; omega)
end
section
open Go Go.RowKit Go.Shelf
section
attribute [-go_sem] loadCellsFrom storeCells
attribute [local go_sem] lcf0 lcf1 lcf2 lcf3 lcf4 lcf5 stc0 stc1
set_option maxRecDepth 100000 in
set_option maxHeartbeats 16000000 in
theorem texts_call (nd : ByteArray) (cl : Int) (un dn : Bool) (c : VC) (d : Val) (w : World) (hd : IsVal (· < w.heap.size) w c d) (hT : Tabs w) (hZ : ZTab w) (hNV : NumVars w) :
    Calls Tryz.prog 6 #[.agg #[.string nd, .int .i64 cl, .bool un, .bool dn, .int .i64 c.k, .int .i64 c.i, .int .i64 c.s, .string c.t, .slice c.la c.ll c.lc, .slice c.fa c.fl c.fc]] w fun e w' => e = .returned (.bool true) ∧ Below w.heap.size w w' := by
  obtain ⟨T, hTT⟩ : ∃ T, T = w.heap.size := ⟨_, rfl⟩
  obtain ⟨w0, hw0⟩ : ∃ w0, w0 = w.alloc (.cells #[.string nd, .int .i64 cl, .bool un, .bool dn, .int .i64 c.k, .int .i64 c.i, .int .i64 c.s, .string c.t, .slice c.la c.ll c.lc, .slice c.fa c.fl c.fc] 45) := ⟨_, rfl⟩
  have hz0 : w0.heap[T]? = some (.cells #[.string nd, .int .i64 cl, .bool un, .bool dn, .int .i64 c.k, .int .i64 c.i, .int .i64 c.s, .string c.t, .slice c.la c.ll c.lc, .slice c.fa c.fl c.fc] 45) := by rw [hw0, hTT]; exact heap_alloc_new w _
  have hb0 : Below w.heap.size w w0 := by rw [hw0]; exact (Below.refl _ w).alloc (Nat.le_refl _) _
  have HFT := hid (fun (W' : World) (h : Below w0.heap.size w0 W') => (show W'.cell? ⟨T, 0, none⟩ = some (.string nd) ∧ W'.cell? ⟨T, 1, none⟩ = some (.int .i64 cl) ∧ W'.cell? ⟨T, 2, none⟩ = some (.bool un) ∧ W'.cell? ⟨T, 3, none⟩ = some (.bool dn) ∧ (loadCellsFrom ⟨T, 4, none⟩ 0 6 #[]).run Tryz.prog W' = .ok #[.int .i64 c.k, .int .i64 c.i, .int .i64 c.s, .string c.t, .slice c.la c.ll c.lc, .slice c.fa c.fl c.fc] W' ∧ (loadCellsFrom ⟨T, 0, none⟩ 0 10 #[]).run Tryz.prog W' = .ok #[.string nd, .int .i64 cl, .bool un, .bool dn, .int .i64 c.k, .int .i64 c.i, .int .i64 c.s, .string c.t, .slice c.la c.ll c.lc, .slice c.fa c.fl c.fc] W' from
    ⟨cellOf (heapExt h hz0) 0, cellOf (heapExt h hz0) 1, cellOf (heapExt h hz0) 2, cellOf (heapExt h hz0) 3, ldAt (heapExt h hz0) rfl rfl rfl rfl rfl rfl, ldAll (P := Tryz.prog) (vs := [.string nd, .int .i64 cl, .bool un, .bool dn, .int .i64 c.k, .int .i64 c.i, .int .i64 c.s, .string c.t, .slice c.la c.ll c.lc, .slice c.fa c.fl c.fc]) (heapExt h hz0)⟩))
  have hI0 : IsVal (· < w0.heap.size) w0 c d := hd.same fun j hj => ⟨Nat.lt_of_lt_of_le hj hb0.size, hb0.block j hj⟩
  have HI := hid (fun (W' : World) (h : Below w0.heap.size w0 W') => (show IsVal (· < W'.heap.size) W' c d from hI0.same fun j hj => ⟨Nat.lt_of_lt_of_le hj h.size, h.block j hj⟩))
  have HT := hid (fun (W' : World) (h : Below w0.heap.size w0 W') => (hT.below hb0).below h)
  have HZ := hid (fun (W' : World) (h : Below w0.heap.size w0 W') => (hZ.below hb0).below h)
  have HV := hid (fun (W' : World) (h : Below w0.heap.size w0 W') => (hNV.below hb0).below h)
  have HNM := hid hd.named
  have HK := hid (fun (W' : World) (h : Below w0.heap.size w0 W') => known50_call W' (HT.out W' h) (HV.out W' h))
  have HB0 := hid hb0
  have HW := hid hw0
  have HTT := hid hTT
  have stq := stQ
  obtain ⟨a0, a1, a2, a3, a4, a5⟩ := HFT.out w0 (Below.refl _ _)
  clear hz0 hI0 hd hT hZ hNV hb0 hw0 hTT
  by_cases h100 : 100 < nd.size
  · have q1 : (100 : Int) < (nd.size : Int) := by omega
    clear h100
    go_enter Tryz.func6, Tryz.ntmps6
    go_upto_region 1 with (fail)
    rw [← HW.out, ← HTT.out]
    go_wp2_with (first
      | (go_at_call 15; refine (HK.out w0 (Below.refl _ _)).mono ?_; rintro e w1 ⟨rfl, hb1⟩; obtain ⟨b0, b1, b2, b3, b4, b5⟩ := HFT.out w1 (hb1); have HB1 := hid hb1; clear hb1)
      | (go_at_call 15; refine (HK.out w1 HB1.out).mono ?_; rintro e w2 ⟨rfl, hb2⟩; have HB2 := hid hb2; clear hb2))
    go_ret
    exact ⟨rfl, HB0.out.trans ((HB1.out.trans (HB2.out.mono HB1.out.size)).mono HB0.out.size)⟩
  have q1 : ¬ (100 : Int) < (nd.size : Int) := by omega
  have HNZ := hid (show nd.size ≤ 1000000 by omega)
  clear h100
  go_enter Tryz.func6, Tryz.ntmps6
  go_upto_region 1 with (fail)
  rw [← HW.out, ← HTT.out]
  go_upto_if 28 with (first
    | (go_at_call 26; refine (smallV_call c d w1 (HI.out w1 HB1.out)).mono ?_; rintro e w2 ⟨⟨bb, rfl⟩, hb2⟩; have HB2 := hid (HB1.out.trans (hb2.mono HB1.out.size)); clear hb2)
    | (go_at_call 15; refine (HK.out w0 (Below.refl _ _)).mono ?_; rintro e w1 ⟨rfl, hb1⟩; obtain ⟨b0, b1, b2, b3, b4, b5⟩ := HFT.out w1 (hb1); have HB1 := hid hb1; clear hb1))
  cases bb
  · simp only [Bool.not_false, Bool.or_true]
    go_wp2_with (go_at_call 15; refine (HK.out w2 HB2.out).mono ?_; rintro e w3 ⟨rfl, hb3⟩; have HB3 := hid hb3; clear hb3)
    go_ret
    exact ⟨rfl, HB0.out.trans ((HB2.out.trans (HB3.out.mono HB2.out.size)).mono HB0.out.size)⟩
  simp only [Bool.not_true, Bool.or_false]
  obtain ⟨e0, e1, e2, e3, e4, e5⟩ := HFT.out w2 (HB2.out)
  go_upto_region 4 with (fail)
  clear stq a0 a1 a2 a3 a4 a5 b0 b1 b2 b3 b4 b5 e0 e1 e2 e3 e4 e5
  obtain ⟨Q, hQ⟩ : ∃ Q, Q = w2.heap.size := ⟨_, rfl⟩
  obtain ⟨w3, hw3⟩ : ∃ w3, w3 = w2.alloc (.cells #[.string nd, .int .i64 cl, .bool un, .int .i64 c.k, .int .i64 c.i, .int .i64 c.s, .string c.t, .slice c.la c.ll c.lc, .slice c.fa c.fl c.fc] 48) := ⟨_, rfl⟩
  rw [← hw3, ← hQ]
  have hz3 : w3.heap[Q]? = some (.cells #[.string nd, .int .i64 cl, .bool un, .int .i64 c.k, .int .i64 c.i, .int .i64 c.s, .string c.t, .slice c.la c.ll c.lc, .slice c.fa c.fl c.fc] 48) := by rw [hw3, hQ]; exact heap_alloc_new w2 _
  have hb3 : Below w0.heap.size w0 w3 := by rw [hw3]; exact HB2.out.alloc HB2.out.size _
  have HFQ := hid (fun (W' : World) (h : Below w3.heap.size w3 W') => (show (loadCellsFrom ⟨Q, 0, none⟩ 0 9 #[]).run Tryz.prog W' = .ok #[.string nd, .int .i64 cl, .bool un, .int .i64 c.k, .int .i64 c.i, .int .i64 c.s, .string c.t, .slice c.la c.ll c.lc, .slice c.fa c.fl c.fc] W' from ldAll (P := Tryz.prog) (vs := [.string nd, .int .i64 cl, .bool un, .int .i64 c.k, .int .i64 c.i, .int .i64 c.s, .string c.t, .slice c.la c.ll c.lc, .slice c.fa c.fl c.fc]) (heapExt h hz3)))
  have HB3 := hid hb3
  clear hw3 hQ hz3
  obtain ⟨R1, hR1⟩ : ∃ R, R = fldF nd cl d [wdB un] := ⟨_, rfl⟩
  obtain ⟨R2, hR2⟩ : ∃ R, R = fldF nd cl d [wdB un, dnB dn] := ⟨_, rfl⟩
  have HC1 := hid (fun (W' : World) (h : Below w0.heap.size w0 W') => (show Calls Tryz.prog 27 #[.agg #[.string nd, .int .i64 cl, .bool un, .int .i64 c.k, .int .i64 c.i, .int .i64 c.s, .string c.t, .slice c.la c.ll c.lc, .slice c.fa c.fl c.fc]] W' fun e w' => e = .returned (.tuple #[.string R1.1, .int .i64 R1.2]) ∧ Below W'.heap.size W' w' by
    rw [hR1]; exact reqT_call nd cl un c d W' (HI.out W' h) (HT.out W' h) (HZ.out W' h)))
  have HC2 := hid (fun (W' : World) (h : Below w0.heap.size w0 W') => (show Calls Tryz.prog 28 #[.agg #[.string nd, .int .i64 cl, .bool un, .bool dn, .int .i64 c.k, .int .i64 c.i, .int .i64 c.s, .string c.t, .slice c.la c.ll c.lc, .slice c.fa c.fl c.fc]] W' fun e w' => e = .returned (.tuple #[.string R2.1, .int .i64 R2.2]) ∧ Below W'.heap.size W' w' by
    rw [hR2]; exact repT_call nd cl un dn c d W' (HI.out W' h) (HT.out W' h) (HZ.out W' h)))
  have HC3 := hid (fun (W' : World) (h : Below w0.heap.size w0 W') => (show Calls Tryz.prog 29 #[.agg #[.string nd, .int .i64 cl, .bool un, .int .i64 c.k, .int .i64 c.i, .int .i64 c.s, .string c.t, .slice c.la c.ll c.lc, .slice c.fa c.fl c.fc]] W' fun e w' => e = .returned (.tuple #[.string R1.1, .int .i64 R1.2]) ∧ Below W'.heap.size W' w' by
    rw [hR1]; exact lReqT_call nd cl un c d W' (HI.out W' h) (HT.out W' h) (HZ.out W' h) HNZ.out))
  have HC4 := hid (fun (W' : World) (h : Below w0.heap.size w0 W') => (show Calls Tryz.prog 30 #[.agg #[.string nd, .int .i64 cl, .bool un, .bool dn, .int .i64 c.k, .int .i64 c.i, .int .i64 c.s, .string c.t, .slice c.la c.ll c.lc, .slice c.fa c.fl c.fc]] W' fun e w' => e = .returned (.tuple #[.string R2.1, .int .i64 R2.2]) ∧ Below W'.heap.size W' w' by
    rw [hR2]; exact lRepT_call nd cl un dn c d W' (HI.out W' h) (HT.out W' h) (HZ.out W' h) HNZ.out))
  have HS1 := hid (show R1.1.size ≤ 65536 by rw [hR1]; exact fldF_size _ _ _ _)
  have HS2 := hid (show R2.1.size ≤ 65536 by rw [hR2]; exact fldF_size _ _ _ _)
  have HP1 := hid (show R1.2 = 0 → pReq R1.1 = ((nd, cl, un, d), 0) by
    rw [hR1]; intro h
    exact (req_of h rfl (lit_back (fldF_inv h rfl).2.2.2.1 HNM.out)).1)
  have HP2 := hid (show R2.2 = 0 → pRep R2.1 = ((nd, cl, un, dn, d), 0) by
    rw [hR2]; intro h
    exact (rep_of h rfl (lit_back (fldF_inv h rfl).2.2.2.1 HNM.out)).1)
  clear hR1 hR2 hb3
  have l3 := HFQ.out w3 (Below.refl _ _)
  go_upto_region 5 with (go_at_call 27; refine (HC1.out w3 HB3.out).mono ?_; rintro e w4 ⟨rfl, hb4⟩; have HX4 := hid hb4; have HB4 := hid (HB3.out.trans (hb4.mono HB3.out.size)); clear hb4)
  clear l3
  obtain ⟨a0, a1, a2, a3, a4, a5⟩ := HFT.out w4 (HB4.out)
  go_upto_region 6 with (go_at_call 28; refine (HC2.out w4 HB4.out).mono ?_; rintro e w5 ⟨rfl, hb5⟩; have HX5 := hid (HX4.out.trans (hb5.mono HX4.out.size)); have HB5 := hid (HB4.out.trans (hb5.mono HB4.out.size)); clear hb5)
  clear a0 a1 a2 a3 a4 a5
  have l5 := HFQ.out w5 HX5.out
  go_upto_region 7 with (go_at_call 29; refine (HC3.out w5 HB5.out).mono ?_; rintro e w6 ⟨rfl, hb6⟩; have HB6 := hid (HB5.out.trans (hb6.mono HB5.out.size)); clear hb6)
  clear l5
  obtain ⟨a0, a1, a2, a3, a4, a5⟩ := HFT.out w6 (HB6.out)
  go_upto_region 8 with (go_at_call 30; refine (HC4.out w6 HB6.out).mono ?_; rintro e w7 ⟨rfl, hb7⟩; have HB7 := hid (HB6.out.trans (hb7.mono HB6.out.size)); clear hb7)
  clear a0 a1 a2 a3 a4 a5 HX4 HX5 HFQ HC1 HC2 HC3 HC4 HK
  go_upto_if 78 with (fail)
  go_cut [] (fun wz => Below w0.heap.size w0 wz)
  case first =>
    by_cases h0 : R1.2 = 0
    · have q0 : (R1.2 == 0) = true := by simp [h0]
      have hpc := pReq_call R1.1 w7 HS1.out (HT.out w7 HB7.out) (HZ.out w7 HB7.out) (HV.out w7 HB7.out)
      rw [HP1.out h0] at hpc
      dsimp only at hpc
      have HPC := hid hpc
      clear hpc h0
      have stq := stQ
      go_upto_region 12 with (go_at_call 31; refine HPC.out.mono ?_; rintro e w8 ⟨v, rfl, hv8, hb8⟩; have HV8 := hid hv8; have HX8 := hid hb8; clear hv8 hb8)
      obtain ⟨T1, hT1⟩ : ∃ T, T = w8.heap.size := ⟨_, rfl⟩
      obtain ⟨w9, hw9⟩ : ∃ W, W = w8.alloc (.cells #[.string nd, .int .i64 cl, .bool un, .int .i64 v.k, .int .i64 v.i, .int .i64 v.s, .string v.t, .slice v.la v.ll v.lc, .slice v.fa v.fl v.fc] 48) := ⟨_, rfl⟩
      rw [← hw9, ← hT1]
      have hz9 : w9.heap[T1]? = some (.cells #[.string nd, .int .i64 cl, .bool un, .int .i64 v.k, .int .i64 v.i, .int .i64 v.s, .string v.t, .slice v.la v.ll v.lc, .slice v.fa v.fl v.fc] 48) := by rw [hw9, hT1]; exact heap_alloc_new w8 _
      have hb9 : Below w0.heap.size w0 w9 := by rw [hw9]; exact (HB7.out.trans (HX8.out.mono HB7.out.size)).alloc (HB7.out.trans (HX8.out.mono HB7.out.size)).size _
      have hv9 : IsVal (· < w9.heap.size) w9 v d := by
        rw [hw9]
        exact HV8.out.same fun j hj => ⟨by rw [World.size_alloc]; omega, heap_alloc_old w8 _ _ hj.2⟩
      have heq := valEqual_call v c d d w9 hv9 (HI.out w9 hb9)
      rw [cmpV_refl] at heq
      have HEQ := hid heq
      have HB9 := hid hb9
      have m0 := cellOf hz9 0
      have m1 := cellOf hz9 1
      have m2 := cellOf hz9 2
      have m3 := ldAt (k := 3) hz9 rfl rfl rfl rfl rfl rfl
      obtain ⟨a0, a1, a2, a3, a4, a5⟩ := HFT.out w9 (HB9.out)
      clear hT1 hw9 hz9 hb9 hv9 heq stq
      go_wp2_with (go_at_call 32; refine HEQ.out.mono ?_; rintro e w10 ⟨rfl, hb10⟩; have HB10 := hid (HB9.out.trans (hb10.mono HB9.out.size)); clear hb10)
      go_meet
      exact HB10.out
    · have q0 : (R1.2 == 0) = false := by simp [h0]
      clear h0
      go_wp2
      go_meet
      exact HB7.out
  case rest =>
  obtain ⟨w11, hw11⟩ : ∃ u, u = wc := ⟨_, rfl⟩
  rw [← hw11] at hcut ⊢
  clear hw11
  have HB11 := hid hcut
  clear hcut
  by_cases h0 : R2.2 = 0
  · have q0 : (R2.2 != 0) = false := by simp [h0]
    have hpc := pRep_call R2.1 w11 HS2.out (HT.out w11 HB11.out) (HZ.out w11 HB11.out) (HV.out w11 HB11.out)
    rw [HP2.out h0] at hpc
    dsimp only at hpc
    have HPC := hid hpc
    clear hpc h0
    have str := stR
    go_upto_region 17 with (go_at_call 33; refine HPC.out.mono ?_; rintro e w12 ⟨v, rfl, hv12, hb12⟩; have HV12 := hid hv12; have HX12 := hid hb12; clear hv12 hb12)
    obtain ⟨T1, hT1⟩ : ∃ T, T = w12.heap.size := ⟨_, rfl⟩
    obtain ⟨w13, hw13⟩ : ∃ W, W = w12.alloc (.cells #[.string nd, .int .i64 cl, .bool un, .bool dn, .int .i64 v.k, .int .i64 v.i, .int .i64 v.s, .string v.t, .slice v.la v.ll v.lc, .slice v.fa v.fl v.fc] 45) := ⟨_, rfl⟩
    rw [← hw13, ← hT1]
    have hz13 : w13.heap[T1]? = some (.cells #[.string nd, .int .i64 cl, .bool un, .bool dn, .int .i64 v.k, .int .i64 v.i, .int .i64 v.s, .string v.t, .slice v.la v.ll v.lc, .slice v.fa v.fl v.fc] 45) := by rw [hw13, hT1]; exact heap_alloc_new w12 _
    have hb13 : Below w0.heap.size w0 w13 := by rw [hw13]; exact (HB11.out.trans (HX12.out.mono HB11.out.size)).alloc (HB11.out.trans (HX12.out.mono HB11.out.size)).size _
    have hv13 : IsVal (· < w13.heap.size) w13 v d := by
      rw [hw13]
      exact HV12.out.same fun j hj => ⟨by rw [World.size_alloc]; omega, heap_alloc_old w12 _ _ hj.2⟩
    have heq := valEqual_call v c d d w13 hv13 (HI.out w13 hb13)
    rw [cmpV_refl] at heq
    have HEQ := hid heq
    have HB13 := hid hb13
    have m0 := cellOf hz13 0
    have m1 := cellOf hz13 1
    have m2 := cellOf hz13 2
    have m3 := cellOf hz13 3
    have m4 := ldAt (k := 4) hz13 rfl rfl rfl rfl rfl rfl
    obtain ⟨a0, a1, a2, a3, a4, a5⟩ := HFT.out w13 (HB13.out)
    clear hT1 hw13 hz13 hb13 hv13 heq str
    go_wp2_with (go_at_call 32; refine HEQ.out.mono ?_; rintro e w14 ⟨rfl, hb14⟩; have HB14 := hid (HB13.out.trans (hb14.mono HB13.out.size)); clear hb14)
    go_ret
    exact ⟨rfl, HB0.out.trans (HB14.out.mono HB0.out.size)⟩
  · have q0 : (R2.2 != 0) = true := by simp [h0]
    clear h0
    go_wp2
    go_ret
    exact ⟨rfl, HB0.out.trans (HB11.out.mono HB0.out.size)⟩
end
end
end Go.Proofs.YtkljbfaemahchaaGreatDoor
