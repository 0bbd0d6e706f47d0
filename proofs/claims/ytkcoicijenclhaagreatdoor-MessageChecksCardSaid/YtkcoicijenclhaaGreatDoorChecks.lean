/-
  MessageChecks returns true. Conditions: the arguments can be read as data; Tabs.
-/
import Derived.Test.YtkcoicijenclhaaGreatDoorKnown
import Derived.Test.YtkcoicijenclhaaGreatDoorLawCheck
import Derived.Test.YtkcoicijenclhaaGreatDoorEq
import Derived.Test.YtkcoicijenclhaaGreatDoorSymm
namespace Go.Proofs.YtkcoicijenclhaaGreatDoor
open Go Go.RowKit Go.Shelf
set_option linter.unusedVariables false
set_option linter.unusedSimpArgs false

set_option maxRecDepth 100000 in
set_option maxHeartbeats 16000000 in
theorem checks_call (c : MC) (d : Msg) (c2 : MC) (d2 : Msg) (w : World) (hd : IsMsg (· < w.heap.size) w c d) (hd2 : IsMsg (· < w.heap.size) w c2 d2) (hT : Tabs w) : Calls Tryz.prog 7 #[c.v, c2.v] w fun e w' => e = .returned (.bool true) ∧ Below w.heap.size w w' := by
  obtain ⟨wb, hwb⟩ : ∃ wb, wb = ((w.alloc (mObj c)).alloc (mObj c2)) := ⟨_, rfl⟩
  have hb0 : Below w.heap.size w wb := by rw [hwb]; exact ((Below.refl _ w).alloc (Nat.le_refl _) _).alloc (by simp) _
  have g1 : wb.heap[w.heap.size]? = some (mObj c) := by rw [hwb]; exact heapAlloc _ (heap_alloc_new w _)
  have g2 : wb.heap[w.heap.size + 1]? = some (mObj c2) := by rw [hwb]; exact heapNewAt _ _ _ (by simp)
  have later : ∀ w2, Below wb.heap.size wb w2 → IsMsg (· < w2.heap.size) w2 c d ∧ IsMsg (· < w2.heap.size) w2 c2 d2 ∧ Tabs w2 := fun w2 h => by
    have hb := hb0.trans (h.mono hb0.size)
    exact ⟨hd.same fun b q => ⟨Nat.lt_of_lt_of_le q hb.size, hb.block b q⟩, hd2.same fun b q => ⟨Nat.lt_of_lt_of_le q hb.size, hb.block b q⟩, hT.below hb⟩
  obtain ⟨u, hu⟩ : ∃ u, u = msgE d := ⟨_, rfl⟩
  obtain ⟨u2, hu2⟩ : ∃ u2, u2 = msgE d2 := ⟨_, rfl⟩
  obtain ⟨v, hv⟩ : ∃ v, v = msgEqB d d2 := ⟨_, rfl⟩
  have HK : Hid (∀ w2, Below wb.heap.size wb w2 → Calls Tryz.prog 15 #[] w2 fun e w' => e = .returned (.bool true) ∧ Below w2.heap.size w2 w') := hid fun w2 h => known_call w2 (later w2 h).2.2
  have HS1 : Hid (∀ w2, Below wb.heap.size wb w2 → Calls Tryz.prog 22 #[c.v] w2 (SmallPost w2 c)) := hid fun w2 h => small_call c d w2 (later w2 h).1
  have HS2 : Hid (∀ w2, Below wb.heap.size wb w2 → Calls Tryz.prog 22 #[c2.v] w2 (SmallPost w2 c2)) := hid fun w2 h => small_call c2 d2 w2 (later w2 h).2.1
  have HA : Hid (∀ w2, Below wb.heap.size wb w2 → Calls Tryz.prog 16 #[c.v] w2 fun e w' => e = .returned (.int .i64 u) ∧ Below w2.heap.size w2 w') := hid fun w2 h => by rw [hu]; exact msgCheck_call c d w2 (later w2 h).1 (later w2 h).2.2
  have HA' : Hid (∀ w2, Below wb.heap.size wb w2 → Calls Tryz.prog 30 #[c.v] w2 fun e w' => e = .returned (.int .i64 u) ∧ Below w2.heap.size w2 w') := hid fun w2 h => by rw [hu]; exact lawCheck_call c d w2 (later w2 h).1 (later w2 h).2.2
  have HB : Hid (∀ w2, Below wb.heap.size wb w2 → Calls Tryz.prog 16 #[c2.v] w2 fun e w' => e = .returned (.int .i64 u2) ∧ Below w2.heap.size w2 w') := hid fun w2 h => by rw [hu2]; exact msgCheck_call c2 d2 w2 (later w2 h).2.1 (later w2 h).2.2
  have HB' : Hid (∀ w2, Below wb.heap.size wb w2 → Calls Tryz.prog 30 #[c2.v] w2 fun e w' => e = .returned (.int .i64 u2) ∧ Below w2.heap.size w2 w') := hid fun w2 h => by rw [hu2]; exact lawCheck_call c2 d2 w2 (later w2 h).2.1 (later w2 h).2.2
  have HE : Hid (∀ w2, Below wb.heap.size wb w2 → Calls Tryz.prog 31 #[c.v, c2.v] w2 fun e w' => e = .returned (.bool v) ∧ Below w2.heap.size w2 w') := hid fun w2 h => by rw [hv]; exact msgEqual_call c c2 d d2 w2 (later w2 h).1 (later w2 h).2.1
  have HE' : Hid (∀ w2, Below wb.heap.size wb w2 → Calls Tryz.prog 21 #[c.v, c2.v] w2 fun e w' => e = .returned (.bool v) ∧ Below w2.heap.size w2 w') := hid fun w2 h => by rw [hv]; exact same_call c c2 d d2 w2 (later w2 h).1 (later w2 h).2.1
  have HG : Hid (∀ w2, Below wb.heap.size wb w2 → Calls Tryz.prog 31 #[c2.v, c.v] w2 fun e w' => e = .returned (.bool v) ∧ Below w2.heap.size w2 w') := hid fun w2 h => by rw [hv, msgEqB_symm]; exact msgEqual_call c2 c d2 d w2 (later w2 h).2.1 (later w2 h).1
  have HR : Hid (∀ w2, Below wb.heap.size wb w2 → Calls Tryz.prog 31 #[c.v, c.v] w2 fun e w' => e = .returned (.bool true) ∧ Below w2.heap.size w2 w') := hid fun w2 h => by rw [← msgEqB_refl d]; exact msgEqual_call c c d d w2 (later w2 h).1 (later w2 h).1
  have HCL : Hid (∀ w2, Below wb.heap.size wb w2 → Calls Tryz.prog 32 #[c.v] w2 (MsgPost w2 d)) := hid fun w2 h => msgClone_call c d w2 (later w2 h).1
  have HSC : Hid (∀ (w2 : World) (c1 : MC), Below wb.heap.size wb w2 → IsMsg (· < w2.heap.size) w2 c1 d → Calls Tryz.prog 21 #[c1.v, c.v] w2 fun e w' => e = .returned (.bool true) ∧ Below w2.heap.size w2 w') := hid fun w2 c1 h hi => by rw [← msgEqB_refl d]; exact same_call c1 c d d w2 hi (later w2 h).1
  have HC : Hid (∀ w', Below wb.heap.size wb w' → w'.cell? ⟨w.heap.size, 0, none⟩ = some (.int .i64 c.st.e) ∧ w'.cell? ⟨w.heap.size, 1, none⟩ = some (.slice c.st.a c.st.n c.st.c) ∧ w'.cell? ⟨w.heap.size, 2, none⟩ = some (.int .i64 c.m) ∧ w'.cell? ⟨w.heap.size, 3, none⟩ = some (.slice c.a c.n c.c) ∧ w'.cell? ⟨w.heap.size, 4, none⟩ = some (.int .i64 c.b.k) ∧ w'.cell? ⟨w.heap.size, 5, none⟩ = some (.int .i64 c.b.i) ∧ w'.cell? ⟨w.heap.size, 6, none⟩ = some (.int .i64 c.b.s) ∧ w'.cell? ⟨w.heap.size, 7, none⟩ = some (.string c.b.t) ∧ w'.cell? ⟨w.heap.size, 8, none⟩ = some (.slice c.b.la c.b.ll c.b.lc) ∧ w'.cell? ⟨w.heap.size, 9, none⟩ = some (.slice c.b.fa c.b.fl c.b.fc) ∧ w'.cell? ⟨w.heap.size + 1, 0, none⟩ = some (.int .i64 c2.st.e) ∧ w'.cell? ⟨w.heap.size + 1, 1, none⟩ = some (.slice c2.st.a c2.st.n c2.st.c) ∧ w'.cell? ⟨w.heap.size + 1, 2, none⟩ = some (.int .i64 c2.m) ∧ w'.cell? ⟨w.heap.size + 1, 3, none⟩ = some (.slice c2.a c2.n c2.c) ∧ w'.cell? ⟨w.heap.size + 1, 4, none⟩ = some (.int .i64 c2.b.k) ∧ w'.cell? ⟨w.heap.size + 1, 5, none⟩ = some (.int .i64 c2.b.i) ∧ w'.cell? ⟨w.heap.size + 1, 6, none⟩ = some (.int .i64 c2.b.s) ∧ w'.cell? ⟨w.heap.size + 1, 7, none⟩ = some (.string c2.b.t) ∧ w'.cell? ⟨w.heap.size + 1, 8, none⟩ = some (.slice c2.b.la c2.b.ll c2.b.lc) ∧ w'.cell? ⟨w.heap.size + 1, 9, none⟩ = some (.slice c2.b.fa c2.b.fl c2.b.fc)) := hid fun w' h => by
    have h1 := heapExt h g1
    have h2 := heapExt h g2
    exact ⟨cellOf h1 0, cellOf h1 1, cellOf h1 2, cellOf h1 3, cellOf h1 4, cellOf h1 5, cellOf h1 6, cellOf h1 7, cellOf h1 8, cellOf h1 9, cellOf h2 0, cellOf h2 1, cellOf h2 2, cellOf h2 3, cellOf h2 4, cellOf h2 5, cellOf h2 6, cellOf h2 7, cellOf h2 8, cellOf h2 9⟩
  have HREF : Hid (Below wb.heap.size wb ((w.alloc (mObj c)).alloc (mObj c2))) := hid (by rw [← hwb]; exact Below.refl _ _)
  have HEQ := hid hwb
  have HWB := hid hb0
  clear later hu hu2 hv hd hd2 hT hb0 g1 g2 hwb
  obtain ⟨⟨ce, sa, sn, sc⟩, m, a, n, cap, ⟨k, i', s, t, la, ll, lc, fa, fl, fc⟩⟩ := c
  obtain ⟨⟨ce2, sa2, sn2, sc2⟩, m2, a2, n2, cap2, ⟨k2, i2, s2, t2, la2, ll2, lc2, fa2, fl2, fc2⟩⟩ := c2
  dsimp only [mObj, MC.v] at HS1 HS2 HA HA' HB HB' HE HE' HG HR HCL HSC HC HREF HEQ ⊢
  go_enter Tryz.func7, Tryz.ntmps7
  go_upto_region 3 with (first
    | (go_at_call 15; refine (HK.out _ hb4).mono ?_; rintro e w9 ⟨rfl, hb9⟩; have hbz := HWB.out.trans ((hb4.trans (hb9.mono hb4.size)).mono HWB.out.size))
    | (go_at_call 15; refine (HK.out _ hb3).mono ?_; rintro e w9 ⟨rfl, hb9⟩; have hbz := HWB.out.trans ((hb3.trans (hb9.mono hb3.size)).mono HWB.out.size))
    | (go_at_call 15; refine (HK.out _ HREF.out).mono ?_; rintro e w2 ⟨rfl, hb2⟩; rw [← HEQ.out] at hb2; obtain ⟨e0, e1, e2, e3, e4, e5, e6, e7, e8, e9, f0, f1, f2, f3, f4, f5, f6, f7, f8, f9⟩ := HC.out _ hb2)
    | (go_at_call 22; refine (HS2.out _ hb3).mono ?_; rintro e w4 ⟨⟨b2, rfl, hs2⟩, hb4'⟩; have hb4 := hb3.trans (hb4'.mono hb3.size); clear j0 j1 j2 j3 j4 j5 j6 j7 j8 j9 l0 l1 l2 l3 l4 l5 l6 l7 l8 l9; obtain ⟨p0, p1, p2, p3, p4, p5, p6, p7, p8, p9, r0, r1, r2, r3, r4, r5, r6, r7, r8, r9⟩ := HC.out _ hb4; cases b2)
    | (go_at_call 22; refine (HS1.out _ hb2).mono ?_; rintro e w3 ⟨⟨b1, rfl, hs1⟩, hb3'⟩; have hb3 := hb2.trans (hb3'.mono hb2.size); clear e0 e1 e2 e3 e4 e5 e6 e7 e8 e9 f0 f1 f2 f3 f4 f5 f6 f7 f8 f9; obtain ⟨j0, j1, j2, j3, j4, j5, j6, j7, j8, j9, l0, l1, l2, l3, l4, l5, l6, l7, l8, l9⟩ := HC.out _ hb3; cases b1))
  · go_ret
    exact ⟨rfl, hbz⟩
  · go_ret
    exact ⟨rfl, hbz⟩
  have hbx := hb4
  clear p0 p1 p2 p3 p4 p5 p6 p7 p8 p9 r0 r1 r2 r3 r4 r5 r6 r7 r8 r9 hb2 hb3 hb4 hb3' hb4' hs1 hs2
  refine wp_region_split 41 (fun w' => Below wb.heap.size wb w') (by kernel_rfl) (by kernel_rfl) (by kernel_rfl) (by decide) (hbx.drew) (fun hS => ?_)
  simp only [List.take_succ_cons, List.take_zero, List.drop_succ_cons, List.drop_zero]
  refine wpAnyH_take (i := 0) (oi := _) (v := ?_) rfl (by kernel_rfl) (by kernel_rfl) (by kernel_rfl) (fun _ _ _ h => h) (Or.inl ⟨by rfl, ?_⟩) hS ?_
  rotate_left
  · intro w' hw'
    have hcells := HC.out w' hw'
    go_simp
    (try with_reducible rfl)
  simp only [Act.put, List.setIfInBounds_toArray, List.set_cons_zero, List.set_cons_succ]
  refine wpAnyH_take (i := 2) (oi := _) (v := ?_) rfl (by kernel_rfl) (by kernel_rfl) (by kernel_rfl) (fun _ _ _ h => h) (Or.inl ⟨by rfl, ?_⟩) hS ?_
  rotate_left
  · intro w' hw'
    have hcells := HC.out w' hw'
    go_simp
    (try with_reducible rfl)
  simp only [Act.put, List.setIfInBounds_toArray, List.set_cons_zero, List.set_cons_succ]
  refine wpAnyH_ready (rs := [1]) (by kernel_rfl) (by simp) ?_
  refine AllReadyH.cons (o := _) rfl (fun K hK => ?_) AllReadyH.nil
  go_simp; go_at_call 16; refine (HA.out _ hS).mono ?_
  rintro e w7 ⟨rfl, hb1⟩
  refine hK.out _ _ (hS.trans (hb1.mono hS.size)) (fun hS => ?_)
  clear hK K
  (try simp only [Act.put, List.setIfInBounds_toArray, List.set_cons_zero, List.set_cons_succ])
  refine wpAnyH_ready (rs := [3]) (by kernel_rfl) (by simp) ?_
  refine AllReadyH.cons (o := _) rfl (fun K hK => ?_) AllReadyH.nil
  go_simp; go_at_call 30; refine (HA'.out _ hS).mono ?_
  rintro e w7 ⟨rfl, hb1⟩
  refine hK.out _ _ (hS.trans (hb1.mono hS.size)) (fun hS => ?_)
  clear hK K
  (try simp only [Act.put, List.setIfInBounds_toArray, List.set_cons_zero, List.set_cons_succ])
  refine wpAnyH_take (i := 4) (oi := _) (v := ?_) rfl (by kernel_rfl) (by kernel_rfl) (by kernel_rfl) (fun _ _ _ h => h) (Or.inl ⟨by rfl, ?_⟩) hS ?_
  rotate_left
  · intro w' hw'
    have hcells := HC.out w' hw'
    go_simp
    (try with_reducible rfl)
  simp only [Act.put, List.setIfInBounds_toArray, List.set_cons_zero, List.set_cons_succ]
  refine wpAnyH_take (i := 5) (oi := _) (v := ?_) rfl (by kernel_rfl) (by kernel_rfl) (by kernel_rfl) (fun _ _ _ h => h) (Or.inl ⟨by rfl, ?_⟩) hS ?_
  rotate_left
  · intro w' hw'
    have hcells := HC.out w' hw'
    go_simp
    (try with_reducible rfl)
  simp only [Act.put, List.setIfInBounds_toArray, List.set_cons_zero, List.set_cons_succ]
  refine wpAnyH_take (i := 6) (oi := _) (v := ?_) rfl (by kernel_rfl) (by kernel_rfl) (by kernel_rfl) (fun _ _ _ h => h) (Or.inl ⟨by rfl, ?_⟩) hS ?_
  rotate_left
  · intro w' hw'
    have hcells := HC.out w' hw'
    go_simp
    (try with_reducible rfl)
  simp only [Act.put, List.setIfInBounds_toArray, List.set_cons_zero, List.set_cons_succ]
  refine wpAnyH_take (i := 8) (oi := _) (v := ?_) rfl (by kernel_rfl) (by kernel_rfl) (by kernel_rfl) (fun _ _ _ h => h) (Or.inl ⟨by rfl, ?_⟩) hS ?_
  rotate_left
  · intro w' hw'
    have hcells := HC.out w' hw'
    go_simp
    (try with_reducible rfl)
  simp only [Act.put, List.setIfInBounds_toArray, List.set_cons_zero, List.set_cons_succ]
  refine wpAnyH_ready (rs := [7]) (by kernel_rfl) (by simp) ?_
  refine AllReadyH.cons (o := _) rfl (fun K hK => ?_) AllReadyH.nil
  go_simp; go_at_call 16; refine (HB.out _ hS).mono ?_
  rintro e w7 ⟨rfl, hb1⟩
  refine hK.out _ _ (hS.trans (hb1.mono hS.size)) (fun hS => ?_)
  clear hK K
  (try simp only [Act.put, List.setIfInBounds_toArray, List.set_cons_zero, List.set_cons_succ])
  refine wpAnyH_ready (rs := [9]) (by kernel_rfl) (by simp) ?_
  refine AllReadyH.cons (o := _) rfl (fun K hK => ?_) AllReadyH.nil
  go_simp; go_at_call 30; refine (HB'.out _ hS).mono ?_
  rintro e w7 ⟨rfl, hb1⟩
  refine hK.out _ _ (hS.trans (hb1.mono hS.size)) (fun hS => ?_)
  clear hK K
  (try simp only [Act.put, List.setIfInBounds_toArray, List.set_cons_zero, List.set_cons_succ])
  refine wpAnyH_take (i := 10) (oi := _) (v := ?_) rfl (by kernel_rfl) (by kernel_rfl) (by kernel_rfl) (fun _ _ _ h => h) (Or.inl ⟨by rfl, ?_⟩) hS ?_
  rotate_left
  · intro w' hw'
    have hcells := HC.out w' hw'
    go_simp
    (try with_reducible rfl)
  simp only [Act.put, List.setIfInBounds_toArray, List.set_cons_zero, List.set_cons_succ]
  refine wpAnyH_take (i := 11) (oi := _) (v := ?_) rfl (by kernel_rfl) (by kernel_rfl) (by kernel_rfl) (fun _ _ _ h => h) (Or.inl ⟨by rfl, ?_⟩) hS ?_
  rotate_left
  · intro w' hw'
    have hcells := HC.out w' hw'
    go_simp
    (try with_reducible rfl)
  simp only [Act.put, List.setIfInBounds_toArray, List.set_cons_zero, List.set_cons_succ]
  refine wpAnyH_take (i := 12) (oi := _) (v := ?_) rfl (by kernel_rfl) (by kernel_rfl) (by kernel_rfl) (fun _ _ _ h => h) (Or.inl ⟨by rfl, ?_⟩) hS ?_
  rotate_left
  · intro w' hw'
    have hcells := HC.out w' hw'
    go_simp
    (try with_reducible rfl)
  simp only [Act.put, List.setIfInBounds_toArray, List.set_cons_zero, List.set_cons_succ]
  refine wpAnyH_take (i := 13) (oi := _) (v := ?_) rfl (by kernel_rfl) (by kernel_rfl) (by kernel_rfl) (fun _ _ _ h => h) (Or.inl ⟨by rfl, ?_⟩) hS ?_
  rotate_left
  · intro w' hw'
    have hcells := HC.out w' hw'
    go_simp
    (try with_reducible rfl)
  simp only [Act.put, List.setIfInBounds_toArray, List.set_cons_zero, List.set_cons_succ]
  refine wpAnyH_take (i := 14) (oi := _) (v := ?_) rfl (by kernel_rfl) (by kernel_rfl) (by kernel_rfl) (fun _ _ _ h => h) (Or.inl ⟨by rfl, ?_⟩) hS ?_
  rotate_left
  · intro w' hw'
    have hcells := HC.out w' hw'
    go_simp
    (try with_reducible rfl)
  simp only [Act.put, List.setIfInBounds_toArray, List.set_cons_zero, List.set_cons_succ]
  refine wpAnyH_take (i := 16) (oi := _) (v := ?_) rfl (by kernel_rfl) (by kernel_rfl) (by kernel_rfl) (fun _ _ _ h => h) (Or.inl ⟨by rfl, ?_⟩) hS ?_
  rotate_left
  · intro w' hw'
    have hcells := HC.out w' hw'
    go_simp
    (try with_reducible rfl)
  simp only [Act.put, List.setIfInBounds_toArray, List.set_cons_zero, List.set_cons_succ]
  refine wpAnyH_take (i := 17) (oi := _) (v := ?_) rfl (by kernel_rfl) (by kernel_rfl) (by kernel_rfl) (fun _ _ _ h => h) (Or.inl ⟨by rfl, ?_⟩) hS ?_
  rotate_left
  · intro w' hw'
    have hcells := HC.out w' hw'
    go_simp
    (try with_reducible rfl)
  simp only [Act.put, List.setIfInBounds_toArray, List.set_cons_zero, List.set_cons_succ]
  refine wpAnyH_ready (rs := [15]) (by kernel_rfl) (by simp) ?_
  refine AllReadyH.cons (o := _) rfl (fun K hK => ?_) AllReadyH.nil
  go_simp; go_at_call 31; refine (HE.out _ hS).mono ?_
  rintro e w7 ⟨rfl, hb1⟩
  refine hK.out _ _ (hS.trans (hb1.mono hS.size)) (fun hS => ?_)
  clear hK K
  (try simp only [Act.put, List.setIfInBounds_toArray, List.set_cons_zero, List.set_cons_succ])
  refine wpAnyH_ready (rs := [18]) (by kernel_rfl) (by simp) ?_
  refine AllReadyH.cons (o := _) rfl (fun K hK => ?_) AllReadyH.nil
  go_simp; go_at_call 21; refine (HE'.out _ hS).mono ?_
  rintro e w7 ⟨rfl, hb1⟩
  refine hK.out _ _ (hS.trans (hb1.mono hS.size)) (fun hS => ?_)
  clear hK K
  (try simp only [Act.put, List.setIfInBounds_toArray, List.set_cons_zero, List.set_cons_succ])
  refine wpAnyH_take (i := 19) (oi := _) (v := ?_) rfl (by kernel_rfl) (by kernel_rfl) (by kernel_rfl) (fun _ _ _ h => h) (Or.inl ⟨by rfl, ?_⟩) hS ?_
  rotate_left
  · intro w' hw'
    have hcells := HC.out w' hw'
    go_simp
    (try with_reducible rfl)
  simp only [Act.put, List.setIfInBounds_toArray, List.set_cons_zero, List.set_cons_succ]
  refine wpAnyH_take (i := 20) (oi := _) (v := ?_) rfl (by kernel_rfl) (by kernel_rfl) (by kernel_rfl) (fun _ _ _ h => h) (Or.inl ⟨by rfl, ?_⟩) hS ?_
  rotate_left
  · intro w' hw'
    have hcells := HC.out w' hw'
    go_simp
    (try with_reducible rfl)
  simp only [Act.put, List.setIfInBounds_toArray, List.set_cons_zero, List.set_cons_succ]
  refine wpAnyH_take (i := 21) (oi := _) (v := ?_) rfl (by kernel_rfl) (by kernel_rfl) (by kernel_rfl) (fun _ _ _ h => h) (Or.inl ⟨by rfl, ?_⟩) hS ?_
  rotate_left
  · intro w' hw'
    have hcells := HC.out w' hw'
    go_simp
    (try with_reducible rfl)
  simp only [Act.put, List.setIfInBounds_toArray, List.set_cons_zero, List.set_cons_succ]
  refine wpAnyH_take (i := 22) (oi := _) (v := ?_) rfl (by kernel_rfl) (by kernel_rfl) (by kernel_rfl) (fun _ _ _ h => h) (Or.inl ⟨by rfl, ?_⟩) hS ?_
  rotate_left
  · intro w' hw'
    have hcells := HC.out w' hw'
    go_simp
    (try with_reducible rfl)
  simp only [Act.put, List.setIfInBounds_toArray, List.set_cons_zero, List.set_cons_succ]
  refine wpAnyH_take (i := 23) (oi := _) (v := ?_) rfl (by kernel_rfl) (by kernel_rfl) (by kernel_rfl) (fun _ _ _ h => h) (Or.inl ⟨by rfl, ?_⟩) hS ?_
  rotate_left
  · intro w' hw'
    have hcells := HC.out w' hw'
    go_simp
    (try with_reducible rfl)
  simp only [Act.put, List.setIfInBounds_toArray, List.set_cons_zero, List.set_cons_succ]
  refine wpAnyH_take (i := 25) (oi := _) (v := ?_) rfl (by kernel_rfl) (by kernel_rfl) (by kernel_rfl) (fun _ _ _ h => h) (Or.inl ⟨by rfl, ?_⟩) hS ?_
  rotate_left
  · intro w' hw'
    have hcells := HC.out w' hw'
    go_simp
    (try with_reducible rfl)
  simp only [Act.put, List.setIfInBounds_toArray, List.set_cons_zero, List.set_cons_succ]
  refine wpAnyH_take (i := 26) (oi := _) (v := ?_) rfl (by kernel_rfl) (by kernel_rfl) (by kernel_rfl) (fun _ _ _ h => h) (Or.inl ⟨by rfl, ?_⟩) hS ?_
  rotate_left
  · intro w' hw'
    have hcells := HC.out w' hw'
    go_simp
    (try with_reducible rfl)
  simp only [Act.put, List.setIfInBounds_toArray, List.set_cons_zero, List.set_cons_succ]
  refine wpAnyH_ready (rs := [24]) (by kernel_rfl) (by simp) ?_
  refine AllReadyH.cons (o := _) rfl (fun K hK => ?_) AllReadyH.nil
  go_simp; go_at_call 31; refine (HG.out _ hS).mono ?_
  rintro e w7 ⟨rfl, hb1⟩
  refine hK.out _ _ (hS.trans (hb1.mono hS.size)) (fun hS => ?_)
  clear hK K
  (try simp only [Act.put, List.setIfInBounds_toArray, List.set_cons_zero, List.set_cons_succ])
  refine wpAnyH_ready (rs := [27]) (by kernel_rfl) (by simp) ?_
  refine AllReadyH.cons (o := _) rfl (fun K hK => ?_) AllReadyH.nil
  go_simp; go_at_call 21; refine (HE'.out _ hS).mono ?_
  rintro e w7 ⟨rfl, hb1⟩
  refine hK.out _ _ (hS.trans (hb1.mono hS.size)) (fun hS => ?_)
  clear hK K
  (try simp only [Act.put, List.setIfInBounds_toArray, List.set_cons_zero, List.set_cons_succ])
  refine wpAnyH_take (i := 28) (oi := _) (v := ?_) rfl (by kernel_rfl) (by kernel_rfl) (by kernel_rfl) (fun _ _ _ h => h) (Or.inl ⟨by rfl, ?_⟩) hS ?_
  rotate_left
  · intro w' hw'
    have hcells := HC.out w' hw'
    go_simp
    (try with_reducible rfl)
  simp only [Act.put, List.setIfInBounds_toArray, List.set_cons_zero, List.set_cons_succ]
  refine wpAnyH_take (i := 29) (oi := _) (v := ?_) rfl (by kernel_rfl) (by kernel_rfl) (by kernel_rfl) (fun _ _ _ h => h) (Or.inl ⟨by rfl, ?_⟩) hS ?_
  rotate_left
  · intro w' hw'
    have hcells := HC.out w' hw'
    go_simp
    (try with_reducible rfl)
  simp only [Act.put, List.setIfInBounds_toArray, List.set_cons_zero, List.set_cons_succ]
  refine wpAnyH_take (i := 30) (oi := _) (v := ?_) rfl (by kernel_rfl) (by kernel_rfl) (by kernel_rfl) (fun _ _ _ h => h) (Or.inl ⟨by rfl, ?_⟩) hS ?_
  rotate_left
  · intro w' hw'
    have hcells := HC.out w' hw'
    go_simp
    (try with_reducible rfl)
  simp only [Act.put, List.setIfInBounds_toArray, List.set_cons_zero, List.set_cons_succ]
  refine wpAnyH_take (i := 31) (oi := _) (v := ?_) rfl (by kernel_rfl) (by kernel_rfl) (by kernel_rfl) (fun _ _ _ h => h) (Or.inl ⟨by rfl, ?_⟩) hS ?_
  rotate_left
  · intro w' hw'
    have hcells := HC.out w' hw'
    go_simp
    (try with_reducible rfl)
  simp only [Act.put, List.setIfInBounds_toArray, List.set_cons_zero, List.set_cons_succ]
  refine wpAnyH_take (i := 32) (oi := _) (v := ?_) rfl (by kernel_rfl) (by kernel_rfl) (by kernel_rfl) (fun _ _ _ h => h) (Or.inl ⟨by rfl, ?_⟩) hS ?_
  rotate_left
  · intro w' hw'
    have hcells := HC.out w' hw'
    go_simp
    (try with_reducible rfl)
  simp only [Act.put, List.setIfInBounds_toArray, List.set_cons_zero, List.set_cons_succ]
  refine wpAnyH_ready (rs := [33]) (by kernel_rfl) (by simp) ?_
  refine AllReadyH.cons (o := _) rfl (fun K hK => ?_) AllReadyH.nil
  go_simp; go_at_call 31; refine (HR.out _ hS).mono ?_
  rintro e w7 ⟨rfl, hb1⟩
  refine hK.out _ _ (hS.trans (hb1.mono hS.size)) (fun hS => ?_)
  clear hK K
  (try simp only [Act.put, List.setIfInBounds_toArray, List.set_cons_zero, List.set_cons_succ])
  refine wpAnyH_take (i := 34) (oi := _) (v := ?_) rfl (by kernel_rfl) (by kernel_rfl) (by kernel_rfl) (fun _ _ _ h => h) (Or.inl ⟨by rfl, ?_⟩) hS ?_
  rotate_left
  · intro w' hw'
    have hcells := HC.out w' hw'
    go_simp
    (try with_reducible rfl)
  simp only [Act.put, List.setIfInBounds_toArray, List.set_cons_zero, List.set_cons_succ]
  refine wpAnyH_take (i := 35) (oi := _) (v := ?_) rfl (by kernel_rfl) (by kernel_rfl) (by kernel_rfl) (fun _ _ _ h => h) (Or.inl ⟨by rfl, ?_⟩) hS ?_
  rotate_left
  · intro w' hw'
    have hcells := HC.out w' hw'
    go_simp
    (try with_reducible rfl)
  simp only [Act.put, List.setIfInBounds_toArray, List.set_cons_zero, List.set_cons_succ]
  refine wpAnyH_take (i := 36) (oi := _) (v := ?_) rfl (by kernel_rfl) (by kernel_rfl) (by kernel_rfl) (fun _ _ _ h => h) (Or.inl ⟨by rfl, ?_⟩) hS ?_
  rotate_left
  · intro w' hw'
    have hcells := HC.out w' hw'
    go_simp
    (try with_reducible rfl)
  simp only [Act.put, List.setIfInBounds_toArray, List.set_cons_zero, List.set_cons_succ]
  refine wpAnyH_take (i := 38) (oi := _) (v := ?_) rfl (by kernel_rfl) (by kernel_rfl) (by kernel_rfl) (fun _ _ _ h => h) (Or.inl ⟨by rfl, ?_⟩) hS ?_
  rotate_left
  · intro w' hw'
    have hcells := HC.out w' hw'
    go_simp
    (try with_reducible rfl)
  simp only [Act.put, List.setIfInBounds_toArray, List.set_cons_zero, List.set_cons_succ]
  refine wpAnyH_ready (rs := [37]) (by kernel_rfl) (by simp) ?_
  refine AllReadyH.cons (o := _) rfl (fun K hK => ?_) AllReadyH.nil
  go_simp; go_at_call 32; refine (HCL.out _ hS).mono ?_
  rintro e w8 ⟨⟨⟨xe, xa, xn, xc⟩, xm, xb, xbn, xbc, ⟨yk, yi, ys, yt, yla, yll, ylc, yfa, yfl, yfc⟩⟩, rfl, hb1, hi1⟩
  have HSM := hid (HSC.out w8 _ (hS.trans (hb1.mono hS.size)) (hi1.same (S' := fun b => b < w8.heap.size) fun b q => ⟨q.2, rfl⟩))
  clear hi1
  refine hK.out _ _ (hS.trans (hb1.mono hS.size)) (fun hS => ?_)
  clear hK K
  (try simp only [Act.put, List.setIfInBounds_toArray, List.set_cons_zero, List.set_cons_succ])
  refine wpAnyH_ready (rs := [39]) (by kernel_rfl) (by simp) ?_
  refine AllReadyH.cons (o := _) rfl (fun K hK => ?_) AllReadyH.nil
  go_simp; go_at_call 21; refine HSM.out.mono ?_
  rintro e w9 ⟨rfl, hb1⟩
  refine hK.out _ _ (hS.trans (hb1.mono hS.size)) (fun hS => ?_)
  clear hK K
  (try simp only [Act.put, List.setIfInBounds_toArray, List.set_cons_zero, List.set_cons_succ])
  refine wpAnyH_take (i := 40) (oi := _) (v := ?_) rfl (by kernel_rfl) (by kernel_rfl) (by kernel_rfl) (fun _ _ _ h => h) (Or.inl ⟨by rfl, ?_⟩) hS ?_
  rotate_left
  · intro w' hw'
    have hcells := HC.out w' hw'
    go_simp
    (try with_reducible rfl)
  simp only [Act.put, List.setIfInBounds_toArray, List.set_cons_zero, List.set_cons_succ]
  refine wpAnyH_done (by kernel_rfl) ?_ _
  (try dsimp only)
  go_wp2
  go_ret
  exact ⟨rfl, HWB.out.trans (hS.mono HWB.out.size)⟩
end Go.Proofs.YtkcoicijenclhaaGreatDoor
