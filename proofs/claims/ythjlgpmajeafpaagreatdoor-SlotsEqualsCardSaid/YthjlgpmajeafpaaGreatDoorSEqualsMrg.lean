/-
  SlotsEquals returns true. Conditions: both states can be read as data; Tabs.
-/
import Derived.Test.YthjlgpmajeafpaaGreatDoorPokeMrg
import Derived.Test.YthjlgpmajeafpaaGreatDoorSmallSMrg
namespace Go.Proofs.YthjlgpmajeafpaaGreatDoor
open Go Go.RowKit Go.Shelf
set_option linter.unusedVariables false
set_option linter.unusedSimpArgs false

set_option maxRecDepth 100000 in
set_option maxHeartbeats 16000000 in
theorem slotsEquals_call (c : StC) (d : Sta) (c2 : StC) (d2 : Sta) (w : World) (hd : IsSta (· < w.heap.size) w c d) (hd2 : IsSta (· < w.heap.size) w c2 d2) (hT : Tabs w) : Calls Tryz.prog 7 #[c.v, c2.v] w fun e w' => e = .returned (.bool true) ∧ Below w.heap.size w w' := by
  obtain ⟨n, t, a, l, c⟩ := c
  obtain ⟨n2, t2, a2, l2, c2⟩ := c2
  have hbig := hd.l.big
  have hbig2 := hd2.l.big
  have HL := hid hd.l.len
  have HL2 := hid hd2.l.len
  dsimp only at hbig hbig2 HL HL2
  have HA := hid (show Below w.heap.size w ((w.alloc (.cells #[.int .i64 n, .int .i64 t, .slice a l c] 55)).alloc (.cells #[.int .i64 n2, .int .i64 t2, .slice a2 l2 c2] 55)) from ((Below.refl _ w).alloc (Nat.le_refl _) _).alloc (by simp) _)
  have HG := hid (show ((w.alloc (.cells #[.int .i64 n, .int .i64 t, .slice a l c] 55)).alloc (.cells #[.int .i64 n2, .int .i64 t2, .slice a2 l2 c2] 55)).heap[w.heap.size]? = some (.cells #[.int .i64 n, .int .i64 t, .slice a l c] 55) from heapAlloc _ (heap_alloc_new w _))
  have HG2 := hid (show ((w.alloc (.cells #[.int .i64 n, .int .i64 t, .slice a l c] 55)).alloc (.cells #[.int .i64 n2, .int .i64 t2, .slice a2 l2 c2] 55)).heap[w.heap.size + 1]? = some (.cells #[.int .i64 n2, .int .i64 t2, .slice a2 l2 c2] 55) from heapNewAt _ _ _ (by simp))
  have HT := hid hT
  have HD := hid hd
  have HD2 := hid hd2
  have HBX : Hid (∀ w', Below ((w.alloc (.cells #[.int .i64 n, .int .i64 t, .slice a l c] 55)).alloc (.cells #[.int .i64 n2, .int .i64 t2, .slice a2 l2 c2] 55)).heap.size ((w.alloc (.cells #[.int .i64 n, .int .i64 t, .slice a l c] 55)).alloc (.cells #[.int .i64 n2, .int .i64 t2, .slice a2 l2 c2] 55)) w' → (w'.cell? ⟨w.heap.size, 0, none⟩ = some (.int .i64 n) ∧ w'.cell? ⟨w.heap.size, 1, none⟩ = some (.int .i64 t) ∧ w'.cell? ⟨w.heap.size, 2, none⟩ = some (.slice a l c)) ∧ (w'.cell? ⟨w.heap.size + 1, 0, none⟩ = some (.int .i64 n2) ∧ w'.cell? ⟨w.heap.size + 1, 1, none⟩ = some (.int .i64 t2) ∧ w'.cell? ⟨w.heap.size + 1, 2, none⟩ = some (.slice a2 l2 c2))) := hid fun w' h => by
    have h1 := heapExt h HG.out
    have h2 := heapExt h HG2.out
    exact ⟨⟨cellOf h1 0, cellOf h1 1, cellOf h1 2⟩, ⟨cellOf h2 0, cellOf h2 1, cellOf h2 2⟩⟩
  have HUA : Hid (∀ w', Below ((w.alloc (.cells #[.int .i64 n, .int .i64 t, .slice a l c] 55)).alloc (.cells #[.int .i64 n2, .int .i64 t2, .slice a2 l2 c2] 55)).heap.size ((w.alloc (.cells #[.int .i64 n, .int .i64 t, .slice a l c] 55)).alloc (.cells #[.int .i64 n2, .int .i64 t2, .slice a2 l2 c2] 55)) w' → Below w.heap.size w w' ∧ IsSta (· < w'.heap.size) w' ⟨n, t, a, l, c⟩ d ∧ IsSta (· < w'.heap.size) w' ⟨n2, t2, a2, l2, c2⟩ d2) := hid fun w' h => by
    have hw := HA.out.trans (h.mono HA.out.size)
    have hs := hw.size
    exact ⟨hw, HD.out.same fun b q => ⟨by omega, hw.block b q⟩, HD2.out.same fun b q => ⟨by omega, hw.block b q⟩⟩
  have HK : Hid (∀ w', Below ((w.alloc (.cells #[.int .i64 n, .int .i64 t, .slice a l c] 55)).alloc (.cells #[.int .i64 n2, .int .i64 t2, .slice a2 l2 c2] 55)).heap.size ((w.alloc (.cells #[.int .i64 n, .int .i64 t, .slice a l c] 55)).alloc (.cells #[.int .i64 n2, .int .i64 t2, .slice a2 l2 c2] 55)) w' → Calls Tryz.prog 29 #[] w' fun e w2 => e = .returned (.bool true) ∧ Below w'.heap.size w' w2) := hid fun w' h => knownS_call w' (HT.out.below (HUA.out w' h).1)
  have HSM : Hid (∀ w', Below ((w.alloc (.cells #[.int .i64 n, .int .i64 t, .slice a l c] 55)).alloc (.cells #[.int .i64 n2, .int .i64 t2, .slice a2 l2 c2] 55)).heap.size ((w.alloc (.cells #[.int .i64 n, .int .i64 t, .slice a l c] 55)).alloc (.cells #[.int .i64 n2, .int .i64 t2, .slice a2 l2 c2] 55)) w' → Calls Tryz.prog 30 #[.agg #[.int .i64 n, .int .i64 t, .slice a l c]] w' (SmStPost d w')) := hid fun w' h => smallSta_call ⟨n, t, a, l, c⟩ d w' (HUA.out w' h).2.1
  have HSM2 : Hid (∀ w', Below ((w.alloc (.cells #[.int .i64 n, .int .i64 t, .slice a l c] 55)).alloc (.cells #[.int .i64 n2, .int .i64 t2, .slice a2 l2 c2] 55)).heap.size ((w.alloc (.cells #[.int .i64 n, .int .i64 t, .slice a l c] 55)).alloc (.cells #[.int .i64 n2, .int .i64 t2, .slice a2 l2 c2] 55)) w' → Calls Tryz.prog 30 #[.agg #[.int .i64 n2, .int .i64 t2, .slice a2 l2 c2]] w' (SmStPost d2 w')) := hid fun w' h => smallSta_call ⟨n2, t2, a2, l2, c2⟩ d2 w' (HUA.out w' h).2.2
  have HCL : Hid (∀ w', Below ((w.alloc (.cells #[.int .i64 n, .int .i64 t, .slice a l c] 55)).alloc (.cells #[.int .i64 n2, .int .i64 t2, .slice a2 l2 c2] 55)).heap.size ((w.alloc (.cells #[.int .i64 n, .int .i64 t, .slice a l c] 55)).alloc (.cells #[.int .i64 n2, .int .i64 t2, .slice a2 l2 c2] 55)) w' → Calls Tryz.prog 39 #[.agg #[.int .i64 n, .int .i64 t, .slice a l c]] w' fun e w2 => ∃ c' : StC, e = .returned (.agg #[.int .i64 c'.n, .int .i64 c'.t, .slice c'.a c'.l c'.c]) ∧ Below w'.heap.size w' w2 ∧ IsSta (fun b => w'.heap.size ≤ b ∧ b < w2.heap.size) w2 c' d ∧ Built slK 58 (w'.heap.size + 2) w2 (.slice c'.a c'.l c'.c) c'.l d.l) := hid fun w' h => cloneSta_call ⟨n, t, a, l, c⟩ d w' (HUA.out w' h).2.1
  clear hd hd2 hT
  obtain ⟨⟨k0, k1, k2⟩, ⟨k3, k4, k5⟩⟩ := HBX.out _ (Below.refl _ _)
  dsimp only [StC.v]
  go_enter Tryz.func7, Tryz.ntmps7
  go_upto_region 3 with (first
    | (go_at_call 29; refine (HK.out _ hb4).mono ?_; rintro e w9 ⟨rfl, hb9⟩; have hbz := hb4.trans (hb9.mono hb4.size))
    | (go_at_call 29; refine (HK.out _ hb3).mono ?_; rintro e w9 ⟨rfl, hb9⟩; have hbz := hb3.trans (hb9.mono hb3.size))
    | (go_at_call 30; refine (HSM2.out _ hb3).mono ?_; rintro e w4 ⟨⟨b2, rfl, hs2⟩, hb4'⟩; have hb4 := hb3.trans (hb4'.mono hb3.size); clear k0 k1 k2 k3 k4 k5; obtain ⟨⟨k0, k1, k2⟩, ⟨k3, k4, k5⟩⟩ := HBX.out _ (hb4); cases b2)
    | (go_at_call 30; refine (HSM.out _ hb2).mono ?_; rintro e w3 ⟨⟨b1, rfl, hs1⟩, hb3'⟩; have hb3 := hb2.trans (hb3'.mono hb2.size); clear k0 k1 k2 k3 k4 k5; obtain ⟨⟨k0, k1, k2⟩, ⟨k3, k4, k5⟩⟩ := HBX.out _ (hb3); cases b1)
    | (go_at_call 29; refine (HK.out _ (Below.refl _ _)).mono ?_; rintro e w2 ⟨rfl, hb2⟩; clear k0 k1 k2 k3 k4 k5; obtain ⟨⟨k0, k1, k2⟩, ⟨k3, k4, k5⟩⟩ := HBX.out _ (hb2)))
  · go_ret
    exact ⟨rfl, HA.out.trans (hbz.mono HA.out.size)⟩
  · go_ret
    exact ⟨rfl, HA.out.trans (hbz.mono HA.out.size)⟩
  have HB4 := hid (show Below w.heap.size w w4 from HA.out.trans (hb4.mono HA.out.size))
  clear HK HSM HSM2 hs1 hs2 hb3' hb4' hb2 hb3
  go_upto_region 4 with (go_at_call 39; refine (HCL.out _ hb4).mono ?_; rintro e w6 ⟨c6, rfl, hb6', hi6, hbu6⟩; have hb6 := hb4.trans (hb6'.mono hb4.size); have hb6a := hb6.alloc hb6.size (.cells #[.int .i64 c6.n, .int .i64 c6.t, .slice c6.a c6.l c6.c] 55); have HI6 := hid hi6; have HBU6 := hid hbu6; clear hi6 hbu6; clear k0 k1 k2 k3 k4 k5; obtain ⟨⟨k0, k1, k2⟩, ⟨k3, k4, k5⟩⟩ := HBX.out _ (hb6a))
  clear k0 k1 k2 k3 k4 k5 HCL hb6' hb4
  have HB6 := hid hb6
  have HB6A := hid hb6a
  clear hb6 hb6a
  obtain ⟨w7, hw7⟩ : ∃ w7, w7 = (w6.alloc (.cells #[.int .i64 c6.n, .int .i64 c6.t, .slice c6.a c6.l c6.c] 55)) := ⟨_, rfl⟩
  have hcg : w7.heap[w6.heap.size]? = some (.cells #[.int .i64 c6.n, .int .i64 c6.t, .slice c6.a c6.l c6.c] 55) := by rw [hw7]; exact heap_alloc_new w6 _
  rw [← hw7] at HB6A ⊢
  have HCG := hid hcg
  have HC6B := hid (show Below w6.heap.size w6 w7 by rw [hw7]; exact (Below.refl _ _).alloc (Nat.le_refl _) _)
  have hs7 : w7.heap.size = w6.heap.size + 1 := by rw [hw7]; simp
  have HS7 := hid hs7
  clear hw7 hcg hs7
  have HC7 : Hid (∀ w', Below w7.heap.size w7 w' → ((w'.cell? ⟨w.heap.size, 0, none⟩ = some (.int .i64 n) ∧ w'.cell? ⟨w.heap.size, 1, none⟩ = some (.int .i64 t) ∧ w'.cell? ⟨w.heap.size, 2, none⟩ = some (.slice a l c)) ∧ (w'.cell? ⟨w.heap.size + 1, 0, none⟩ = some (.int .i64 n2) ∧ w'.cell? ⟨w.heap.size + 1, 1, none⟩ = some (.int .i64 t2) ∧ w'.cell? ⟨w.heap.size + 1, 2, none⟩ = some (.slice a2 l2 c2))) ∧ (w'.cell? ⟨w6.heap.size, 0, none⟩ = some (.int .i64 c6.n) ∧ w'.cell? ⟨w6.heap.size, 1, none⟩ = some (.int .i64 c6.t) ∧ w'.cell? ⟨w6.heap.size, 2, none⟩ = some (.slice c6.a c6.l c6.c))) := hid fun w' h => by
    have h3 := heapExt h HCG.out
    exact ⟨HBX.out w' (HB6A.out.trans (h.mono HB6A.out.size)), cellOf h3 0, cellOf h3 1, cellOf h3 2⟩
  have HI7 : Hid (∀ w', Below w7.heap.size w7 w' → Below w.heap.size w w' ∧ (IsSta (· < w'.heap.size) w' ⟨n, t, a, l, c⟩ d) ∧ (IsSta (· < w'.heap.size) w' ⟨n2, t2, a2, l2, c2⟩ d2) ∧ IsSta (· < w'.heap.size) w' c6 d) := hid fun w' h => by
    have h1 := HUA.out w' (HB6A.out.trans (h.mono HB6A.out.size))
    have h2 := HC6B.out.trans (h.mono HC6B.out.size)
    exact ⟨h1.1, h1.2.1, h1.2.2, HI6.out.same fun b q => ⟨Nat.lt_of_lt_of_le q.2 h2.size, h2.block b q.2⟩⟩
  obtain ⟨u, hu⟩ : ∃ u, u = staEqB d d2 := ⟨_, rfl⟩
  have hu2 : u = staEqB d2 d := by rw [hu, staEqB_symm]
  have HEab : Hid (∀ w', Below w7.heap.size w7 w' → Calls Tryz.prog 40 #[.agg #[.int .i64 n, .int .i64 t, .slice a l c], .agg #[.int .i64 n2, .int .i64 t2, .slice a2 l2 c2]] w' fun e w2 => e = .returned (.bool u) ∧ Below w'.heap.size w' w2) := hid fun w' h => by
    rw [hu]; exact equalSta_call ⟨n, t, a, l, c⟩ ⟨n2, t2, a2, l2, c2⟩ d d2 w' (HI7.out w' h).2.1 (HI7.out w' h).2.2.1
  have HSab : Hid (∀ w', Below w7.heap.size w7 w' → Calls Tryz.prog 41 #[.agg #[.int .i64 n, .int .i64 t, .slice a l c], .agg #[.int .i64 n2, .int .i64 t2, .slice a2 l2 c2]] w' fun e w2 => e = .returned (.bool u) ∧ Below w'.heap.size w' w2) := hid fun w' h => by
    rw [hu]; exact sameSta_call ⟨n, t, a, l, c⟩ ⟨n2, t2, a2, l2, c2⟩ d d2 w' (HI7.out w' h).2.1 (HI7.out w' h).2.2.1
  have HEba : Hid (∀ w', Below w7.heap.size w7 w' → Calls Tryz.prog 40 #[.agg #[.int .i64 n2, .int .i64 t2, .slice a2 l2 c2], .agg #[.int .i64 n, .int .i64 t, .slice a l c]] w' fun e w2 => e = .returned (.bool u) ∧ Below w'.heap.size w' w2) := hid fun w' h => by
    rw [hu2]; exact equalSta_call ⟨n2, t2, a2, l2, c2⟩ ⟨n, t, a, l, c⟩ d2 d w' (HI7.out w' h).2.2.1 (HI7.out w' h).2.1
  have HSba := HSab
  have HEca : Hid (∀ w', Below w7.heap.size w7 w' → Calls Tryz.prog 40 #[.agg #[.int .i64 c6.n, .int .i64 c6.t, .slice c6.a c6.l c6.c], .agg #[.int .i64 n, .int .i64 t, .slice a l c]] w' fun e w2 => e = .returned (.bool true) ∧ Below w'.heap.size w' w2) := hid fun w' h => by
    have hc := equalSta_call c6 ⟨n, t, a, l, c⟩ d d w' (HI7.out w' h).2.2.2 (HI7.out w' h).2.1
    rw [staEqB_refl] at hc; exact hc
  have HSca : Hid (∀ w', Below w7.heap.size w7 w' → Calls Tryz.prog 41 #[.agg #[.int .i64 c6.n, .int .i64 c6.t, .slice c6.a c6.l c6.c], .agg #[.int .i64 n, .int .i64 t, .slice a l c]] w' fun e w2 => e = .returned (.bool true) ∧ Below w'.heap.size w' w2) := hid fun w' h => by
    have hc := sameSta_call c6 ⟨n, t, a, l, c⟩ d d w' (HI7.out w' h).2.2.2 (HI7.out w' h).2.1
    rw [staEqB_refl] at hc; exact hc
  clear hu hu2
  refine wp_region_split 28 (fun w' => Below w7.heap.size w7 w') (by kernel_rfl) (by kernel_rfl) (by kernel_rfl) (by decide) ((Below.refl _ _).drew) (fun hS => ?_)
  simp only [List.take_succ_cons, List.take_zero, List.drop_succ_cons, List.drop_zero]
  refine wpAnyH_take (i := 0) (oi := _) (v := ?_) rfl (by kernel_rfl) (by kernel_rfl) (by kernel_rfl) (fun _ _ _ h => h) (Or.inl ⟨by rfl, ?_⟩) hS ?_
  rotate_left
  · intro w' hw'
    have hcells := HC7.out w' hw'
    go_simp
    (try with_reducible rfl)
  simp only [Act.put, List.getElem_toArray, List.getElem_cons_succ, List.getElem_cons_zero, List.setIfInBounds_toArray, List.set_cons_zero, List.set_cons_succ]
  refine wpAnyH_take (i := 1) (oi := _) (v := ?_) rfl (by kernel_rfl) (by kernel_rfl) (by kernel_rfl) (fun _ _ _ h => h) (Or.inl ⟨by rfl, ?_⟩) hS ?_
  rotate_left
  · intro w' hw'
    have hcells := HC7.out w' hw'
    go_simp
    (try with_reducible rfl)
  simp only [Act.put, List.getElem_toArray, List.getElem_cons_succ, List.getElem_cons_zero, List.setIfInBounds_toArray, List.set_cons_zero, List.set_cons_succ]
  refine wpAnyH_take (i := 3) (oi := _) (v := ?_) rfl (by kernel_rfl) (by kernel_rfl) (by kernel_rfl) (fun _ _ _ h => h) (Or.inl ⟨by rfl, ?_⟩) hS ?_
  rotate_left
  · intro w' hw'
    have hcells := HC7.out w' hw'
    go_simp
    (try with_reducible rfl)
  simp only [Act.put, List.getElem_toArray, List.getElem_cons_succ, List.getElem_cons_zero, List.setIfInBounds_toArray, List.set_cons_zero, List.set_cons_succ]
  refine wpAnyH_take (i := 4) (oi := _) (v := ?_) rfl (by kernel_rfl) (by kernel_rfl) (by kernel_rfl) (fun _ _ _ h => h) (Or.inl ⟨by rfl, ?_⟩) hS ?_
  rotate_left
  · intro w' hw'
    have hcells := HC7.out w' hw'
    go_simp
    (try with_reducible rfl)
  simp only [Act.put, List.getElem_toArray, List.getElem_cons_succ, List.getElem_cons_zero, List.setIfInBounds_toArray, List.set_cons_zero, List.set_cons_succ]
  refine wpAnyH_ready (rs := [2]) (by kernel_rfl) (by simp) ?_
  refine AllReadyH.cons (o := _) rfl (fun K hK => ?_) AllReadyH.nil
  go_simp; go_at_call 40; refine (HEab.out _ hS).mono ?_
  rintro e wz ⟨rfl, hbz⟩
  refine hK.out _ _ (hS.trans (hbz.mono hS.size)) (fun hS => ?_)
  clear hK K
  (try simp only [Act.put, List.getElem_toArray, List.getElem_cons_succ, List.getElem_cons_zero, List.setIfInBounds_toArray, List.set_cons_zero, List.set_cons_succ])
  refine wpAnyH_ready (rs := [5]) (by kernel_rfl) (by simp) ?_
  refine AllReadyH.cons (o := _) rfl (fun K hK => ?_) AllReadyH.nil
  go_simp; go_at_call 41; refine (HSab.out _ hS).mono ?_
  rintro e wz ⟨rfl, hbz⟩
  refine hK.out _ _ (hS.trans (hbz.mono hS.size)) (fun hS => ?_)
  clear hK K
  (try simp only [Act.put, List.getElem_toArray, List.getElem_cons_succ, List.getElem_cons_zero, List.setIfInBounds_toArray, List.set_cons_zero, List.set_cons_succ])
  refine wpAnyH_take (i := 6) (oi := _) (v := ?_) rfl (by kernel_rfl) (by kernel_rfl) (by kernel_rfl) (fun _ _ _ h => h) (Or.inl ⟨by rfl, ?_⟩) hS ?_
  rotate_left
  · intro w' hw'
    have hcells := HC7.out w' hw'
    go_simp
    (try with_reducible rfl)
  simp only [Act.put, List.getElem_toArray, List.getElem_cons_succ, List.getElem_cons_zero, List.setIfInBounds_toArray, List.set_cons_zero, List.set_cons_succ]
  refine wpAnyH_take (i := 7) (oi := _) (v := ?_) rfl (by kernel_rfl) (by kernel_rfl) (by kernel_rfl) (fun _ _ _ h => h) (Or.inl ⟨by rfl, ?_⟩) hS ?_
  rotate_left
  · intro w' hw'
    have hcells := HC7.out w' hw'
    go_simp
    (try with_reducible rfl)
  simp only [Act.put, List.getElem_toArray, List.getElem_cons_succ, List.getElem_cons_zero, List.setIfInBounds_toArray, List.set_cons_zero, List.set_cons_succ]
  refine wpAnyH_take (i := 8) (oi := _) (v := ?_) rfl (by kernel_rfl) (by kernel_rfl) (by kernel_rfl) (fun _ _ _ h => h) (Or.inl ⟨by rfl, ?_⟩) hS ?_
  rotate_left
  · intro w' hw'
    have hcells := HC7.out w' hw'
    go_simp
    (try with_reducible rfl)
  simp only [Act.put, List.getElem_toArray, List.getElem_cons_succ, List.getElem_cons_zero, List.setIfInBounds_toArray, List.set_cons_zero, List.set_cons_succ]
  refine wpAnyH_take (i := 9) (oi := _) (v := ?_) rfl (by kernel_rfl) (by kernel_rfl) (by kernel_rfl) (fun _ _ _ h => h) (Or.inl ⟨by rfl, ?_⟩) hS ?_
  rotate_left
  · intro w' hw'
    have hcells := HC7.out w' hw'
    go_simp
    (try with_reducible rfl)
  simp only [Act.put, List.getElem_toArray, List.getElem_cons_succ, List.getElem_cons_zero, List.setIfInBounds_toArray, List.set_cons_zero, List.set_cons_succ]
  refine wpAnyH_take (i := 11) (oi := _) (v := ?_) rfl (by kernel_rfl) (by kernel_rfl) (by kernel_rfl) (fun _ _ _ h => h) (Or.inl ⟨by rfl, ?_⟩) hS ?_
  rotate_left
  · intro w' hw'
    have hcells := HC7.out w' hw'
    go_simp
    (try with_reducible rfl)
  simp only [Act.put, List.getElem_toArray, List.getElem_cons_succ, List.getElem_cons_zero, List.setIfInBounds_toArray, List.set_cons_zero, List.set_cons_succ]
  refine wpAnyH_take (i := 12) (oi := _) (v := ?_) rfl (by kernel_rfl) (by kernel_rfl) (by kernel_rfl) (fun _ _ _ h => h) (Or.inl ⟨by rfl, ?_⟩) hS ?_
  rotate_left
  · intro w' hw'
    have hcells := HC7.out w' hw'
    go_simp
    (try with_reducible rfl)
  simp only [Act.put, List.getElem_toArray, List.getElem_cons_succ, List.getElem_cons_zero, List.setIfInBounds_toArray, List.set_cons_zero, List.set_cons_succ]
  refine wpAnyH_ready (rs := [10]) (by kernel_rfl) (by simp) ?_
  refine AllReadyH.cons (o := _) rfl (fun K hK => ?_) AllReadyH.nil
  go_simp; go_at_call 40; refine (HEba.out _ hS).mono ?_
  rintro e wz ⟨rfl, hbz⟩
  refine hK.out _ _ (hS.trans (hbz.mono hS.size)) (fun hS => ?_)
  clear hK K
  (try simp only [Act.put, List.getElem_toArray, List.getElem_cons_succ, List.getElem_cons_zero, List.setIfInBounds_toArray, List.set_cons_zero, List.set_cons_succ])
  refine wpAnyH_ready (rs := [13]) (by kernel_rfl) (by simp) ?_
  refine AllReadyH.cons (o := _) rfl (fun K hK => ?_) AllReadyH.nil
  go_simp; go_at_call 41; refine (HSba.out _ hS).mono ?_
  rintro e wz ⟨rfl, hbz⟩
  refine hK.out _ _ (hS.trans (hbz.mono hS.size)) (fun hS => ?_)
  clear hK K
  (try simp only [Act.put, List.getElem_toArray, List.getElem_cons_succ, List.getElem_cons_zero, List.setIfInBounds_toArray, List.set_cons_zero, List.set_cons_succ])
  refine wpAnyH_take (i := 14) (oi := _) (v := ?_) rfl (by kernel_rfl) (by kernel_rfl) (by kernel_rfl) (fun _ _ _ h => h) (Or.inl ⟨by rfl, ?_⟩) hS ?_
  rotate_left
  · intro w' hw'
    have hcells := HC7.out w' hw'
    go_simp
    (try with_reducible rfl)
  simp only [Act.put, List.getElem_toArray, List.getElem_cons_succ, List.getElem_cons_zero, List.setIfInBounds_toArray, List.set_cons_zero, List.set_cons_succ]
  refine wpAnyH_take (i := 15) (oi := _) (v := ?_) rfl (by kernel_rfl) (by kernel_rfl) (by kernel_rfl) (fun _ _ _ h => h) (Or.inl ⟨by rfl, ?_⟩) hS ?_
  rotate_left
  · intro w' hw'
    have hcells := HC7.out w' hw'
    go_simp
    (try with_reducible rfl)
  simp only [Act.put, List.getElem_toArray, List.getElem_cons_succ, List.getElem_cons_zero, List.setIfInBounds_toArray, List.set_cons_zero, List.set_cons_succ]
  refine wpAnyH_take (i := 16) (oi := _) (v := ?_) rfl (by kernel_rfl) (by kernel_rfl) (by kernel_rfl) (fun _ _ _ h => h) (Or.inl ⟨by rfl, ?_⟩) hS ?_
  rotate_left
  · intro w' hw'
    have hcells := HC7.out w' hw'
    go_simp
    (try with_reducible rfl)
  simp only [Act.put, List.getElem_toArray, List.getElem_cons_succ, List.getElem_cons_zero, List.setIfInBounds_toArray, List.set_cons_zero, List.set_cons_succ]
  refine wpAnyH_take (i := 17) (oi := _) (v := ?_) rfl (by kernel_rfl) (by kernel_rfl) (by kernel_rfl) (fun _ _ _ h => h) (Or.inl ⟨by rfl, ?_⟩) hS ?_
  rotate_left
  · intro w' hw'
    have hcells := HC7.out w' hw'
    go_simp
    (try with_reducible rfl)
  simp only [Act.put, List.getElem_toArray, List.getElem_cons_succ, List.getElem_cons_zero, List.setIfInBounds_toArray, List.set_cons_zero, List.set_cons_succ]
  refine wpAnyH_take (i := 18) (oi := _) (v := ?_) rfl (by kernel_rfl) (by kernel_rfl) (by kernel_rfl) (fun _ _ _ h => h) (Or.inl ⟨by rfl, ?_⟩) hS ?_
  rotate_left
  · intro w' hw'
    have hcells := HC7.out w' hw'
    go_simp
    (try with_reducible rfl)
  simp only [Act.put, List.getElem_toArray, List.getElem_cons_succ, List.getElem_cons_zero, List.setIfInBounds_toArray, List.set_cons_zero, List.set_cons_succ]
  refine wpAnyH_ready (rs := [19]) (by kernel_rfl) (by simp) ?_
  refine AllReadyH.cons (o := _) rfl (fun K hK => ?_) AllReadyH.nil
  go_simp; go_at_call 40; refine (HEca.out _ hS).mono ?_
  rintro e wz ⟨rfl, hbz⟩
  refine hK.out _ _ (hS.trans (hbz.mono hS.size)) (fun hS => ?_)
  clear hK K
  (try simp only [Act.put, List.getElem_toArray, List.getElem_cons_succ, List.getElem_cons_zero, List.setIfInBounds_toArray, List.set_cons_zero, List.set_cons_succ])
  refine wpAnyH_take (i := 20) (oi := _) (v := ?_) rfl (by kernel_rfl) (by kernel_rfl) (by kernel_rfl) (fun _ _ _ h => h) (Or.inl ⟨by rfl, ?_⟩) hS ?_
  rotate_left
  · intro w' hw'
    have hcells := HC7.out w' hw'
    go_simp
    (try with_reducible rfl)
  simp only [Act.put, List.getElem_toArray, List.getElem_cons_succ, List.getElem_cons_zero, List.setIfInBounds_toArray, List.set_cons_zero, List.set_cons_succ]
  refine wpAnyH_take (i := 21) (oi := _) (v := ?_) rfl (by kernel_rfl) (by kernel_rfl) (by kernel_rfl) (fun _ _ _ h => h) (Or.inl ⟨by rfl, ?_⟩) hS ?_
  rotate_left
  · intro w' hw'
    have hcells := HC7.out w' hw'
    go_simp
    (try with_reducible rfl)
  simp only [Act.put, List.getElem_toArray, List.getElem_cons_succ, List.getElem_cons_zero, List.setIfInBounds_toArray, List.set_cons_zero, List.set_cons_succ]
  refine wpAnyH_take (i := 22) (oi := _) (v := ?_) rfl (by kernel_rfl) (by kernel_rfl) (by kernel_rfl) (fun _ _ _ h => h) (Or.inl ⟨by rfl, ?_⟩) hS ?_
  rotate_left
  · intro w' hw'
    have hcells := HC7.out w' hw'
    go_simp
    (try with_reducible rfl)
  simp only [Act.put, List.getElem_toArray, List.getElem_cons_succ, List.getElem_cons_zero, List.setIfInBounds_toArray, List.set_cons_zero, List.set_cons_succ]
  refine wpAnyH_take (i := 23) (oi := _) (v := ?_) rfl (by kernel_rfl) (by kernel_rfl) (by kernel_rfl) (fun _ _ _ h => h) (Or.inl ⟨by rfl, ?_⟩) hS ?_
  rotate_left
  · intro w' hw'
    have hcells := HC7.out w' hw'
    go_simp
    (try with_reducible rfl)
  simp only [Act.put, List.getElem_toArray, List.getElem_cons_succ, List.getElem_cons_zero, List.setIfInBounds_toArray, List.set_cons_zero, List.set_cons_succ]
  refine wpAnyH_take (i := 24) (oi := _) (v := ?_) rfl (by kernel_rfl) (by kernel_rfl) (by kernel_rfl) (fun _ _ _ h => h) (Or.inl ⟨by rfl, ?_⟩) hS ?_
  rotate_left
  · intro w' hw'
    have hcells := HC7.out w' hw'
    go_simp
    (try with_reducible rfl)
  simp only [Act.put, List.getElem_toArray, List.getElem_cons_succ, List.getElem_cons_zero, List.setIfInBounds_toArray, List.set_cons_zero, List.set_cons_succ]
  refine wpAnyH_ready (rs := [25]) (by kernel_rfl) (by simp) ?_
  refine AllReadyH.cons (o := _) rfl (fun K hK => ?_) AllReadyH.nil
  go_simp; go_at_call 41; refine (HSca.out _ hS).mono ?_
  rintro e wz ⟨rfl, hbz⟩
  refine hK.out _ _ (hS.trans (hbz.mono hS.size)) (fun hS => ?_)
  clear hK K
  (try simp only [Act.put, List.getElem_toArray, List.getElem_cons_succ, List.getElem_cons_zero, List.setIfInBounds_toArray, List.set_cons_zero, List.set_cons_succ])
  refine wpAnyH_take (i := 26) (oi := _) (v := ?_) rfl (by kernel_rfl) (by kernel_rfl) (by kernel_rfl) (fun _ _ _ h => h) (Or.inl ⟨by rfl, ?_⟩) hS ?_
  rotate_left
  · intro w' hw'
    have hcells := HC7.out w' hw'
    go_simp
    (try with_reducible rfl)
  simp only [Act.put, List.getElem_toArray, List.getElem_cons_succ, List.getElem_cons_zero, List.setIfInBounds_toArray, List.set_cons_zero, List.set_cons_succ]
  refine wpAnyH_take (i := 27) (oi := _) (v := ?_) rfl (by kernel_rfl) (by kernel_rfl) (by kernel_rfl) (fun _ _ _ h => h) (Or.inl ⟨by rfl, ?_⟩) hS ?_
  rotate_left
  · intro w' hw'
    have hcells := HC7.out w' hw'
    go_simp
    (try with_reducible rfl)
  simp only [Act.put, List.getElem_toArray, List.getElem_cons_succ, List.getElem_cons_zero, List.setIfInBounds_toArray, List.set_cons_zero, List.set_cons_succ]
  refine wpAnyH_done (by kernel_rfl) ?_ _
  (try dsimp only)
  have hb8 := hS
  clear hS HEab HSab HEba HSba HEca HSca
  obtain ⟨w8, hw8⟩ : ∃ w8, w8 = wz := ⟨_, rfl⟩
  rw [← hw8] at hb8 ⊢
  clear hw8
  have HB8 := hid hb8
  obtain ⟨⟨⟨e0, e1, e2⟩, ⟨e3, e4, e5⟩⟩, _⟩ := HC7.out w8 hb8
  clear hb8
  by_cases hl0 : l = 0
  · subst hl0
    go_wp2
    go_ret
    exact ⟨rfl, (HI7.out w8 HB8.out).1⟩
  have hlp : (0 : Int) < (l : Int) := by omega
  have hlz : ((l : Int) == 0) = false := by simp; omega
  have hlN : 0 < l := by omega
  have hlN' : ¬ (l : Int) = 0 := by omega
  have hdl : 0 < d.l.length := by have := HL.out; omega
  obtain ⟨b, o, rfl, hb, hx⟩ := HD.out.l.slot (show 0 < l by omega)
  obtain ⟨x, hxa, hxi⟩ := hx 0 hdl
  simp only [Nat.zero_mul, Nat.add_zero] at hxa
  have HXA := hid (show AtG slK w b o x from hxa)
  have HB := hid hb
  have HXN := hid (show x.n = d.l[0].n from hxi.n)
  have HXR := hid (show I64 x.n by have := hxi.rn; rw [← hxi.n] at this; exact this)
  have HLP := hid hdl
  have hxi' := hb
  clear hxa hb hx
  by_cases hl2 : 0 < l2
  · obtain ⟨b2, o2, rfl, hb2, hy⟩ := HD2.out.l.slot (show 0 < l2 by omega)
    obtain ⟨y, hya, hyi⟩ := hy 0 (by have := HL2.out; omega)
    simp only [Nat.zero_mul, Nat.add_zero] at hya
    obtain ⟨v, hv⟩ : ∃ v, v = slEqB (d.l[0]'(by omega)) (d2.l[0]'(by have := HL2.out; omega)) := ⟨_, rfl⟩
    have HES : Hid (∀ w', Below w8.heap.size w8 w' → Calls Tryz.prog 42 #[.agg #[.int .i64 x.k.k, .int .i64 x.k.i, .int .i64 x.k.s, .string x.k.t, .slice x.k.la x.k.ll x.k.lc, .slice x.k.fa x.k.fl x.k.fc, .int .i64 x.n, .int .i64 x.t, .slice x.ia x.il x.ic, .slice x.va x.vl x.vc], .agg #[.int .i64 y.k.k, .int .i64 y.k.i, .int .i64 y.k.s, .string y.k.t, .slice y.k.la y.k.ll y.k.lc, .slice y.k.fa y.k.fl y.k.fc, .int .i64 y.n, .int .i64 y.t, .slice y.ia y.il y.ic, .slice y.va y.vl y.vc]] w' fun e w2 => e = .returned (.bool v) ∧ Below w'.heap.size w' w2) := hid fun w' h => by
      have hw := (HI7.out w' (HB8.out.trans (h.mono HB8.out.size))).1
      have hs := hw.size
      rw [hv]
      exact equalSlot_call x y _ _ w' (slK.same (fun b q => ⟨by omega, hw.block b q⟩) hxi) (slK.same (fun b q => ⟨by omega, hw.block b q⟩) hyi)
    have HSS : Hid (∀ w', Below w8.heap.size w8 w' → Calls Tryz.prog 38 #[.agg #[.int .i64 x.k.k, .int .i64 x.k.i, .int .i64 x.k.s, .string x.k.t, .slice x.k.la x.k.ll x.k.lc, .slice x.k.fa x.k.fl x.k.fc, .int .i64 x.n, .int .i64 x.t, .slice x.ia x.il x.ic, .slice x.va x.vl x.vc], .agg #[.int .i64 y.k.k, .int .i64 y.k.i, .int .i64 y.k.s, .string y.k.t, .slice y.k.la y.k.ll y.k.lc, .slice y.k.fa y.k.fl y.k.fc, .int .i64 y.n, .int .i64 y.t, .slice y.ia y.il y.ic, .slice y.va y.vl y.vc]] w' fun e w2 => e = .returned (.bool v) ∧ Below w'.heap.size w' w2) := hid fun w' h => by
      have hw := (HI7.out w' (HB8.out.trans (h.mono HB8.out.size))).1
      have hs := hw.size
      rw [hv]
      exact sameSlot_call x y _ _ w' (slK.same (fun b q => ⟨by omega, hw.block b q⟩) hxi) (slK.same (fun b q => ⟨by omega, hw.block b q⟩) hyi)
    have HC8 : Hid (∀ w', Below w8.heap.size w8 w' → ((w'.cell? ⟨w.heap.size, 2, none⟩ = some (.slice (some ⟨b, o, none⟩) l c)) ∧ (w'.cell? ⟨w.heap.size + 1, 2, none⟩ = some (.slice (some ⟨b2, o2, none⟩) l2 c2))) ∧ (w'.cell? ⟨b, o, none⟩ = some (.int .i64 x.k.k) ∧ w'.cell? ⟨b, o + 1, none⟩ = some (.int .i64 x.k.i) ∧ w'.cell? ⟨b, o + 2, none⟩ = some (.int .i64 x.k.s) ∧ w'.cell? ⟨b, o + 3, none⟩ = some (.string x.k.t) ∧ w'.cell? ⟨b, o + 4, none⟩ = some (.slice x.k.la x.k.ll x.k.lc) ∧ w'.cell? ⟨b, o + 5, none⟩ = some (.slice x.k.fa x.k.fl x.k.fc) ∧ w'.cell? ⟨b, o + 6, none⟩ = some (.int .i64 x.n) ∧ w'.cell? ⟨b, o + 7, none⟩ = some (.int .i64 x.t) ∧ w'.cell? ⟨b, o + 8, none⟩ = some (.slice x.ia x.il x.ic) ∧ w'.cell? ⟨b, o + 9, none⟩ = some (.slice x.va x.vl x.vc)) ∧ (w'.cell? ⟨b2, o2, none⟩ = some (.int .i64 y.k.k) ∧ w'.cell? ⟨b2, o2 + 1, none⟩ = some (.int .i64 y.k.i) ∧ w'.cell? ⟨b2, o2 + 2, none⟩ = some (.int .i64 y.k.s) ∧ w'.cell? ⟨b2, o2 + 3, none⟩ = some (.string y.k.t) ∧ w'.cell? ⟨b2, o2 + 4, none⟩ = some (.slice y.k.la y.k.ll y.k.lc) ∧ w'.cell? ⟨b2, o2 + 5, none⟩ = some (.slice y.k.fa y.k.fl y.k.fc) ∧ w'.cell? ⟨b2, o2 + 6, none⟩ = some (.int .i64 y.n) ∧ w'.cell? ⟨b2, o2 + 7, none⟩ = some (.int .i64 y.t) ∧ w'.cell? ⟨b2, o2 + 8, none⟩ = some (.slice y.ia y.il y.ic) ∧ w'.cell? ⟨b2, o2 + 9, none⟩ = some (.slice y.va y.vl y.vc))) := hid fun w' h => by
      have h1 := HC7.out w' (HB8.out.trans (h.mono HB8.out.size))
      have hw := (HI7.out w' (HB8.out.trans (h.mono HB8.out.size))).1
      have hx2 := (HXA.out.same (hw.block b HB.out)).slot
      have hy2 := (hya.same (hw.block b2 hb2)).slot
      exact ⟨⟨h1.1.1.2.2, h1.1.2.2.2⟩, hx2, hy2⟩
    have hl2 : (0 : Int) < (l2 : Int) := by omega
    clear hy hya hyi hb2 hv
    clear hxi'
    go_upto_region 8 with (fail)
    clear e0 e1 e2 e3 e4 e5
    refine wp_region_split 25 (fun w' => Below w8.heap.size w8 w') (by kernel_rfl) (by kernel_rfl) (by kernel_rfl) (by decide) ((Below.refl _ _).drew) (fun hS => ?_)
    simp only [List.take_succ_cons, List.take_zero, List.drop_succ_cons, List.drop_zero]
    refine wpAnyH_take (i := 0) (oi := _) (v := ?_) rfl (by kernel_rfl) (by kernel_rfl) (by kernel_rfl) (fun _ _ _ h => h) (Or.inl ⟨by rfl, ?_⟩) hS ?_
    rotate_left
    · intro w' hw'
      have hcells := HC8.out w' hw'
      go_simp
      (try with_reducible rfl)
    simp only [Act.put, List.getElem_toArray, List.getElem_cons_succ, List.getElem_cons_zero, List.setIfInBounds_toArray, List.set_cons_zero, List.set_cons_succ]
    refine wpAnyH_take (i := 1) (oi := _) (v := ?_) rfl (by kernel_rfl) (by kernel_rfl) (by kernel_rfl) (fun _ _ _ h => h) (Or.inl ⟨by rfl, ?_⟩) hS ?_
    rotate_left
    · intro w' hw'
      have hcells := HC8.out w' hw'
      go_simp
      (try with_reducible rfl)
    simp only [Act.put, List.getElem_toArray, List.getElem_cons_succ, List.getElem_cons_zero, List.setIfInBounds_toArray, List.set_cons_zero, List.set_cons_succ]
    refine wpAnyH_take (i := 2) (oi := _) (v := ?_) rfl (by kernel_rfl) (by kernel_rfl) (by kernel_rfl) (fun _ _ _ h => h) (Or.inl ⟨by rfl, ?_⟩) hS ?_
    rotate_left
    · intro w' hw'
      have hcells := HC8.out w' hw'
      go_simp
      (try with_reducible rfl)
    simp only [Act.put, List.getElem_toArray, List.getElem_cons_succ, List.getElem_cons_zero, List.setIfInBounds_toArray, List.set_cons_zero, List.set_cons_succ]
    refine wpAnyH_take (i := 3) (oi := _) (v := ?_) rfl (by kernel_rfl) (by kernel_rfl) (by kernel_rfl) (fun _ _ _ h => h) (Or.inl ⟨by rfl, ?_⟩) hS ?_
    rotate_left
    · intro w' hw'
      have hcells := HC8.out w' hw'
      go_simp
      (try with_reducible rfl)
    simp only [Act.put, List.getElem_toArray, List.getElem_cons_succ, List.getElem_cons_zero, List.setIfInBounds_toArray, List.set_cons_zero, List.set_cons_succ]
    refine wpAnyH_take (i := 4) (oi := _) (v := ?_) rfl (by kernel_rfl) (by kernel_rfl) (by kernel_rfl) (fun _ _ _ h => h) (Or.inl ⟨by rfl, ?_⟩) hS ?_
    rotate_left
    · intro w' hw'
      have hcells := HC8.out w' hw'
      go_simp
      (try with_reducible rfl)
    simp only [Act.put, List.getElem_toArray, List.getElem_cons_succ, List.getElem_cons_zero, List.setIfInBounds_toArray, List.set_cons_zero, List.set_cons_succ]
    refine wpAnyH_take (i := 5) (oi := _) (v := ?_) rfl (by kernel_rfl) (by kernel_rfl) (by kernel_rfl) (fun _ _ _ h => h) (Or.inl ⟨by rfl, ?_⟩) hS ?_
    rotate_left
    · intro w' hw'
      have hcells := HC8.out w' hw'
      go_simp
      (try with_reducible rfl)
    simp only [Act.put, List.getElem_toArray, List.getElem_cons_succ, List.getElem_cons_zero, List.setIfInBounds_toArray, List.set_cons_zero, List.set_cons_succ]
    refine wpAnyH_take (i := 6) (oi := _) (v := ?_) rfl (by kernel_rfl) (by kernel_rfl) (by kernel_rfl) (fun _ _ _ h => h) (Or.inl ⟨by rfl, ?_⟩) hS ?_
    rotate_left
    · intro w' hw'
      have hcells := HC8.out w' hw'
      go_simp
      (try with_reducible rfl)
    simp only [Act.put, List.getElem_toArray, List.getElem_cons_succ, List.getElem_cons_zero, List.setIfInBounds_toArray, List.set_cons_zero, List.set_cons_succ]
    refine wpAnyH_take (i := 7) (oi := _) (v := ?_) rfl (by kernel_rfl) (by kernel_rfl) (by kernel_rfl) (fun _ _ _ h => h) (Or.inl ⟨by rfl, ?_⟩) hS ?_
    rotate_left
    · intro w' hw'
      have hcells := HC8.out w' hw'
      go_simp
      (try with_reducible rfl)
    simp only [Act.put, List.getElem_toArray, List.getElem_cons_succ, List.getElem_cons_zero, List.setIfInBounds_toArray, List.set_cons_zero, List.set_cons_succ]
    refine wpAnyH_take (i := 8) (oi := _) (v := ?_) rfl (by kernel_rfl) (by kernel_rfl) (by kernel_rfl) (fun _ _ _ h => h) (Or.inl ⟨by rfl, ?_⟩) hS ?_
    rotate_left
    · intro w' hw'
      have hcells := HC8.out w' hw'
      go_simp
      (try with_reducible rfl)
    simp only [Act.put, List.getElem_toArray, List.getElem_cons_succ, List.getElem_cons_zero, List.setIfInBounds_toArray, List.set_cons_zero, List.set_cons_succ]
    refine wpAnyH_take (i := 9) (oi := _) (v := ?_) rfl (by kernel_rfl) (by kernel_rfl) (by kernel_rfl) (fun _ _ _ h => h) (Or.inl ⟨by rfl, ?_⟩) hS ?_
    rotate_left
    · intro w' hw'
      have hcells := HC8.out w' hw'
      go_simp
      (try with_reducible rfl)
    simp only [Act.put, List.getElem_toArray, List.getElem_cons_succ, List.getElem_cons_zero, List.setIfInBounds_toArray, List.set_cons_zero, List.set_cons_succ]
    refine wpAnyH_take (i := 10) (oi := _) (v := ?_) rfl (by kernel_rfl) (by kernel_rfl) (by kernel_rfl) (fun _ _ _ h => h) (Or.inl ⟨by rfl, ?_⟩) hS ?_
    rotate_left
    · intro w' hw'
      have hcells := HC8.out w' hw'
      go_simp
      (try with_reducible rfl)
    simp only [Act.put, List.getElem_toArray, List.getElem_cons_succ, List.getElem_cons_zero, List.setIfInBounds_toArray, List.set_cons_zero, List.set_cons_succ]
    refine wpAnyH_take (i := 11) (oi := _) (v := ?_) rfl (by kernel_rfl) (by kernel_rfl) (by kernel_rfl) (fun _ _ _ h => h) (Or.inl ⟨by rfl, ?_⟩) hS ?_
    rotate_left
    · intro w' hw'
      have hcells := HC8.out w' hw'
      go_simp
      (try with_reducible rfl)
    simp only [Act.put, List.getElem_toArray, List.getElem_cons_succ, List.getElem_cons_zero, List.setIfInBounds_toArray, List.set_cons_zero, List.set_cons_succ]
    refine wpAnyH_take (i := 12) (oi := _) (v := ?_) rfl (by kernel_rfl) (by kernel_rfl) (by kernel_rfl) (fun _ _ _ h => h) (Or.inl ⟨by rfl, ?_⟩) hS ?_
    rotate_left
    · intro w' hw'
      have hcells := HC8.out w' hw'
      go_simp
      (try with_reducible rfl)
    simp only [Act.put, List.getElem_toArray, List.getElem_cons_succ, List.getElem_cons_zero, List.setIfInBounds_toArray, List.set_cons_zero, List.set_cons_succ]
    refine wpAnyH_take (i := 14) (oi := _) (v := ?_) rfl (by kernel_rfl) (by kernel_rfl) (by kernel_rfl) (fun _ _ _ h => h) (Or.inl ⟨by rfl, ?_⟩) hS ?_
    rotate_left
    · intro w' hw'
      have hcells := HC8.out w' hw'
      go_simp
      (try with_reducible rfl)
    simp only [Act.put, List.getElem_toArray, List.getElem_cons_succ, List.getElem_cons_zero, List.setIfInBounds_toArray, List.set_cons_zero, List.set_cons_succ]
    refine wpAnyH_take (i := 15) (oi := _) (v := ?_) rfl (by kernel_rfl) (by kernel_rfl) (by kernel_rfl) (fun _ _ _ h => h) (Or.inl ⟨by rfl, ?_⟩) hS ?_
    rotate_left
    · intro w' hw'
      have hcells := HC8.out w' hw'
      go_simp
      (try with_reducible rfl)
    simp only [Act.put, List.getElem_toArray, List.getElem_cons_succ, List.getElem_cons_zero, List.setIfInBounds_toArray, List.set_cons_zero, List.set_cons_succ]
    refine wpAnyH_take (i := 16) (oi := _) (v := ?_) rfl (by kernel_rfl) (by kernel_rfl) (by kernel_rfl) (fun _ _ _ h => h) (Or.inl ⟨by rfl, ?_⟩) hS ?_
    rotate_left
    · intro w' hw'
      have hcells := HC8.out w' hw'
      go_simp
      (try with_reducible rfl)
    simp only [Act.put, List.getElem_toArray, List.getElem_cons_succ, List.getElem_cons_zero, List.setIfInBounds_toArray, List.set_cons_zero, List.set_cons_succ]
    refine wpAnyH_take (i := 17) (oi := _) (v := ?_) rfl (by kernel_rfl) (by kernel_rfl) (by kernel_rfl) (fun _ _ _ h => h) (Or.inl ⟨by rfl, ?_⟩) hS ?_
    rotate_left
    · intro w' hw'
      have hcells := HC8.out w' hw'
      go_simp
      (try with_reducible rfl)
    simp only [Act.put, List.getElem_toArray, List.getElem_cons_succ, List.getElem_cons_zero, List.setIfInBounds_toArray, List.set_cons_zero, List.set_cons_succ]
    refine wpAnyH_take (i := 18) (oi := _) (v := ?_) rfl (by kernel_rfl) (by kernel_rfl) (by kernel_rfl) (fun _ _ _ h => h) (Or.inl ⟨by rfl, ?_⟩) hS ?_
    rotate_left
    · intro w' hw'
      have hcells := HC8.out w' hw'
      go_simp
      (try with_reducible rfl)
    simp only [Act.put, List.getElem_toArray, List.getElem_cons_succ, List.getElem_cons_zero, List.setIfInBounds_toArray, List.set_cons_zero, List.set_cons_succ]
    refine wpAnyH_take (i := 19) (oi := _) (v := ?_) rfl (by kernel_rfl) (by kernel_rfl) (by kernel_rfl) (fun _ _ _ h => h) (Or.inl ⟨by rfl, ?_⟩) hS ?_
    rotate_left
    · intro w' hw'
      have hcells := HC8.out w' hw'
      go_simp
      (try with_reducible rfl)
    simp only [Act.put, List.getElem_toArray, List.getElem_cons_succ, List.getElem_cons_zero, List.setIfInBounds_toArray, List.set_cons_zero, List.set_cons_succ]
    refine wpAnyH_take (i := 20) (oi := _) (v := ?_) rfl (by kernel_rfl) (by kernel_rfl) (by kernel_rfl) (fun _ _ _ h => h) (Or.inl ⟨by rfl, ?_⟩) hS ?_
    rotate_left
    · intro w' hw'
      have hcells := HC8.out w' hw'
      go_simp
      (try with_reducible rfl)
    simp only [Act.put, List.getElem_toArray, List.getElem_cons_succ, List.getElem_cons_zero, List.setIfInBounds_toArray, List.set_cons_zero, List.set_cons_succ]
    refine wpAnyH_take (i := 21) (oi := _) (v := ?_) rfl (by kernel_rfl) (by kernel_rfl) (by kernel_rfl) (fun _ _ _ h => h) (Or.inl ⟨by rfl, ?_⟩) hS ?_
    rotate_left
    · intro w' hw'
      have hcells := HC8.out w' hw'
      go_simp
      (try with_reducible rfl)
    simp only [Act.put, List.getElem_toArray, List.getElem_cons_succ, List.getElem_cons_zero, List.setIfInBounds_toArray, List.set_cons_zero, List.set_cons_succ]
    refine wpAnyH_ready (rs := [13]) (by kernel_rfl) (by simp) ?_
    refine AllReadyH.cons (o := _) rfl (fun K hK => ?_) AllReadyH.nil
    go_simp; go_at_call 42; refine (HES.out _ hS).mono ?_
    rintro e wz ⟨rfl, hbz⟩
    refine hK.out _ _ (hS.trans (hbz.mono hS.size)) (fun hS => ?_)
    clear hK K
    (try simp only [Act.put, List.getElem_toArray, List.getElem_cons_succ, List.getElem_cons_zero, List.setIfInBounds_toArray, List.set_cons_zero, List.set_cons_succ])
    refine wpAnyH_ready (rs := [22]) (by kernel_rfl) (by simp) ?_
    refine AllReadyH.cons (o := _) rfl (fun K hK => ?_) AllReadyH.nil
    go_simp; go_at_call 38; refine (HSS.out _ hS).mono ?_
    rintro e wz ⟨rfl, hbz⟩
    refine hK.out _ _ (hS.trans (hbz.mono hS.size)) (fun hS => ?_)
    clear hK K
    (try simp only [Act.put, List.getElem_toArray, List.getElem_cons_succ, List.getElem_cons_zero, List.setIfInBounds_toArray, List.set_cons_zero, List.set_cons_succ])
    refine wpAnyH_take (i := 23) (oi := _) (v := ?_) rfl (by kernel_rfl) (by kernel_rfl) (by kernel_rfl) (fun _ _ _ h => h) (Or.inl ⟨by rfl, ?_⟩) hS ?_
    rotate_left
    · intro w' hw'
      have hcells := HC8.out w' hw'
      go_simp
      (try with_reducible rfl)
    simp only [Act.put, List.getElem_toArray, List.getElem_cons_succ, List.getElem_cons_zero, List.setIfInBounds_toArray, List.set_cons_zero, List.set_cons_succ]
    refine wpAnyH_take (i := 24) (oi := _) (v := ?_) rfl (by kernel_rfl) (by kernel_rfl) (by kernel_rfl) (fun _ _ _ h => h) (Or.inl ⟨by rfl, ?_⟩) hS ?_
    rotate_left
    · intro w' hw'
      have hcells := HC8.out w' hw'
      go_simp
      (try with_reducible rfl)
    simp only [Act.put, List.getElem_toArray, List.getElem_cons_succ, List.getElem_cons_zero, List.setIfInBounds_toArray, List.set_cons_zero, List.set_cons_succ]
    refine wpAnyH_done (by kernel_rfl) ?_ _
    (try dsimp only)
    have hb10 := hS
    clear hS HES HSS HC8
    obtain ⟨w9, hw9⟩ : ∃ w9, w9 = wz := ⟨_, rfl⟩
    rw [← hw9] at hb10 ⊢
    clear hw9
    have hb9 := HB8.out.trans (hb10.mono HB8.out.size)
    have hi9 := HI7.out w9 hb9
    have HB9 := hid hb9
    have hbu9 := (HBU6.out.ext (HC6B.out.trans (hb9.mono HC6B.out.size)))
    have hgb := HBU6.out.own
    obtain ⟨cs, hcs, hown, hel⟩ := hbu9
    obtain ⟨hlen, h4 | ⟨g, cap, cur, hv, hBg, hg, hcap, hcm, hsz, htk⟩⟩ := hown
    · exfalso; have := h4.2; have := hi9.2.2.2.l.len; have := HL.out; omega
    have hca : c6.a = some ⟨g, 0, none⟩ := by injection hv
    have hgl : g < w6.heap.size := (hgb g (by rw [hca]; rfl)).2
    have hcl : c6.l = l := by have h1 := hi9.2.2.2.l.len; have h2 := HL.out; omega
    have hown2 : w9.ownsRow (w4.heap.size + 2) 58 10 (.slice (some ⟨g, 0, none⟩) c6.l cap) c6.l (cs.flatMap slK.cs) := ⟨hlen, .inr ⟨g, cap, cur, rfl, hBg, hg, hcap, hcm, hsz, htk⟩⟩
    have hcc : c6.c = cap := by injection hv
    have hg6 := AtG.ofRow (K := slK) hown2 0 (by omega) 6 (by decide)
    have hgf := freeOf hg 6
    simp only [Nat.zero_mul, Nat.zero_add] at hg6
    obtain ⟨zz, hzz⟩ : ∃ zz, w9.cell? ⟨g, 6, none⟩ = some (.int .i64 zz) := ⟨_, hg6⟩
    clear hg6
    have HPK := hid (Built.poke (w := w9) (n := c6.l) (cap := cap) (l := d.l) ⟨cs, hcs, hown2, by rw [← hca, ← hcc]; exact hel⟩ (by have := HL.out; omega) (by rw [hcl]; exact hbig) (bits .xor .i64 x.n 1) (xor1_i64 _))
    have hc9 := HC7.out w9 hb9
    obtain ⟨⟨⟨e0, e1, e2⟩, _⟩, ⟨z0, z1, z2⟩⟩ := hc9
    rw [hca] at z2
    have e6 := ((HXA.out.same (hi9.1.block b HB.out)).slot).2.2.2.2.2.2.1
    have HGL := hid hgl
    have HGB := hid (show w.heap.size + 2 ≤ g from by have := HA.out.size; have h2 := HB4.out.size; omega)
    have HCL := hid hcl
    have hc60 : 0 < c6.l := by omega
    have hc61 : (0 : Int) < (c6.l : Int) := by omega
    clear hlen hv hBg hg hcap hcm hsz htk hown2 hel hcs hb10 hb9 hgb hi9 hcl hgl
    go_upto_region 12 with (fail)
    clear e0 e1 e2 z0 z1 z2 e6 hzz hgf
    obtain ⟨wa, hwa⟩ : ∃ wa, wa = (w9.setCell ⟨g, 6, none⟩ (.int .i64 (bits .xor .i64 x.n 1))) := ⟨_, rfl⟩
    have hother : ∀ b, b ≠ g → wa.heap[b]? = w9.heap[b]? := fun b hb => by rw [hwa]; exact Below.heap_setCell _ _ _ _ hb
    have hsa : wa.heap.size = w9.heap.size := by rw [hwa]; simp [World.setCell]
    have hBa : Below w.heap.size w wa := by rw [hwa]; exact (HI7.out w9 HB9.out).1.setCell (p := ⟨g, 6, none⟩) (by have := HGB.out; dsimp only; omega) _
    have hpk := HPK.out
    rw [← hwa] at hpk ⊢
    have hs9 := HB9.out.size
    have hs7 := HS7.out
    have hcell : ∀ b i, b ≠ g → wa.cell? ⟨b, i, none⟩ = w9.cell? ⟨b, i, none⟩ := fun b i hb => World.cell?_of_block (w := w9) (a := ⟨b, i, none⟩) (hother b hb)
    have hc9 := HC7.out w9 HB9.out
    obtain ⟨⟨⟨e0, e1, e2⟩, _⟩, ⟨z0, z1, z2⟩⟩ := hc9
    have hgw := HGB.out
    have hgl := HGL.out
    rw [← hcell _ _ (by omega)] at e0 e1 e2 z0 z1 z2
    have hi9 := HI7.out w9 HB9.out
    have e6 := ((HXA.out.same (hBa.block b HB.out)).slot).2.2.2.2.2.2.1
    have HCQ : Hid (Calls Tryz.prog 40 #[.agg #[.int .i64 c6.n, .int .i64 c6.t, .slice c6.a c6.l c6.c], .agg #[.int .i64 n, .int .i64 t, .slice (some ⟨b, o, none⟩) l c]] wa fun e w2 => e = .returned (.bool false) ∧ Below wa.heap.size wa w2) := hid (by
      have hc := equalSta_call c6 ⟨n, t, some ⟨b, o, none⟩, l, c⟩ ⟨d.n, d.t, pokeL d.l (bits .xor .i64 x.n 1)⟩ d wa ⟨hi9.2.2.2.n, hi9.2.2.2.rn, hi9.2.2.2.t, hi9.2.2.2.rt, by rw [hca, hcc]; exact hpk.same fun b q => ⟨by omega, rfl⟩⟩ (by
        have h1 := HD.out.same (S' := (· < wa.heap.size)) (w' := wa) fun b q => ⟨Nat.lt_of_lt_of_le q hBa.size, hBa.block b q⟩
        exact h1)
      rw [pokeL_ne HLP.out (fun h => by rw [← HXN.out]; exact xor1_ne _ HXR.out)] at hc
      exact hc)
    have HBA := hid hBa
    clear hother hsa hBa hpk hs9 hcell hgw hgl hi9 hwa hca hcc hc60 hc61 hxi hs7
    go_wp2_with (go_at_call 40; refine HCQ.out.mono ?_; rintro e wf ⟨rfl, hbf⟩)
    go_ret
    exact ⟨rfl, HBA.out.trans (hbf.mono HBA.out.size)⟩
  · have HC8 : Hid (∀ w', Below w8.heap.size w8 w' → ((w'.cell? ⟨w.heap.size, 2, none⟩ = some (.slice (some ⟨b, o, none⟩) l c)) ∧ (w'.cell? ⟨w.heap.size + 1, 2, none⟩ = some (.slice a2 l2 c2))) ∧ (w'.cell? ⟨b, o, none⟩ = some (.int .i64 x.k.k) ∧ w'.cell? ⟨b, o + 1, none⟩ = some (.int .i64 x.k.i) ∧ w'.cell? ⟨b, o + 2, none⟩ = some (.int .i64 x.k.s) ∧ w'.cell? ⟨b, o + 3, none⟩ = some (.string x.k.t) ∧ w'.cell? ⟨b, o + 4, none⟩ = some (.slice x.k.la x.k.ll x.k.lc) ∧ w'.cell? ⟨b, o + 5, none⟩ = some (.slice x.k.fa x.k.fl x.k.fc) ∧ w'.cell? ⟨b, o + 6, none⟩ = some (.int .i64 x.n) ∧ w'.cell? ⟨b, o + 7, none⟩ = some (.int .i64 x.t) ∧ w'.cell? ⟨b, o + 8, none⟩ = some (.slice x.ia x.il x.ic) ∧ w'.cell? ⟨b, o + 9, none⟩ = some (.slice x.va x.vl x.vc))) := hid fun w' h => by
      have h1 := HC7.out w' (HB8.out.trans (h.mono HB8.out.size))
      have hw := (HI7.out w' (HB8.out.trans (h.mono HB8.out.size))).1
      have hx2 := (HXA.out.same (hw.block b HB.out)).slot
      
      exact ⟨⟨h1.1.1.2.2, h1.1.2.2.2⟩, hx2⟩
    have hl2 : ¬ (0 : Int) < (l2 : Int) := by omega
    obtain rfl : l2 = 0 := by omega
    clear hxi'
    go_upto_region 8 with (fail)
    clear e0 e1 e2 e3 e4 e5
    refine wp_region_split 25 (fun w' => Below w8.heap.size w8 w') (by kernel_rfl) (by kernel_rfl) (by kernel_rfl) (by decide) ((Below.refl _ _).drew) (fun hS => ?_)
    simp only [List.take_succ_cons, List.take_zero, List.drop_succ_cons, List.drop_zero]
    refine wpAnyH_take (i := 0) (oi := _) (v := ?_) rfl (by kernel_rfl) (by kernel_rfl) (by kernel_rfl) (fun _ _ _ h => h) (Or.inl ⟨by rfl, ?_⟩) hS ?_
    rotate_left
    · intro w' hw'
      have hcells := HC8.out w' hw'
      go_simp
      (try with_reducible rfl)
    simp only [Act.put, List.getElem_toArray, List.getElem_cons_succ, List.getElem_cons_zero, List.setIfInBounds_toArray, List.set_cons_zero, List.set_cons_succ]
    refine wpAnyH_take (i := 1) (oi := _) (v := ?_) rfl (by kernel_rfl) (by kernel_rfl) (by kernel_rfl) (fun _ _ _ h => h) (Or.inl ⟨by rfl, ?_⟩) hS ?_
    rotate_left
    · intro w' hw'
      have hcells := HC8.out w' hw'
      go_simp
      (try with_reducible rfl)
    simp only [Act.put, List.getElem_toArray, List.getElem_cons_succ, List.getElem_cons_zero, List.setIfInBounds_toArray, List.set_cons_zero, List.set_cons_succ]
    refine wpAnyH_take (i := 2) (oi := _) (v := ?_) rfl (by kernel_rfl) (by kernel_rfl) (by kernel_rfl) (fun _ _ _ h => h) (Or.inl ⟨by rfl, ?_⟩) hS ?_
    rotate_left
    · intro w' hw'
      have hcells := HC8.out w' hw'
      go_simp
      (try with_reducible rfl)
    simp only [Act.put, List.getElem_toArray, List.getElem_cons_succ, List.getElem_cons_zero, List.setIfInBounds_toArray, List.set_cons_zero, List.set_cons_succ]
    refine wpAnyH_take (i := 3) (oi := _) (v := ?_) rfl (by kernel_rfl) (by kernel_rfl) (by kernel_rfl) (fun _ _ _ h => h) (Or.inl ⟨by rfl, ?_⟩) hS ?_
    rotate_left
    · intro w' hw'
      have hcells := HC8.out w' hw'
      go_simp
      (try with_reducible rfl)
    simp only [Act.put, List.getElem_toArray, List.getElem_cons_succ, List.getElem_cons_zero, List.setIfInBounds_toArray, List.set_cons_zero, List.set_cons_succ]
    refine wpAnyH_take (i := 4) (oi := _) (v := ?_) rfl (by kernel_rfl) (by kernel_rfl) (by kernel_rfl) (fun _ _ _ h => h) (Or.inl ⟨by rfl, ?_⟩) hS ?_
    rotate_left
    · intro w' hw'
      have hcells := HC8.out w' hw'
      go_simp
      (try with_reducible rfl)
    simp only [Act.put, List.getElem_toArray, List.getElem_cons_succ, List.getElem_cons_zero, List.setIfInBounds_toArray, List.set_cons_zero, List.set_cons_succ]
    refine wpAnyH_take (i := 5) (oi := _) (v := undef) rfl (by kernel_rfl) (by kernel_rfl) (by kernel_rfl) (fun _ _ _ h => h) (Or.inr ⟨by rfl, rfl⟩) hS ?_
    simp only [Act.put, List.getElem_toArray, List.getElem_cons_succ, List.getElem_cons_zero, List.setIfInBounds_toArray, List.set_cons_zero, List.set_cons_succ]
    refine wpAnyH_take (i := 6) (oi := _) (v := undef) rfl (by kernel_rfl) (by kernel_rfl) (by kernel_rfl) (fun _ _ _ h => h) (Or.inr ⟨by rfl, rfl⟩) hS ?_
    simp only [Act.put, List.getElem_toArray, List.getElem_cons_succ, List.getElem_cons_zero, List.setIfInBounds_toArray, List.set_cons_zero, List.set_cons_succ]
    refine wpAnyH_take (i := 7) (oi := _) (v := undef) rfl (by kernel_rfl) (by kernel_rfl) (by kernel_rfl) (fun _ _ _ h => h) (Or.inr ⟨by rfl, rfl⟩) hS ?_
    simp only [Act.put, List.getElem_toArray, List.getElem_cons_succ, List.getElem_cons_zero, List.setIfInBounds_toArray, List.set_cons_zero, List.set_cons_succ]
    refine wpAnyH_take (i := 8) (oi := _) (v := undef) rfl (by kernel_rfl) (by kernel_rfl) (by kernel_rfl) (fun _ _ _ h => h) (Or.inr ⟨by rfl, rfl⟩) hS ?_
    simp only [Act.put, List.getElem_toArray, List.getElem_cons_succ, List.getElem_cons_zero, List.setIfInBounds_toArray, List.set_cons_zero, List.set_cons_succ]
    refine wpAnyH_take (i := 9) (oi := _) (v := undef) rfl (by kernel_rfl) (by kernel_rfl) (by kernel_rfl) (fun _ _ _ h => h) (Or.inr ⟨by rfl, rfl⟩) hS ?_
    simp only [Act.put, List.getElem_toArray, List.getElem_cons_succ, List.getElem_cons_zero, List.setIfInBounds_toArray, List.set_cons_zero, List.set_cons_succ]
    refine wpAnyH_take (i := 10) (oi := _) (v := undef) rfl (by kernel_rfl) (by kernel_rfl) (by kernel_rfl) (fun _ _ _ h => h) (Or.inr ⟨by rfl, rfl⟩) hS ?_
    simp only [Act.put, List.getElem_toArray, List.getElem_cons_succ, List.getElem_cons_zero, List.setIfInBounds_toArray, List.set_cons_zero, List.set_cons_succ]
    refine wpAnyH_take (i := 11) (oi := _) (v := undef) rfl (by kernel_rfl) (by kernel_rfl) (by kernel_rfl) (fun _ _ _ h => h) (Or.inr ⟨by rfl, rfl⟩) hS ?_
    simp only [Act.put, List.getElem_toArray, List.getElem_cons_succ, List.getElem_cons_zero, List.setIfInBounds_toArray, List.set_cons_zero, List.set_cons_succ]
    refine wpAnyH_take (i := 12) (oi := _) (v := undef) rfl (by kernel_rfl) (by kernel_rfl) (by kernel_rfl) (fun _ _ _ h => h) (Or.inr ⟨by rfl, rfl⟩) hS ?_
    simp only [Act.put, List.getElem_toArray, List.getElem_cons_succ, List.getElem_cons_zero, List.setIfInBounds_toArray, List.set_cons_zero, List.set_cons_succ]
    refine wpAnyH_take (i := 13) (oi := _) (v := undef) rfl (by kernel_rfl) (by kernel_rfl) (by kernel_rfl) (fun _ _ _ h => h) (Or.inr ⟨by rfl, rfl⟩) hS ?_
    simp only [Act.put, List.getElem_toArray, List.getElem_cons_succ, List.getElem_cons_zero, List.setIfInBounds_toArray, List.set_cons_zero, List.set_cons_succ]
    refine wpAnyH_take (i := 14) (oi := _) (v := undef) rfl (by kernel_rfl) (by kernel_rfl) (by kernel_rfl) (fun _ _ _ h => h) (Or.inr ⟨by rfl, rfl⟩) hS ?_
    simp only [Act.put, List.getElem_toArray, List.getElem_cons_succ, List.getElem_cons_zero, List.setIfInBounds_toArray, List.set_cons_zero, List.set_cons_succ]
    refine wpAnyH_take (i := 15) (oi := _) (v := undef) rfl (by kernel_rfl) (by kernel_rfl) (by kernel_rfl) (fun _ _ _ h => h) (Or.inr ⟨by rfl, rfl⟩) hS ?_
    simp only [Act.put, List.getElem_toArray, List.getElem_cons_succ, List.getElem_cons_zero, List.setIfInBounds_toArray, List.set_cons_zero, List.set_cons_succ]
    refine wpAnyH_take (i := 16) (oi := _) (v := undef) rfl (by kernel_rfl) (by kernel_rfl) (by kernel_rfl) (fun _ _ _ h => h) (Or.inr ⟨by rfl, rfl⟩) hS ?_
    simp only [Act.put, List.getElem_toArray, List.getElem_cons_succ, List.getElem_cons_zero, List.setIfInBounds_toArray, List.set_cons_zero, List.set_cons_succ]
    refine wpAnyH_take (i := 17) (oi := _) (v := undef) rfl (by kernel_rfl) (by kernel_rfl) (by kernel_rfl) (fun _ _ _ h => h) (Or.inr ⟨by rfl, rfl⟩) hS ?_
    simp only [Act.put, List.getElem_toArray, List.getElem_cons_succ, List.getElem_cons_zero, List.setIfInBounds_toArray, List.set_cons_zero, List.set_cons_succ]
    refine wpAnyH_take (i := 18) (oi := _) (v := undef) rfl (by kernel_rfl) (by kernel_rfl) (by kernel_rfl) (fun _ _ _ h => h) (Or.inr ⟨by rfl, rfl⟩) hS ?_
    simp only [Act.put, List.getElem_toArray, List.getElem_cons_succ, List.getElem_cons_zero, List.setIfInBounds_toArray, List.set_cons_zero, List.set_cons_succ]
    refine wpAnyH_take (i := 19) (oi := _) (v := undef) rfl (by kernel_rfl) (by kernel_rfl) (by kernel_rfl) (fun _ _ _ h => h) (Or.inr ⟨by rfl, rfl⟩) hS ?_
    simp only [Act.put, List.getElem_toArray, List.getElem_cons_succ, List.getElem_cons_zero, List.setIfInBounds_toArray, List.set_cons_zero, List.set_cons_succ]
    refine wpAnyH_take (i := 20) (oi := _) (v := undef) rfl (by kernel_rfl) (by kernel_rfl) (by kernel_rfl) (fun _ _ _ h => h) (Or.inr ⟨by rfl, rfl⟩) hS ?_
    simp only [Act.put, List.getElem_toArray, List.getElem_cons_succ, List.getElem_cons_zero, List.setIfInBounds_toArray, List.set_cons_zero, List.set_cons_succ]
    refine wpAnyH_take (i := 21) (oi := _) (v := undef) rfl (by kernel_rfl) (by kernel_rfl) (by kernel_rfl) (fun _ _ _ h => h) (Or.inr ⟨by rfl, rfl⟩) hS ?_
    simp only [Act.put, List.getElem_toArray, List.getElem_cons_succ, List.getElem_cons_zero, List.setIfInBounds_toArray, List.set_cons_zero, List.set_cons_succ]
    refine wpAnyH_take (i := 22) (oi := _) (v := undef) rfl (by kernel_rfl) (by kernel_rfl) (by kernel_rfl) (fun _ _ _ h => h) (Or.inr ⟨by rfl, rfl⟩) hS ?_
    simp only [Act.put, List.getElem_toArray, List.getElem_cons_succ, List.getElem_cons_zero, List.setIfInBounds_toArray, List.set_cons_zero, List.set_cons_succ]
    refine wpAnyH_take (i := 23) (oi := _) (v := undef) rfl (by kernel_rfl) (by kernel_rfl) (by kernel_rfl) (fun _ _ _ h => h) (Or.inr ⟨by rfl, rfl⟩) hS ?_
    simp only [Act.put, List.getElem_toArray, List.getElem_cons_succ, List.getElem_cons_zero, List.setIfInBounds_toArray, List.set_cons_zero, List.set_cons_succ]
    refine wpAnyH_take (i := 24) (oi := _) (v := ?_) rfl (by kernel_rfl) (by kernel_rfl) (by kernel_rfl) (fun _ _ _ h => h) (Or.inl ⟨by rfl, ?_⟩) hS ?_
    rotate_left
    · intro w' hw'
      have hcells := HC8.out w' hw'
      go_simp
      (try with_reducible rfl)
    simp only [Act.put, List.getElem_toArray, List.getElem_cons_succ, List.getElem_cons_zero, List.setIfInBounds_toArray, List.set_cons_zero, List.set_cons_succ]
    refine wpAnyH_done (by kernel_rfl) ?_ _
    (try dsimp only)
    have hb10 := hS
    clear hS
    obtain ⟨w9, hw9⟩ : ∃ w9, w9 = w8.drew := ⟨_, rfl⟩
    rw [← hw9] at hb10 ⊢
    clear hw9
    have hb9 := HB8.out.trans (hb10.mono HB8.out.size)
    have hi9 := HI7.out w9 hb9
    have HB9 := hid hb9
    have hbu9 := (HBU6.out.ext (HC6B.out.trans (hb9.mono HC6B.out.size)))
    have hgb := HBU6.out.own
    obtain ⟨cs, hcs, hown, hel⟩ := hbu9
    obtain ⟨hlen, h4 | ⟨g, cap, cur, hv, hBg, hg, hcap, hcm, hsz, htk⟩⟩ := hown
    · exfalso; have := h4.2; have := hi9.2.2.2.l.len; have := HL.out; omega
    have hca : c6.a = some ⟨g, 0, none⟩ := by injection hv
    have hgl : g < w6.heap.size := (hgb g (by rw [hca]; rfl)).2
    have hcl : c6.l = l := by have h1 := hi9.2.2.2.l.len; have h2 := HL.out; omega
    have hown2 : w9.ownsRow (w4.heap.size + 2) 58 10 (.slice (some ⟨g, 0, none⟩) c6.l cap) c6.l (cs.flatMap slK.cs) := ⟨hlen, .inr ⟨g, cap, cur, rfl, hBg, hg, hcap, hcm, hsz, htk⟩⟩
    have hcc : c6.c = cap := by injection hv
    have hg6 := AtG.ofRow (K := slK) hown2 0 (by omega) 6 (by decide)
    have hgf := freeOf hg 6
    simp only [Nat.zero_mul, Nat.zero_add] at hg6
    obtain ⟨zz, hzz⟩ : ∃ zz, w9.cell? ⟨g, 6, none⟩ = some (.int .i64 zz) := ⟨_, hg6⟩
    clear hg6
    have HPK := hid (Built.poke (w := w9) (n := c6.l) (cap := cap) (l := d.l) ⟨cs, hcs, hown2, by rw [← hca, ← hcc]; exact hel⟩ (by have := HL.out; omega) (by rw [hcl]; exact hbig) (bits .xor .i64 x.n 1) (xor1_i64 _))
    have hc9 := HC7.out w9 hb9
    obtain ⟨⟨⟨e0, e1, e2⟩, _⟩, ⟨z0, z1, z2⟩⟩ := hc9
    rw [hca] at z2
    have e6 := ((HXA.out.same (hi9.1.block b HB.out)).slot).2.2.2.2.2.2.1
    have HGL := hid hgl
    have HGB := hid (show w.heap.size + 2 ≤ g from by have := HA.out.size; have h2 := HB4.out.size; omega)
    have HCL := hid hcl
    have hc60 : 0 < c6.l := by omega
    have hc61 : (0 : Int) < (c6.l : Int) := by omega
    clear hlen hv hBg hg hcap hcm hsz htk hown2 hel hcs hb10 hb9 hgb hi9 hcl hgl
    go_upto_region 12 with (fail)
    clear e0 e1 e2 z0 z1 z2 e6 hzz hgf
    obtain ⟨wa, hwa⟩ : ∃ wa, wa = (w9.setCell ⟨g, 6, none⟩ (.int .i64 (bits .xor .i64 x.n 1))) := ⟨_, rfl⟩
    have hother : ∀ b, b ≠ g → wa.heap[b]? = w9.heap[b]? := fun b hb => by rw [hwa]; exact Below.heap_setCell _ _ _ _ hb
    have hsa : wa.heap.size = w9.heap.size := by rw [hwa]; simp [World.setCell]
    have hBa : Below w.heap.size w wa := by rw [hwa]; exact (HI7.out w9 HB9.out).1.setCell (p := ⟨g, 6, none⟩) (by have := HGB.out; dsimp only; omega) _
    have hpk := HPK.out
    rw [← hwa] at hpk ⊢
    have hs9 := HB9.out.size
    have hs7 := HS7.out
    have hcell : ∀ b i, b ≠ g → wa.cell? ⟨b, i, none⟩ = w9.cell? ⟨b, i, none⟩ := fun b i hb => World.cell?_of_block (w := w9) (a := ⟨b, i, none⟩) (hother b hb)
    have hc9 := HC7.out w9 HB9.out
    obtain ⟨⟨⟨e0, e1, e2⟩, _⟩, ⟨z0, z1, z2⟩⟩ := hc9
    have hgw := HGB.out
    have hgl := HGL.out
    rw [← hcell _ _ (by omega)] at e0 e1 e2 z0 z1 z2
    have hi9 := HI7.out w9 HB9.out
    have e6 := ((HXA.out.same (hBa.block b HB.out)).slot).2.2.2.2.2.2.1
    have HCQ : Hid (Calls Tryz.prog 40 #[.agg #[.int .i64 c6.n, .int .i64 c6.t, .slice c6.a c6.l c6.c], .agg #[.int .i64 n, .int .i64 t, .slice (some ⟨b, o, none⟩) l c]] wa fun e w2 => e = .returned (.bool false) ∧ Below wa.heap.size wa w2) := hid (by
      have hc := equalSta_call c6 ⟨n, t, some ⟨b, o, none⟩, l, c⟩ ⟨d.n, d.t, pokeL d.l (bits .xor .i64 x.n 1)⟩ d wa ⟨hi9.2.2.2.n, hi9.2.2.2.rn, hi9.2.2.2.t, hi9.2.2.2.rt, by rw [hca, hcc]; exact hpk.same fun b q => ⟨by omega, rfl⟩⟩ (by
        have h1 := HD.out.same (S' := (· < wa.heap.size)) (w' := wa) fun b q => ⟨Nat.lt_of_lt_of_le q hBa.size, hBa.block b q⟩
        exact h1)
      rw [pokeL_ne HLP.out (fun h => by rw [← HXN.out]; exact xor1_ne _ HXR.out)] at hc
      exact hc)
    have HBA := hid hBa
    clear hother hsa hBa hpk hs9 hcell hgw hgl hi9 hwa hca hcc hc60 hc61 hxi hs7
    go_wp2_with (go_at_call 40; refine HCQ.out.mono ?_; rintro e wf ⟨rfl, hbf⟩)
    go_ret
    exact ⟨rfl, HBA.out.trans (hbf.mono HBA.out.size)⟩
end Go.Proofs.YthjlgpmajeafpaaGreatDoor
