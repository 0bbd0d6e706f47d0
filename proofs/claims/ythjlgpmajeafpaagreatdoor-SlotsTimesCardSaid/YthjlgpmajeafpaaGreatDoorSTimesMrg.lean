/-
  SlotsTimes returns true. Conditions: the state can be read as data; Tabs.
-/
import Derived.Test.YthjlgpmajeafpaaGreatDoorTimMrg
import Derived.Test.YthjlgpmajeafpaaGreatDoorInsertMrg
import Derived.Test.YthjlgpmajeafpaaGreatDoorSlEqMrg
import Derived.Test.YthjlgpmajeafpaaGreatDoorPlaceMrg
import Derived.Test.YthjlgpmajeafpaaGreatDoorSmallSMrg
import Derived.Deep.DeepCutAuto
namespace Go.Proofs.YthjlgpmajeafpaaGreatDoor
open Go Go.RowKit Go.Shelf
set_option linter.unusedVariables false
set_option linter.unusedSimpArgs false

theorem DuePost_eq (w : World) (l : List Slot) : DuePost w l = fun e w' => e = .returned (.tuple #[.int .i64 (dueL l), .bool (decide (0 < dueL l))]) ∧ Below w.heap.size w w' := rfl
set_option maxRecDepth 100000 in
set_option maxHeartbeats 16000000 in
theorem slotsTimes_call (c : StC) (d : Sta) (now : Int) (w : World) (hd : IsSta (· < w.heap.size) w c d) (hnow : I64 now) (hT : Tabs w) : Calls Tryz.prog 14 #[c.v, .int .i64 now] w fun e w' => e = .returned (.bool true) ∧ Below w.heap.size w w' := by
  obtain ⟨ti, hi, hz0, hz1, hz2⟩ := info_parts infoSlot
  obtain ⟨sn, st, a, sl, sc⟩ := c
  have HL := hid hd.l.len
  dsimp only at HL
  have HA := hid (show Below w.heap.size w (w.alloc (.cells #[.int .i64 sn, .int .i64 st, .slice a sl sc] 55)) from (Below.refl _ w).alloc (Nat.le_refl _) _)
  have HG := hid (heap_alloc_new w (.cells #[.int .i64 sn, .int .i64 st, .slice a sl sc] 55))
  have HT := hid hT
  have HD := hid hd
  have HBX : Hid (∀ w', Below (w.alloc (.cells #[.int .i64 sn, .int .i64 st, .slice a sl sc] 55)).heap.size (w.alloc (.cells #[.int .i64 sn, .int .i64 st, .slice a sl sc] 55)) w' → w'.cell? ⟨w.heap.size, 0, none⟩ = some (.int .i64 sn) ∧ w'.cell? ⟨w.heap.size, 1, none⟩ = some (.int .i64 st) ∧ w'.cell? ⟨w.heap.size, 2, none⟩ = some (.slice a sl sc)) := hid fun w' h => by
    have h1 := heapExt h HG.out
    exact ⟨cellOf h1 0, cellOf h1 1, cellOf h1 2⟩
  have HUA : Hid (∀ w', Below (w.alloc (.cells #[.int .i64 sn, .int .i64 st, .slice a sl sc] 55)).heap.size (w.alloc (.cells #[.int .i64 sn, .int .i64 st, .slice a sl sc] 55)) w' → Below w.heap.size w w' ∧ IsSta (· < w'.heap.size) w' ⟨sn, st, a, sl, sc⟩ d) := hid fun w' h => by
    have hw := HA.out.trans (h.mono HA.out.size)
    have hs := hw.size
    exact ⟨hw, HD.out.same fun b q => ⟨by omega, hw.block b q⟩⟩
  have HK : Hid (∀ w', Below (w.alloc (.cells #[.int .i64 sn, .int .i64 st, .slice a sl sc] 55)).heap.size (w.alloc (.cells #[.int .i64 sn, .int .i64 st, .slice a sl sc] 55)) w' → Calls Tryz.prog 29 #[] w' fun e w2 => e = .returned (.bool true) ∧ Below w'.heap.size w' w2) := hid fun w' h => knownS_call w' (HT.out.below (HUA.out w' h).1)
  have HSM : Hid (∀ w', Below (w.alloc (.cells #[.int .i64 sn, .int .i64 st, .slice a sl sc] 55)).heap.size (w.alloc (.cells #[.int .i64 sn, .int .i64 st, .slice a sl sc] 55)) w' → Calls Tryz.prog 30 #[.agg #[.int .i64 sn, .int .i64 st, .slice a sl sc]] w' (SmStPost d w')) := hid fun w' h => smallSta_call ⟨sn, st, a, sl, sc⟩ d w' (HUA.out w' h).2
  clear hd hT
  obtain ⟨k0, k1, k2⟩ := HBX.out _ (Below.refl _ _)
  dsimp only [StC.v]
  go_enter Tryz.func14, Tryz.ntmps14
  go_upto_region 3 with (first
    | (go_at_call 29; refine (HK.out _ hb3).mono ?_; rintro e w9 ⟨rfl, hb9⟩; have hbz := hb3.trans (hb9.mono hb3.size))
    | (go_at_call 30; refine (HSM.out _ hb2).mono ?_; rintro e w3 ⟨⟨b1, rfl, hs1⟩, hb3'⟩; have hb3 := hb2.trans (hb3'.mono hb2.size); clear k0 k1 k2; obtain ⟨k0, k1, k2⟩ := HBX.out _ (hb3); cases b1)
    | (go_at_call 29; refine (HK.out _ (Below.refl _ _)).mono ?_; rintro e w2 ⟨rfl, hb2⟩; clear k0 k1 k2; obtain ⟨k0, k1, k2⟩ := HBX.out _ (hb2)))
  · go_ret
    exact ⟨rfl, (HUA.out _ hbz).1⟩
  have hsm : SmSta d := by first | exact hs1 rfl | exact hs1 trivial | exact hs1
  have hsl10 : sl ≤ 10 := by have h1 := hsm.1; have h2 := HL.out; omega
  have HB3A := hid hb3
  have HU3 : Hid (∀ w', Below w3.heap.size w3 w' → Below w.heap.size w w') := hid fun w' h => (HUA.out _ (HB3A.out.trans (h.mono HB3A.out.size))).1
  have HST3 : Hid (∀ w', Below w3.heap.size w3 w' → IsSta (· < w'.heap.size) w' ⟨sn, st, a, sl, sc⟩ d) := hid fun w' h => (HUA.out _ (HB3A.out.trans (h.mono HB3A.out.size))).2
  have HBX3 : Hid (∀ w', Below w3.heap.size w3 w' → w'.cell? ⟨w.heap.size, 2, none⟩ = some (.slice a sl sc)) := hid fun w' h => (HBX.out _ (HB3A.out.trans (h.mono HB3A.out.size))).2.2
  have HBY3 : Hid (∀ w', Below w3.heap.size w3 w' → w'.cell? ⟨w.heap.size, 0, none⟩ = some (.int .i64 sn) ∧ w'.cell? ⟨w.heap.size, 1, none⟩ = some (.int .i64 st) ∧ w'.cell? ⟨w.heap.size, 2, none⟩ = some (.slice a sl sc)) := hid fun w' h => HBX.out _ (HB3A.out.trans (h.mono HB3A.out.size))
  have HW3 := hid (show w.heap.size ≤ w3.heap.size from (HU3.out _ (Below.refl _ _)).size)
  clear HK HSM hs1 hb3' hb2 hb3 hsm k0 k1 k2
  go_wp2
  go_loopw [5, 6, 7, 8] (fun wv dv jv iv wr => ∃ (k m : Nat) (v : Value) (z : Int) (j : Nat), v = wv ∧ dv = .int .i64 z ∧ jv = .int .i64 j ∧ iv = .int .i64 k ∧ k ≤ sl ∧ TimR d.l now z j m k ∧ Below w3.heap.size w3 wr ∧ WantR w.heap.size w3.heap.size wr v m (wantL now d.l k)) (fun _ _ _ iv _ => sl - (intOf iv).toNat)
  case atStart => exact ⟨0, 0, _, 0, 0, rfl, rfl, rfl, rfl, Nat.zero_le _, ⟨rfl, Int.le_refl _, rfl, rfl⟩, Below.refl _ _, ⟨.inl ⟨rfl, rfl⟩, Kept.nil _ _ _, fun r e => by cases e⟩⟩
  case round =>
  obtain ⟨k, m, v, z, j, rfl, rfl, rfl, rfl, hk, htr, hbr, hwt⟩ := hrel
  obtain ⟨wq, hwq⟩ : ∃ u, u = wr := ⟨_, rfl⟩
  rw [← hwq] at hbr hwt ⊢
  clear hwq
  by_cases hlt : k < sl
  · have hkl : k < d.l.length := by have := HL.out; omega
    obtain ⟨b, o, hab, hb, hy⟩ := HD.out.l.slot (show 0 < sl by omega)
    subst hab
    obtain ⟨x, hxa, hxi⟩ := hy k hkl
    obtain ⟨dx, hdx⟩ : ∃ dx, dx = d.l[k] := ⟨_, rfl⟩
    rw [← hdx] at hxi
    have hjl : j < d.l.length := by
      have := htr.hj
      rcases Nat.eq_zero_or_pos k with h | h
      · subst h; rw [this]; exact hkl
      · have := oldI_lt d.l k h; omega
    obtain ⟨yj, hja, hji⟩ := hy j hjl
    have HDX : Hid (∀ (h : k < d.l.length), d.l[k]'h = dx) := hid fun _ => hdx.symm
    have HKL := hid hkl
    have HXI := hid hxi
    have HXT := hid (show x.t = dx.t from hxi.t)
    have HTR := hid htr
    have HWANT := hid hwt
    obtain ⟨j2, hj2⟩ : ∃ j2, j2 = oldI d.l (k + 1) := ⟨_, rfl⟩
    have HJE := hid hj2
    have HJC := hid (show x.n < yj.n ↔ nOf d.l k < nOf d.l (oldI d.l k) by rw [← htr.hj, nOf_get hkl, nOf_get hjl, ← hdx, hxi.n, hji.n])
    obtain ⟨z2, hz2⟩ : ∃ z2, z2 = dueS z dx := ⟨_, rfl⟩
    have HZ2 := hid (show z2 = dueL (d.l.take (k + 1)) by rw [dueL_take hkl, ← htr.hz, hz2, hdx])
    have HZP := hid (show 0 ≤ z2 by rw [HZ2.out]; exact dueL_nonneg _ _)
    obtain ⟨cb, hcb⟩ : ∃ cb, cb = decide (0 < x.t ∧ (z = 0 ∨ x.t < z)) := ⟨_, rfl⟩
    have HCB := hid hcb
    have HZE := hid (show z2 = if cb = true then x.t else z by rw [hz2, dueS, hcb, ← hxi.t]; by_cases h : 0 < x.t ∧ (z = 0 ∨ x.t < z) <;> simp [h])
    have HUQ := hid hbr
    have HXQ := hid (show Below w3.heap.size w3 (wq.alloc (.cells #[.int .i64 x.k.k, .int .i64 x.k.i, .int .i64 x.k.s, .string x.k.t, .slice x.k.la x.k.ll x.k.lc, .slice x.k.fa x.k.fl x.k.fc, .int .i64 x.n, .int .i64 x.t, .slice x.ia x.il x.ic, .slice x.va x.vl x.vc] 58)) from hbr.alloc hbr.size _)
    obtain ⟨x0, x1, x2, x3, x4, x5, x6, x7, x8, x9⟩ := (hxa.same ((HU3.out _ hbr).block b hb)).slot
    have k2 := (HBX3.out _ hbr)
    have hlt' : (k : Int) < (sl : Int) := by omega
    have hk0 : (0 : Int) ≤ (k : Int) := by omega
    have hj0 : (0 : Int) ≤ (j : Int) := by omega
    have hjs : (j : Int) < (sl : Int) := by have := HL.out; omega
    have HJA : Hid (∀ w', Below w3.heap.size w3 w' → w'.cell? ⟨b, o + j * 10 + 6, none⟩ = some (.int .i64 yj.n)) := hid fun w' h => ((hja.same ((HU3.out _ h).block b hb)).slot).2.2.2.2.2.2.1
    clear hkl hxa hxi hdx hja hji hjl htr hwt hj2 hz2 hcb hbr hy hb
    go_upto_region 9 with (fail)
    clear x0 x1 x2 x3 x4 x5 x6 x7 x8 x9 k2
    obtain ⟨wb, hwb⟩ : ∃ u, u = wq.alloc (.cells #[.int .i64 x.k.k, .int .i64 x.k.i, .int .i64 x.k.s, .string x.k.t, .slice x.k.la x.k.ll x.k.lc, .slice x.k.fa x.k.fl x.k.fc, .int .i64 x.n, .int .i64 x.t, .slice x.ia x.il x.ic, .slice x.va x.vl x.vc] 58) := ⟨_, rfl⟩
    obtain ⟨nX, hnX⟩ : ∃ u, u = wq.heap.size := ⟨_, rfl⟩
    have HNX := hid hnX
    have HQB := hid (show Below wq.heap.size wq wb by rw [hwb]; exact (Below.refl _ _).alloc (Nat.le_refl _) _)
    have HXB := hid (show wb.heap[nX]? = some (.cells #[.int .i64 x.k.k, .int .i64 x.k.i, .int .i64 x.k.s, .string x.k.t, .slice x.k.la x.k.ll x.k.lc, .slice x.k.fa x.k.fl x.k.fc, .int .i64 x.n, .int .i64 x.t, .slice x.ia x.il x.ic, .slice x.va x.vl x.vc] 58) by rw [hwb, hnX]; exact heap_alloc_new wq _)
    rw [← hwb, ← hnX]
    clear hwb hnX
    have x7 := cellOf HXB.out 7
    (try dsimp only at x7)
    go_cut [48] (fun tv w' => tv = .bool cb ∧ w' = wb)
    case first =>
      by_cases hc1 : 0 < x.t
      · by_cases hz : z = 0
        · have hcb : cb = true := by rw [HCB.out]; exact decide_eq_true ⟨hc1, .inl hz⟩
          subst hz
          go_wp2
          go_meet
          exact ⟨by rw [hcb], rfl⟩
        · have hze : (z == 0) = false := by simp [hz]
          by_cases hc2 : x.t < z
          · have hcb : cb = true := by rw [HCB.out]; exact decide_eq_true ⟨hc1, .inr hc2⟩
            go_wp2
            go_meet
            exact ⟨by rw [hcb], rfl⟩
          · have hcb : cb = false := by rw [HCB.out]; exact decide_eq_false (fun h => h.2.elim hz hc2)
            go_wp2
            go_meet
            exact ⟨by rw [hcb], rfl⟩
      · have hcb : cb = false := by rw [HCB.out]; exact decide_eq_false (fun h => hc1 h.1)
        go_wp2
        go_meet
        exact ⟨by rw [hcb], rfl⟩
    case rest =>
    obtain ⟨rfl, rfl⟩ := hcut
    obtain ⟨wb, hwb⟩ : ∃ u, u = wc := ⟨_, rfl⟩
    rw [← hwb] at HQB HXB ⊢
    clear hwb
    have x7 := cellOf HXB.out 7
    (try dsimp only at x7)
    go_upto_if 48 with (fail)
    go_cut [6] (fun dv w' => dv = .int .i64 z2 ∧ w' = wb)
    case first =>
      cases cb with
      | true =>
        have hz2 : z2 = x.t := by rw [HZE.out]; rfl
        go_wp2
        go_meet
        exact ⟨by rw [hz2], rfl⟩
      | false =>
        have hz2 : z2 = z := by rw [HZE.out]; rfl
        go_wp2
        go_meet
        exact ⟨by rw [hz2], rfl⟩
    case rest =>
    obtain ⟨rfl, rfl⟩ := hcut
    obtain ⟨wb, hwb⟩ : ∃ u, u = wc := ⟨_, rfl⟩
    rw [← hwb] at HQB HXB ⊢
    clear hwb x7
    have HC11 : Hid (∀ w', Below wb.heap.size wb w' → w'.cell? ⟨nX, 6, none⟩ = some (.int .i64 x.n) ∧ w'.cell? ⟨w.heap.size, 2, none⟩ = some (.slice (some ⟨b, o, none⟩) sl sc) ∧ w'.cell? ⟨b, o + j * 10 + 6, none⟩ = some (.int .i64 yj.n)) := hid fun w' h => by
      have h1 := HUQ.out.trans ((HQB.out.trans (h.mono HQB.out.size)).mono HUQ.out.size)
      exact ⟨cellOf (heapExt h HXB.out) 6, HBX3.out _ h1, HJA.out _ h1⟩
    go_upto_region 11 with (fail)
    refine wp_region_split 9 (fun w' => Below wb.heap.size wb w') (by kernel_rfl) (by kernel_rfl) (by kernel_rfl) (by decide) ((Below.refl _ _).drew) (fun hS => ?_)
    simp only [List.take_succ_cons, List.take_zero, List.drop_succ_cons, List.drop_zero]
    refine wpAnyH_take (i := 0) (oi := _) (v := ?_) rfl (by kernel_rfl) (by kernel_rfl) (by kernel_rfl) (fun _ _ _ h => h) (Or.inl ⟨by rfl, ?_⟩) hS ?_
    rotate_left
    · intro w' hw'
      have hcells := HC11.out w' hw'
      go_simp
      (try with_reducible rfl)
    simp only [Act.put, List.getElem_toArray, List.getElem_cons_succ, List.getElem_cons_zero, List.setIfInBounds_toArray, List.set_cons_zero, List.set_cons_succ]
    refine wpAnyH_take (i := 1) (oi := _) (v := ?_) rfl (by kernel_rfl) (by kernel_rfl) (by kernel_rfl) (fun _ _ _ h => h) (Or.inl ⟨by rfl, ?_⟩) hS ?_
    rotate_left
    · intro w' hw'
      have hcells := HC11.out w' hw'
      go_simp
      (try with_reducible rfl)
    simp only [Act.put, List.getElem_toArray, List.getElem_cons_succ, List.getElem_cons_zero, List.setIfInBounds_toArray, List.set_cons_zero, List.set_cons_succ]
    refine wpAnyH_take (i := 2) (oi := _) (v := ?_) rfl (by kernel_rfl) (by kernel_rfl) (by kernel_rfl) (fun _ _ _ h => h) (Or.inl ⟨by rfl, ?_⟩) hS ?_
    rotate_left
    · intro w' hw'
      have hcells := HC11.out w' hw'
      go_simp
      (try with_reducible rfl)
    simp only [Act.put, List.getElem_toArray, List.getElem_cons_succ, List.getElem_cons_zero, List.setIfInBounds_toArray, List.set_cons_zero, List.set_cons_succ]
    refine wpAnyH_take (i := 3) (oi := _) (v := ?_) rfl (by kernel_rfl) (by kernel_rfl) (by kernel_rfl) (fun _ _ _ h => h) (Or.inl ⟨by rfl, ?_⟩) hS ?_
    rotate_left
    · intro w' hw'
      have hcells := HC11.out w' hw'
      go_simp
      (try with_reducible rfl)
    simp only [Act.put, List.getElem_toArray, List.getElem_cons_succ, List.getElem_cons_zero, List.setIfInBounds_toArray, List.set_cons_zero, List.set_cons_succ]
    refine wpAnyH_take (i := 4) (oi := _) (v := ?_) rfl (by kernel_rfl) (by kernel_rfl) (by kernel_rfl) (fun _ _ _ h => h) (Or.inl ⟨by rfl, ?_⟩) hS ?_
    rotate_left
    · intro w' hw'
      have hcells := HC11.out w' hw'
      go_simp
      (try with_reducible rfl)
    simp only [Act.put, List.getElem_toArray, List.getElem_cons_succ, List.getElem_cons_zero, List.setIfInBounds_toArray, List.set_cons_zero, List.set_cons_succ]
    refine wpAnyH_take (i := 5) (oi := _) (v := ?_) rfl (by kernel_rfl) (by kernel_rfl) (by kernel_rfl) (fun _ _ _ h => h) (Or.inl ⟨by rfl, ?_⟩) hS ?_
    rotate_left
    · intro w' hw'
      have hcells := HC11.out w' hw'
      go_simp
      (try with_reducible rfl)
    simp only [Act.put, List.getElem_toArray, List.getElem_cons_succ, List.getElem_cons_zero, List.setIfInBounds_toArray, List.set_cons_zero, List.set_cons_succ]
    refine wpAnyH_take (i := 6) (oi := _) (v := ?_) rfl (by kernel_rfl) (by kernel_rfl) (by kernel_rfl) (fun _ _ _ h => h) (Or.inl ⟨by rfl, ?_⟩) hS ?_
    rotate_left
    · intro w' hw'
      have hcells := HC11.out w' hw'
      go_simp
      (try with_reducible rfl)
    simp only [Act.put, List.getElem_toArray, List.getElem_cons_succ, List.getElem_cons_zero, List.setIfInBounds_toArray, List.set_cons_zero, List.set_cons_succ]
    refine wpAnyH_take (i := 7) (oi := _) (v := ?_) rfl (by kernel_rfl) (by kernel_rfl) (by kernel_rfl) (fun _ _ _ h => h) (Or.inl ⟨by rfl, ?_⟩) hS ?_
    rotate_left
    · intro w' hw'
      have hcells := HC11.out w' hw'
      go_simp
      (try with_reducible rfl)
    simp only [Act.put, List.getElem_toArray, List.getElem_cons_succ, List.getElem_cons_zero, List.setIfInBounds_toArray, List.set_cons_zero, List.set_cons_succ]
    refine wpAnyH_take (i := 8) (oi := _) (v := ?_) rfl (by kernel_rfl) (by kernel_rfl) (by kernel_rfl) (fun _ _ _ h => h) (Or.inl ⟨by rfl, ?_⟩) hS ?_
    rotate_left
    · intro w' hw'
      have hcells := HC11.out w' hw'
      go_simp
      (try with_reducible rfl)
    simp only [Act.put, List.getElem_toArray, List.getElem_cons_succ, List.getElem_cons_zero, List.setIfInBounds_toArray, List.set_cons_zero, List.set_cons_succ]
    refine wpAnyH_done (by kernel_rfl) ?_ _
    (try dsimp only)
    have HBD := hid hS
    clear hS
    obtain ⟨wx, hwx⟩ : ∃ u, u = wb.drew := ⟨_, rfl⟩
    rw [← hwx] at HBD ⊢
    clear hwx
    go_upto_if 59 with (fail)
    go_cut [7] (fun jv w' => jv = .int .i64 (j2 : Nat) ∧ w' = wx)
    case first =>
      by_cases hl : x.n < yj.n
      · have hj2 : (j2 : Int) = (k : Int) := by rw [HJE.out, oldI_less (HJC.out.1 hl)]
        go_wp2
        go_meet
        exact ⟨by rw [hj2], rfl⟩
      · have hj2 : (j2 : Int) = (j : Int) := by rw [HJE.out, oldI_keep (fun h => hl (HJC.out.2 h)), ← HTR.out.hj]
        go_wp2
        go_meet
        exact ⟨by rw [hj2], rfl⟩
    case rest =>
    obtain ⟨rfl, rfl⟩ := hcut
    obtain ⟨wx, hwx⟩ : ∃ u, u = wc := ⟨_, rfl⟩
    rw [← hwx] at HBD ⊢
    clear hwx
    have HQX := hid (HQB.out.trans (HBD.out.mono HQB.out.size))
    have HUX := hid (HUQ.out.trans (HQX.out.mono HUQ.out.size))
    have HXX := hid (heapExt HBD.out HXB.out)
    have HBXX := hid (Below.refl wx.heap.size wx)
    have HJ2 := hid (show j2 = oldI d.l (k + 1) from HJE.out)
    have x7 := cellOf HXX.out 7
    (try dsimp only at x7)
    by_cases hc1 : 0 < x.t
    · by_cases hc2 : x.t ≤ now
      · have HHC := hid (show hasCome now (d.l[k]'HKL.out) = true by rw [HDX.out, hasCome, ← HXT.out, decide_eq_true hc1, decide_eq_true hc2]; rfl)
        rcases HWANT.out.sh with ⟨hm0, hv0⟩ | ⟨g, cap, hv0, hm1⟩
        · subst hm0; subst hv0
          have HLZ := hid (show wantL now d.l k = [] from List.eq_nil_of_length_eq_zero (by rw [wantL_len]; exact HTR.out.hm.symm))
          go_wp2
          go_loopw [10] (fun pv wr2 => pv = .int .i64 0 ∧ Below wx.heap.size wx wr2) (fun _ _ => 0)
          case atStart => exact ⟨rfl, HBXX.out⟩
          case round =>
          obtain ⟨rfl, hbs⟩ := hrel
          obtain ⟨ws, hws⟩ : ∃ u, u = wr := ⟨_, rfl⟩
          rw [← hws] at hbs ⊢
          clear hws
          have HUS := hid (HUX.out.trans (hbs.mono HUX.out.size))
          have HXS := hid (heapExt hbs HXX.out)
          clear hbs
          go_upto_region 15 with (fail)
          refine wp_region_split 13 (fun w' => Below ws.heap.size ws w') (by kernel_rfl) (by kernel_rfl) (by kernel_rfl) (by decide) ((Below.refl _ _).drew) (fun hS => ?_)
          simp only [List.take_succ_cons, List.take_zero, List.drop_succ_cons, List.drop_zero]
          refine wpAnyH_take (i := 0) (oi := _) (v := ?_) rfl (by kernel_rfl) (by kernel_rfl) (by kernel_rfl) (fun _ _ _ h => h) (Or.inl ⟨by rfl, ?_⟩) hS ?_
          rotate_left
          · intro w' hw'
            (try dsimp only at hw')
            go_simp
            (try with_reducible rfl)
          simp only [Act.put, List.getElem_toArray, List.getElem_cons_succ, List.getElem_cons_zero, List.setIfInBounds_toArray, List.set_cons_zero, List.set_cons_succ]
          refine wpAnyH_take (i := 1) (oi := _) (v := ?_) rfl (by kernel_rfl) (by kernel_rfl) (by kernel_rfl) (fun _ _ _ h => h) (Or.inl ⟨by rfl, ?_⟩) hS ?_
          rotate_left
          · intro w' hw'
            (try dsimp only at hw')
            go_simp
            (try with_reducible rfl)
          simp only [Act.put, List.getElem_toArray, List.getElem_cons_succ, List.getElem_cons_zero, List.setIfInBounds_toArray, List.set_cons_zero, List.set_cons_succ]
          refine wpAnyH_take (i := 2) (oi := _) (v := ?_) rfl (by kernel_rfl) (by kernel_rfl) (by kernel_rfl) (fun _ _ _ h => h) (Or.inl ⟨by rfl, ?_⟩) hS ?_
          rotate_left
          · intro w' hw'
            (try dsimp only at hw')
            go_simp
            (try with_reducible rfl)
          simp only [Act.put, List.getElem_toArray, List.getElem_cons_succ, List.getElem_cons_zero, List.setIfInBounds_toArray, List.set_cons_zero, List.set_cons_succ]
          refine wpAnyH_take (i := 3) (oi := _) (v := undef) rfl (by kernel_rfl) (by kernel_rfl) (by kernel_rfl) (fun _ _ _ h => h) (Or.inr ⟨by rfl, rfl⟩) hS ?_
          simp only [Act.put, List.getElem_toArray, List.getElem_cons_succ, List.getElem_cons_zero, List.setIfInBounds_toArray, List.set_cons_zero, List.set_cons_succ]
          refine wpAnyH_take (i := 4) (oi := _) (v := undef) rfl (by kernel_rfl) (by kernel_rfl) (by kernel_rfl) (fun _ _ _ h => h) (Or.inr ⟨by rfl, rfl⟩) hS ?_
          simp only [Act.put, List.getElem_toArray, List.getElem_cons_succ, List.getElem_cons_zero, List.setIfInBounds_toArray, List.set_cons_zero, List.set_cons_succ]
          refine wpAnyH_take (i := 5) (oi := _) (v := undef) rfl (by kernel_rfl) (by kernel_rfl) (by kernel_rfl) (fun _ _ _ h => h) (Or.inr ⟨by rfl, rfl⟩) hS ?_
          simp only [Act.put, List.getElem_toArray, List.getElem_cons_succ, List.getElem_cons_zero, List.setIfInBounds_toArray, List.set_cons_zero, List.set_cons_succ]
          refine wpAnyH_take (i := 6) (oi := _) (v := undef) rfl (by kernel_rfl) (by kernel_rfl) (by kernel_rfl) (fun _ _ _ h => h) (Or.inr ⟨by rfl, rfl⟩) hS ?_
          simp only [Act.put, List.getElem_toArray, List.getElem_cons_succ, List.getElem_cons_zero, List.setIfInBounds_toArray, List.set_cons_zero, List.set_cons_succ]
          refine wpAnyH_take (i := 7) (oi := _) (v := undef) rfl (by kernel_rfl) (by kernel_rfl) (by kernel_rfl) (fun _ _ _ h => h) (Or.inr ⟨by rfl, rfl⟩) hS ?_
          simp only [Act.put, List.getElem_toArray, List.getElem_cons_succ, List.getElem_cons_zero, List.setIfInBounds_toArray, List.set_cons_zero, List.set_cons_succ]
          refine wpAnyH_take (i := 8) (oi := _) (v := undef) rfl (by kernel_rfl) (by kernel_rfl) (by kernel_rfl) (fun _ _ _ h => h) (Or.inr ⟨by rfl, rfl⟩) hS ?_
          simp only [Act.put, List.getElem_toArray, List.getElem_cons_succ, List.getElem_cons_zero, List.setIfInBounds_toArray, List.set_cons_zero, List.set_cons_succ]
          refine wpAnyH_take (i := 9) (oi := _) (v := undef) rfl (by kernel_rfl) (by kernel_rfl) (by kernel_rfl) (fun _ _ _ h => h) (Or.inr ⟨by rfl, rfl⟩) hS ?_
          simp only [Act.put, List.getElem_toArray, List.getElem_cons_succ, List.getElem_cons_zero, List.setIfInBounds_toArray, List.set_cons_zero, List.set_cons_succ]
          refine wpAnyH_take (i := 10) (oi := _) (v := undef) rfl (by kernel_rfl) (by kernel_rfl) (by kernel_rfl) (fun _ _ _ h => h) (Or.inr ⟨by rfl, rfl⟩) hS ?_
          simp only [Act.put, List.getElem_toArray, List.getElem_cons_succ, List.getElem_cons_zero, List.setIfInBounds_toArray, List.set_cons_zero, List.set_cons_succ]
          refine wpAnyH_take (i := 11) (oi := _) (v := undef) rfl (by kernel_rfl) (by kernel_rfl) (by kernel_rfl) (fun _ _ _ h => h) (Or.inr ⟨by rfl, rfl⟩) hS ?_
          simp only [Act.put, List.getElem_toArray, List.getElem_cons_succ, List.getElem_cons_zero, List.setIfInBounds_toArray, List.set_cons_zero, List.set_cons_succ]
          refine wpAnyH_take (i := 12) (oi := _) (v := ?_) rfl (by kernel_rfl) (by kernel_rfl) (by kernel_rfl) (fun _ _ _ h => h) (Or.inl ⟨by rfl, ?_⟩) hS ?_
          rotate_left
          · intro w' hw'
            (try dsimp only at hw')
            go_simp
            (try with_reducible rfl)
          simp only [Act.put, List.getElem_toArray, List.getElem_cons_succ, List.getElem_cons_zero, List.setIfInBounds_toArray, List.set_cons_zero, List.set_cons_succ]
          refine wpAnyH_done (by kernel_rfl) ?_ _
          (try dsimp only)
          have HBS0 := hid hS
          clear hS
          have HBS := HBS0
          obtain ⟨wz, hwz⟩ : ∃ u, u = ws.drew := ⟨_, rfl⟩
          rw [← hwz] at HBS ⊢
          clear hwz
          have HUZ := hid (HUS.out.trans (HBS.out.mono HUS.out.size))
          have HZ3 := hid (show w3.heap.size ≤ wz.heap.size from HUZ.out.size)
          have HWZ := hid (show w.heap.size ≤ wz.heap.size from Nat.le_trans HW3.out HZ3.out)
          have HX0 := hid (heapExt HBS.out HXS.out)
          have HXD : Hid (∀ w', Below wz.heap.size wz w' → IsSl (· < w.heap.size) w' x dx) := hid fun w' h => by
            have h1 := HU3.out _ (HUZ.out.trans (h.mono HZ3.out))
            exact HXI.out.same fun b q => ⟨q, h1.block b q⟩
          have HC17 : Hid (∀ (w' : World), w'.heap[nX]? = some (.cells #[.int .i64 x.k.k, .int .i64 x.k.i, .int .i64 x.k.s, .string x.k.t, .slice x.k.la x.k.ll x.k.lc, .slice x.k.fa x.k.fl x.k.fc, .int .i64 x.n, .int .i64 x.t, .slice x.ia x.il x.ic, .slice x.va x.vl x.vc] 58) → w'.cell? ⟨nX, 0, none⟩ = some (.int .i64 x.k.k) ∧ w'.cell? ⟨nX, 1, none⟩ = some (.int .i64 x.k.i) ∧ w'.cell? ⟨nX, 2, none⟩ = some (.int .i64 x.k.s) ∧ w'.cell? ⟨nX, 3, none⟩ = some (.string x.k.t) ∧ w'.cell? ⟨nX, 4, none⟩ = some (.slice x.k.la x.k.ll x.k.lc) ∧ w'.cell? ⟨nX, 5, none⟩ = some (.slice x.k.fa x.k.fl x.k.fc) ∧ w'.cell? ⟨nX, 6, none⟩ = some (.int .i64 x.n) ∧ w'.cell? ⟨nX, 7, none⟩ = some (.int .i64 x.t) ∧ w'.cell? ⟨nX, 8, none⟩ = some (.slice x.ia x.il x.ic) ∧ w'.cell? ⟨nX, 9, none⟩ = some (.slice x.va x.vl x.vc)) := hid fun w' h => ⟨cellOf h 0, cellOf h 1, cellOf h 2, cellOf h 3, cellOf h 4, cellOf h 5, cellOf h 6, cellOf h 7, cellOf h 8, cellOf h 9⟩
          go_upto_region 17 with (fail)
          refine wp_region_split 11 (fun w' => w'.heap[nX]? = some (.cells #[.int .i64 x.k.k, .int .i64 x.k.i, .int .i64 x.k.s, .string x.k.t, .slice x.k.la x.k.ll x.k.lc, .slice x.k.fa x.k.fl x.k.fc, .int .i64 x.n, .int .i64 x.t, .slice x.ia x.il x.ic, .slice x.va x.vl x.vc] 58)) (by kernel_rfl) (by kernel_rfl) (by kernel_rfl) (by decide) (HX0.out) (fun hS => ?_)
          simp only [List.take_succ_cons, List.take_zero, List.drop_succ_cons, List.drop_zero]
          refine wpAnyH_take (i := 0) (oi := _) (v := ?_) rfl (by kernel_rfl) (by kernel_rfl) (by kernel_rfl) (fun _ _ _ h => h) (Or.inl ⟨by rfl, ?_⟩) hS ?_
          rotate_left
          · intro w' hw'
            have hcells := HC17.out w' hw'
            go_simp
            (try with_reducible rfl)
          simp only [Act.put, List.getElem_toArray, List.getElem_cons_succ, List.getElem_cons_zero, List.setIfInBounds_toArray, List.set_cons_zero, List.set_cons_succ]
          refine wpAnyH_take (i := 1) (oi := _) (v := ?_) rfl (by kernel_rfl) (by kernel_rfl) (by kernel_rfl) (fun _ _ _ h => h) (Or.inl ⟨by rfl, ?_⟩) hS ?_
          rotate_left
          · intro w' hw'
            have hcells := HC17.out w' hw'
            go_simp
            (try with_reducible rfl)
          simp only [Act.put, List.getElem_toArray, List.getElem_cons_succ, List.getElem_cons_zero, List.setIfInBounds_toArray, List.set_cons_zero, List.set_cons_succ]
          refine wpAnyH_take (i := 2) (oi := _) (v := ?_) rfl (by kernel_rfl) (by kernel_rfl) (by kernel_rfl) (fun _ _ _ h => h) (Or.inl ⟨by rfl, ?_⟩) hS ?_
          rotate_left
          · intro w' hw'
            have hcells := HC17.out w' hw'
            go_simp
            (try with_reducible rfl)
          simp only [Act.put, List.getElem_toArray, List.getElem_cons_succ, List.getElem_cons_zero, List.setIfInBounds_toArray, List.set_cons_zero, List.set_cons_succ]
          refine wpAnyH_take (i := 3) (oi := _) (v := ?_) rfl (by kernel_rfl) (by kernel_rfl) (by kernel_rfl) (fun _ _ _ h => h) (Or.inl ⟨by rfl, ?_⟩) hS ?_
          rotate_left
          · intro w' hw'
            have hcells := HC17.out w' hw'
            go_simp
            (try with_reducible rfl)
          simp only [Act.put, List.getElem_toArray, List.getElem_cons_succ, List.getElem_cons_zero, List.setIfInBounds_toArray, List.set_cons_zero, List.set_cons_succ]
          refine wpAnyH_take (i := 5) (oi := _) (v := ?_) rfl (by kernel_rfl) (by kernel_rfl) (by kernel_rfl) (fun _ _ _ h => h) (Or.inl ⟨by rfl, ?_⟩) hS ?_
          rotate_left
          · intro w' hw'
            have hcells := HC17.out w' hw'
            go_simp
            (try with_reducible rfl)
          simp only [Act.put, List.getElem_toArray, List.getElem_cons_succ, List.getElem_cons_zero, List.setIfInBounds_toArray, List.set_cons_zero, List.set_cons_succ]
          refine wpAnyH_take (i := 6) (oi := _) (v := ?_) rfl (by kernel_rfl) (by kernel_rfl) (by kernel_rfl) (fun _ _ _ h => h) (Or.inl ⟨by rfl, ?_⟩) hS ?_
          rotate_left
          · intro w' hw'
            have hcells := HC17.out w' hw'
            go_simp
            (try with_reducible rfl)
          simp only [Act.put, List.getElem_toArray, List.getElem_cons_succ, List.getElem_cons_zero, List.setIfInBounds_toArray, List.set_cons_zero, List.set_cons_succ]
          refine wpAnyH_take (i := 7) (oi := _) (v := ?_) rfl (by kernel_rfl) (by kernel_rfl) (by kernel_rfl) (fun _ _ _ h => h) (Or.inl ⟨by rfl, ?_⟩) hS ?_
          rotate_left
          · intro w' hw'
            have hcells := HC17.out w' hw'
            go_simp
            (try with_reducible rfl)
          simp only [Act.put, List.getElem_toArray, List.getElem_cons_succ, List.getElem_cons_zero, List.setIfInBounds_toArray, List.set_cons_zero, List.set_cons_succ]
          refine wpAnyH_ready (rs := [4]) (by kernel_rfl) (by simp) ?_
          refine AllReadyH.cons (o := _) rfl (fun K hK => ?_) AllReadyH.nil
          go_simp
          obtain ⟨wE, hwE⟩ : ∃ u, u = (wz.alloc (.cells #[.int .i64 x.k.k, .int .i64 x.k.i, .int .i64 x.k.s, .string x.k.t, .slice x.k.la x.k.ll x.k.lc, .slice x.k.fa x.k.fl x.k.fc, .int .i64 x.n, .int .i64 x.t, .slice x.ia x.il x.ic, .slice x.va x.vl x.vc] 58)).drew := ⟨_, rfl⟩
          rw [← hwE]
          have HBE := hid (show Below wz.heap.size wz wE by rw [hwE]; exact ((Below.refl _ _).alloc (Nat.le_refl _) _).drew)
          have HSE := hid (show wE.heap.size = wz.heap.size + 1 by rw [hwE]; simp)
          have HKE := hid (show Kept slK 58 w.heap.size wE (.slice (some ⟨wz.heap.size, 0, none⟩) 1 1) 1 [dx] by
            rw [hwE]
            exact (keptOne (K := slK) (T := 58) (c := x) HWZ.out (HXD.out _ (Below.refl _ _))).ext (by have := HWZ.out; simp only [World.size_alloc]; omega) ((Below.refl _ _).drew))
          have hkx : wE.heap[nX]? = some (.cells #[.int .i64 x.k.k, .int .i64 x.k.i, .int .i64 x.k.s, .string x.k.t, .slice x.k.la x.k.ll x.k.lc, .slice x.k.fa x.k.fl x.k.fc, .int .i64 x.n, .int .i64 x.t, .slice x.ia x.il x.ic, .slice x.va x.vl x.vc] 58) := heapExt HBE.out HX0.out
          clear hwE
          refine hK.out _ _ (hkx) (fun hS => ?_)
          clear hK K
          (try simp only [Act.put, List.getElem_toArray, List.getElem_cons_succ, List.getElem_cons_zero, List.setIfInBounds_toArray, List.set_cons_zero, List.set_cons_succ])
          refine wpAnyH_ready (rs := [8]) (by kernel_rfl) (by simp) ?_
          refine AllReadyH.cons (o := _) rfl (fun K hK => ?_) AllReadyH.nil
          obtain ⟨capE, w8, hr8, hk8, hg8, hat8⟩ : ∃ (cap' : Nat) (w' : World), (Builtin.append_ #[53, 53] 53 #[.slice (some ⟨wz.heap.size, 0, none⟩) 1 1, .slice none 0 0]).run Tryz.prog wE = .ok (.slice (some ⟨wz.heap.size, 0, none⟩) 1 cap') w' ∧ Kept slK 58 w.heap.size w' (.slice (some ⟨wz.heap.size, 0, none⟩) 1 cap') 1 [dx] ∧ wE.grownBy w' (some wz.heap.size) ∧ ∀ r, (Value.slice (some ⟨wz.heap.size, 0, none⟩) 1 cap').ownBlock = some r → r = wz.heap.size :=
            ⟨1, wE, run_append_nothing (P := Tryz.prog) wE _ _ _ _ ti Tryz.underlying53 hi _ 1 1 (Nat.le_refl 1) _ (src00 Tryz.underlying53 _ _), HKE.out, ⟨rfl, rfl, rfl, Nat.le_refl _, fun _ _ _ => rfl⟩, fun r e => by injection e with e; exact e.symm⟩
          refine step_append_run (by rfl) _ _ _ (by rfl) _ _ _ _ (by rfl) (by rfl) hr8 ?_
          clear hr8
          have HB8 := hid (show Below wz.heap.size wz w8 from HBE.out.trans (grown_below hg8 (fun r e => by have e' : wz.heap.size = r := Option.some.inj e; omega) HBE.out.size))
          have hkx8 : w8.heap[nX]? = some (.cells #[.int .i64 x.k.k, .int .i64 x.k.i, .int .i64 x.k.s, .string x.k.t, .slice x.k.la x.k.ll x.k.lc, .slice x.k.fa x.k.fl x.k.fc, .int .i64 x.n, .int .i64 x.t, .slice x.ia x.il x.ic, .slice x.va x.vl x.vc] 58) := (hg8.block nX (ltOf hkx) (fun e => by have e' : nX = wz.heap.size := Option.some.inj e; have := ltOf HX0.out; omega)).trans hkx
          have HK8 := hid hk8
          have HG8 := hid hg8
          have HAT8 := hid hat8
          clear hk8 hg8 hat8 hkx
          refine hK.out _ _ (hkx8) (fun hS => ?_)
          clear hK K
          (try simp only [Act.put, List.getElem_toArray, List.getElem_cons_succ, List.getElem_cons_zero, List.setIfInBounds_toArray, List.set_cons_zero, List.set_cons_succ])
          refine wpAnyH_ready (rs := [9]) (by kernel_rfl) (by simp) ?_
          refine AllReadyH.cons (o := _) rfl (fun K hK => ?_) AllReadyH.nil
          obtain ⟨cs8, hcl8, hel8⟩ := keptCl HK8.out
          obtain ⟨a9, cap9, w9, hr9, hk9, hg9, hat9⟩ := run_append_kept (K := slK) (P := Tryz.prog) (w := w8) (ty := 53) Tryz.underlying53 hi hz0 (by rw [hz1]) (by rw [hz2]; omega) rfl one_sl (Kept.nil (K := slK) 58 w.heap.size w8) capE hcl8 (l2 := [dx]) (keptLen HK8.out) hel8 (Nat.le_trans HWZ.out HB8.out.size) (by omega)
          rw [Nat.zero_add] at hr9 hk9 hat9
          refine step_append_run (by rfl) _ _ _ (by rfl) (.slice none 0 0) (.slice (some ⟨wz.heap.size, 0, none⟩) 1 capE) _ _ (by rfl) (by rfl) hr9 ?_
          clear hr9 hcl8 hel8
          have hkx9 : w9.heap[nX]? = some (.cells #[.int .i64 x.k.k, .int .i64 x.k.i, .int .i64 x.k.s, .string x.k.t, .slice x.k.la x.k.ll x.k.lc, .slice x.k.fa x.k.fl x.k.fc, .int .i64 x.n, .int .i64 x.t, .slice x.ia x.il x.ic, .slice x.va x.vl x.vc] 58) := (hg9.block nX (ltOf hkx8) (fun e => by cases e)).trans hkx8
          have HOW9 := hid (show ∀ r, (Value.slice a9 1 cap9).ownBlock = some r → w3.heap.size ≤ r from fun r e => (hat9 r e).elim (fun e => by cases e) (fun e => by rw [e]; exact Nat.le_trans HZ3.out HB8.out.size))
          have HB9 := hid (show Below w3.heap.size w3 w9 from (HUZ.out.trans (HB8.out.mono HZ3.out)).trans (grown_below hg9 (fun r e => by cases e) (Nat.le_trans HZ3.out HB8.out.size)))
          have HK9 := hid hk9
          clear hk9 hg9 hat9 hkx8
          refine hK.out _ _ (hkx9) (fun hS => ?_)
          clear hK K
          (try simp only [Act.put, List.getElem_toArray, List.getElem_cons_succ, List.getElem_cons_zero, List.setIfInBounds_toArray, List.set_cons_zero, List.set_cons_succ])
          refine wpAnyH_take (i := 10) (oi := _) (v := ?_) rfl (by kernel_rfl) (by kernel_rfl) (by kernel_rfl) (fun _ _ _ h => h) (Or.inl ⟨by rfl, ?_⟩) hS ?_
          rotate_left
          · intro w' hw'
            have hcells := HC17.out w' hw'
            go_simp
            (try with_reducible rfl)
          simp only [Act.put, List.getElem_toArray, List.getElem_cons_succ, List.getElem_cons_zero, List.setIfInBounds_toArray, List.set_cons_zero, List.set_cons_succ]
          refine wpAnyH_done (by kernel_rfl) ?_ _
          (try dsimp only)
          clear hS
          go_wp2
          go_roundw
          case rel =>
            obtain ⟨g9, hg9⟩ := keptSome HK9.out (by omega)
            have hlist : [] ++ [dx] = wantL now d.l (k + 1) := by
              rw [wantL_come HKL.out HHC.out, HDX.out, insL_of (j := 0) (by rw [HLZ.out]; rfl)]
              rw [HLZ.out]; rfl
            have hk9 := HK9.out
            rw [hlist] at hk9
            have hm9 : 1 = (expL now (d.l.take (k + 1))).length := (keptLen hk9).symm.trans (wantL_len _ _ _)
            exact ⟨k + 1, 1, _, z2, j2, rfl, rfl, rfl, by go_num, by omega, ⟨HZ2.out, HZP.out, HJ2.out, hm9⟩, HB9.out, ⟨.inr ⟨g9, cap9, by rw [hg9], by omega⟩, hk9, HOW9.out⟩⟩
          case measure => simp [intOf]; omega
        · subst hv0
          have HWL := hid (show (wantL now d.l k).length = m by rw [wantL_len]; exact HTR.out.hm.symm)
          have HKX := hid (HWANT.out.kept.ext (Nat.le_trans HW3.out HUQ.out.size) HQX.out)
          have HCM := hid (show 1 ≤ m ∧ m ≤ cap from ⟨hm1, by obtain ⟨a', c', e, h⟩ := HWANT.out.kept.shape; injection e with e1 e2 e3; omega⟩)
          have HGX := hid (show g < nX by rw [HNX.out]; exact (HWANT.out.kept.own g rfl).2)
          have HGW := hid (show w3.heap.size ≤ g from HWANT.out.own g rfl)
          have hm20 : m ≤ 10 := by have h := HTR.out.hm; have h2 := List.length_filter_le (hasCome now) (d.l.take k); have h3 := List.length_take_le k d.l; unfold expL at h; omega
          have hmc0 : ¬ cap = 0 := by have := HCM.out; omega
          go_wp2
          go_loopw [10] (fun pv wr2 => ∃ p : Nat, p ≤ m ∧ pv = .int .i64 p ∧ Below wx.heap.size wx wr2 ∧ scanP ltDS dx (wantL now d.l k) (wantL now d.l k).length = scanP ltDS dx (wantL now d.l k) p) (fun pv _ => (intOf pv).toNat)
          case atStart => exact ⟨m, Nat.le_refl _, rfl, HBXX.out, by rw [HWL.out]⟩
          case round =>
          obtain ⟨p, hpm, rfl, hbs, hsc⟩ := hrel
          obtain ⟨ws, hws⟩ : ∃ u, u = wr := ⟨_, rfl⟩
          rw [← hws] at hbs ⊢
          clear hws
          have HUS := hid (HUX.out.trans (hbs.mono HUX.out.size))
          have HXS := hid (heapExt hbs HXX.out)
          have HKS := hid (HKX.out.ext (Nat.le_trans HW3.out HUX.out.size) hbs)
          have HPM := hid hpm
          have HSC0 := hid hsc
          have HBSX := hid hbs
          obtain ⟨cs0w, hc0w, he0w⟩ := keptCl HKS.out
          have HCS0 := hid hc0w
          have HES0 := hid he0w
          have hpc : (p : Int) ≤ (cap : Int) := by have := HCM.out; omega
          have hp00 : (0 : Int) ≤ (p : Int) := by omega
          clear hbs hsc hc0w he0w
          by_cases hp0 : p = 0
          · have HSC := hid (show scanP ltDS dx (wantL now d.l k) (wantL now d.l k).length = 0 by rw [HSC0.out, hp0]; rfl)
            subst hp0
            have hcap0 : ¬ cap = 0 := by have := HCM.out; omega
            go_upto_region 15 with (fail)
            refine wp_region_split 13 (fun w' => Below ws.heap.size ws w') (by kernel_rfl) (by kernel_rfl) (by kernel_rfl) (by decide) ((Below.refl _ _).drew) (fun hS => ?_)
            simp only [List.take_succ_cons, List.take_zero, List.drop_succ_cons, List.drop_zero]
            refine wpAnyH_take (i := 0) (oi := _) (v := ?_) rfl (by kernel_rfl) (by kernel_rfl) (by kernel_rfl) (fun _ _ _ h => h) (Or.inl ⟨by rfl, ?_⟩) hS ?_
            rotate_left
            · intro w' hw'
              (try dsimp only at hw')
              go_simp
              (try with_reducible rfl)
            simp only [Act.put, List.getElem_toArray, List.getElem_cons_succ, List.getElem_cons_zero, List.setIfInBounds_toArray, List.set_cons_zero, List.set_cons_succ]
            refine wpAnyH_take (i := 1) (oi := _) (v := ?_) rfl (by kernel_rfl) (by kernel_rfl) (by kernel_rfl) (fun _ _ _ h => h) (Or.inl ⟨by rfl, ?_⟩) hS ?_
            rotate_left
            · intro w' hw'
              (try dsimp only at hw')
              go_simp
              (try with_reducible rfl)
            simp only [Act.put, List.getElem_toArray, List.getElem_cons_succ, List.getElem_cons_zero, List.setIfInBounds_toArray, List.set_cons_zero, List.set_cons_succ]
            refine wpAnyH_take (i := 2) (oi := _) (v := ?_) rfl (by kernel_rfl) (by kernel_rfl) (by kernel_rfl) (fun _ _ _ h => h) (Or.inl ⟨by rfl, ?_⟩) hS ?_
            rotate_left
            · intro w' hw'
              (try dsimp only at hw')
              go_simp
              (try with_reducible rfl)
            simp only [Act.put, List.getElem_toArray, List.getElem_cons_succ, List.getElem_cons_zero, List.setIfInBounds_toArray, List.set_cons_zero, List.set_cons_succ]
            refine wpAnyH_take (i := 3) (oi := _) (v := undef) rfl (by kernel_rfl) (by kernel_rfl) (by kernel_rfl) (fun _ _ _ h => h) (Or.inr ⟨by rfl, rfl⟩) hS ?_
            simp only [Act.put, List.getElem_toArray, List.getElem_cons_succ, List.getElem_cons_zero, List.setIfInBounds_toArray, List.set_cons_zero, List.set_cons_succ]
            refine wpAnyH_take (i := 4) (oi := _) (v := undef) rfl (by kernel_rfl) (by kernel_rfl) (by kernel_rfl) (fun _ _ _ h => h) (Or.inr ⟨by rfl, rfl⟩) hS ?_
            simp only [Act.put, List.getElem_toArray, List.getElem_cons_succ, List.getElem_cons_zero, List.setIfInBounds_toArray, List.set_cons_zero, List.set_cons_succ]
            refine wpAnyH_take (i := 5) (oi := _) (v := undef) rfl (by kernel_rfl) (by kernel_rfl) (by kernel_rfl) (fun _ _ _ h => h) (Or.inr ⟨by rfl, rfl⟩) hS ?_
            simp only [Act.put, List.getElem_toArray, List.getElem_cons_succ, List.getElem_cons_zero, List.setIfInBounds_toArray, List.set_cons_zero, List.set_cons_succ]
            refine wpAnyH_take (i := 6) (oi := _) (v := undef) rfl (by kernel_rfl) (by kernel_rfl) (by kernel_rfl) (fun _ _ _ h => h) (Or.inr ⟨by rfl, rfl⟩) hS ?_
            simp only [Act.put, List.getElem_toArray, List.getElem_cons_succ, List.getElem_cons_zero, List.setIfInBounds_toArray, List.set_cons_zero, List.set_cons_succ]
            refine wpAnyH_take (i := 7) (oi := _) (v := undef) rfl (by kernel_rfl) (by kernel_rfl) (by kernel_rfl) (fun _ _ _ h => h) (Or.inr ⟨by rfl, rfl⟩) hS ?_
            simp only [Act.put, List.getElem_toArray, List.getElem_cons_succ, List.getElem_cons_zero, List.setIfInBounds_toArray, List.set_cons_zero, List.set_cons_succ]
            refine wpAnyH_take (i := 8) (oi := _) (v := undef) rfl (by kernel_rfl) (by kernel_rfl) (by kernel_rfl) (fun _ _ _ h => h) (Or.inr ⟨by rfl, rfl⟩) hS ?_
            simp only [Act.put, List.getElem_toArray, List.getElem_cons_succ, List.getElem_cons_zero, List.setIfInBounds_toArray, List.set_cons_zero, List.set_cons_succ]
            refine wpAnyH_take (i := 9) (oi := _) (v := undef) rfl (by kernel_rfl) (by kernel_rfl) (by kernel_rfl) (fun _ _ _ h => h) (Or.inr ⟨by rfl, rfl⟩) hS ?_
            simp only [Act.put, List.getElem_toArray, List.getElem_cons_succ, List.getElem_cons_zero, List.setIfInBounds_toArray, List.set_cons_zero, List.set_cons_succ]
            refine wpAnyH_take (i := 10) (oi := _) (v := undef) rfl (by kernel_rfl) (by kernel_rfl) (by kernel_rfl) (fun _ _ _ h => h) (Or.inr ⟨by rfl, rfl⟩) hS ?_
            simp only [Act.put, List.getElem_toArray, List.getElem_cons_succ, List.getElem_cons_zero, List.setIfInBounds_toArray, List.set_cons_zero, List.set_cons_succ]
            refine wpAnyH_take (i := 11) (oi := _) (v := undef) rfl (by kernel_rfl) (by kernel_rfl) (by kernel_rfl) (fun _ _ _ h => h) (Or.inr ⟨by rfl, rfl⟩) hS ?_
            simp only [Act.put, List.getElem_toArray, List.getElem_cons_succ, List.getElem_cons_zero, List.setIfInBounds_toArray, List.set_cons_zero, List.set_cons_succ]
            refine wpAnyH_take (i := 12) (oi := _) (v := ?_) rfl (by kernel_rfl) (by kernel_rfl) (by kernel_rfl) (fun _ _ _ h => h) (Or.inl ⟨by rfl, ?_⟩) hS ?_
            rotate_left
            · intro w' hw'
              (try dsimp only at hw')
              go_simp
              (try with_reducible rfl)
            simp only [Act.put, List.getElem_toArray, List.getElem_cons_succ, List.getElem_cons_zero, List.setIfInBounds_toArray, List.set_cons_zero, List.set_cons_succ]
            refine wpAnyH_done (by kernel_rfl) ?_ _
            (try dsimp only)
            have HBS := hid hS
            clear hS
            obtain ⟨wz, hwz⟩ : ∃ u, u = ws.drew := ⟨_, rfl⟩
            rw [← hwz] at HBS ⊢
            clear hwz
            have HUZ := hid (HUS.out.trans (HBS.out.mono HUS.out.size))
            have HZ3 := hid (show w3.heap.size ≤ wz.heap.size from HUZ.out.size)
            have HWZ := hid (show w.heap.size ≤ wz.heap.size from Nat.le_trans HW3.out HZ3.out)
            have HX0 := hid (heapExt HBS.out HXS.out)
            have HXD : Hid (∀ w', Below wz.heap.size wz w' → IsSl (· < w.heap.size) w' x dx) := hid fun w' h => by
              have h1 := HU3.out _ (HUZ.out.trans (h.mono HZ3.out))
              exact HXI.out.same fun b q => ⟨q, h1.block b q⟩
            have HKV : Hid (∀ w', Below wz.heap.size wz w' → Kept slK 58 w.heap.size w' (.slice (some ⟨g, 0, none⟩) m cap) m (wantL now d.l k)) := hid fun w' h => HKS.out.ext (Nat.le_trans HW3.out (Nat.le_trans HUS.out.size (Nat.le_refl _))) (HBS.out.trans (h.mono HBS.out.size))
            have HCW : Hid (∀ w', Below wz.heap.size wz w' → Cl slK w' (some ⟨g, 0, none⟩) m cs0w ∧ ∀ j (h1 : j < cs0w.length) (h2 : j < (wantL now d.l k).length), IsSl (· < w.heap.size) w' cs0w[j] (wantL now d.l k)[j]) := hid fun w' h => by
              have h1 := HBS.out.trans (h.mono HBS.out.size)
              have h2 := HU3.out _ (HUS.out.trans (h1.mono HUS.out.size))
              exact ⟨HCS0.out.ext h1, fun j a1 a2 => (HES0.out j a1 a2).same fun b q => ⟨q, (h1.block b (Nat.lt_of_lt_of_le q (Nat.le_trans HW3.out HUS.out.size)))⟩⟩
            have HGZ := hid (show g < wz.heap.size from Nat.lt_of_lt_of_le HGX.out (Nat.le_of_lt (ltOf HX0.out)))
            have HCD : Hid (∀ w', Below wz.heap.size wz w' → Cl slK w' (some ⟨g, 0, none⟩) m cs0w ∧ ∀ j (h1 : j < cs0w.length) (h2 : j < (wantL now d.l k).length), IsSl (· < w.heap.size) w' cs0w[j] (wantL now d.l k)[j]) := hid fun w' h => HCW.out w' h
            have HC17 : Hid (∀ (w' : World), w'.heap[nX]? = some (.cells #[.int .i64 x.k.k, .int .i64 x.k.i, .int .i64 x.k.s, .string x.k.t, .slice x.k.la x.k.ll x.k.lc, .slice x.k.fa x.k.fl x.k.fc, .int .i64 x.n, .int .i64 x.t, .slice x.ia x.il x.ic, .slice x.va x.vl x.vc] 58) → w'.cell? ⟨nX, 0, none⟩ = some (.int .i64 x.k.k) ∧ w'.cell? ⟨nX, 1, none⟩ = some (.int .i64 x.k.i) ∧ w'.cell? ⟨nX, 2, none⟩ = some (.int .i64 x.k.s) ∧ w'.cell? ⟨nX, 3, none⟩ = some (.string x.k.t) ∧ w'.cell? ⟨nX, 4, none⟩ = some (.slice x.k.la x.k.ll x.k.lc) ∧ w'.cell? ⟨nX, 5, none⟩ = some (.slice x.k.fa x.k.fl x.k.fc) ∧ w'.cell? ⟨nX, 6, none⟩ = some (.int .i64 x.n) ∧ w'.cell? ⟨nX, 7, none⟩ = some (.int .i64 x.t) ∧ w'.cell? ⟨nX, 8, none⟩ = some (.slice x.ia x.il x.ic) ∧ w'.cell? ⟨nX, 9, none⟩ = some (.slice x.va x.vl x.vc)) := hid fun w' h => ⟨cellOf h 0, cellOf h 1, cellOf h 2, cellOf h 3, cellOf h 4, cellOf h 5, cellOf h 6, cellOf h 7, cellOf h 8, cellOf h 9⟩
            go_upto_region 17 with (fail)
            refine wp_region_split 11 (fun w' => w'.heap[nX]? = some (.cells #[.int .i64 x.k.k, .int .i64 x.k.i, .int .i64 x.k.s, .string x.k.t, .slice x.k.la x.k.ll x.k.lc, .slice x.k.fa x.k.fl x.k.fc, .int .i64 x.n, .int .i64 x.t, .slice x.ia x.il x.ic, .slice x.va x.vl x.vc] 58)) (by kernel_rfl) (by kernel_rfl) (by kernel_rfl) (by decide) (HX0.out) (fun hS => ?_)
            simp only [List.take_succ_cons, List.take_zero, List.drop_succ_cons, List.drop_zero]
            refine wpAnyH_take (i := 0) (oi := _) (v := ?_) rfl (by kernel_rfl) (by kernel_rfl) (by kernel_rfl) (fun _ _ _ h => h) (Or.inl ⟨by rfl, ?_⟩) hS ?_
            rotate_left
            · intro w' hw'
              have hcells := HC17.out w' hw'
              go_simp
              (try with_reducible rfl)
            simp only [Act.put, List.getElem_toArray, List.getElem_cons_succ, List.getElem_cons_zero, List.setIfInBounds_toArray, List.set_cons_zero, List.set_cons_succ]
            refine wpAnyH_take (i := 1) (oi := _) (v := ?_) rfl (by kernel_rfl) (by kernel_rfl) (by kernel_rfl) (fun _ _ _ h => h) (Or.inl ⟨by rfl, ?_⟩) hS ?_
            rotate_left
            · intro w' hw'
              have hcells := HC17.out w' hw'
              go_simp
              (try with_reducible rfl)
            simp only [Act.put, List.getElem_toArray, List.getElem_cons_succ, List.getElem_cons_zero, List.setIfInBounds_toArray, List.set_cons_zero, List.set_cons_succ]
            refine wpAnyH_take (i := 2) (oi := _) (v := ?_) rfl (by kernel_rfl) (by kernel_rfl) (by kernel_rfl) (fun _ _ _ h => h) (Or.inl ⟨by rfl, ?_⟩) hS ?_
            rotate_left
            · intro w' hw'
              have hcells := HC17.out w' hw'
              go_simp
              (try with_reducible rfl)
            simp only [Act.put, List.getElem_toArray, List.getElem_cons_succ, List.getElem_cons_zero, List.setIfInBounds_toArray, List.set_cons_zero, List.set_cons_succ]
            refine wpAnyH_take (i := 3) (oi := _) (v := ?_) rfl (by kernel_rfl) (by kernel_rfl) (by kernel_rfl) (fun _ _ _ h => h) (Or.inl ⟨by rfl, ?_⟩) hS ?_
            rotate_left
            · intro w' hw'
              have hcells := HC17.out w' hw'
              go_simp
              (try with_reducible rfl)
            simp only [Act.put, List.getElem_toArray, List.getElem_cons_succ, List.getElem_cons_zero, List.setIfInBounds_toArray, List.set_cons_zero, List.set_cons_succ]
            refine wpAnyH_take (i := 5) (oi := _) (v := ?_) rfl (by kernel_rfl) (by kernel_rfl) (by kernel_rfl) (fun _ _ _ h => h) (Or.inl ⟨by rfl, ?_⟩) hS ?_
            rotate_left
            · intro w' hw'
              have hcells := HC17.out w' hw'
              go_simp
              (try with_reducible rfl)
            simp only [Act.put, List.getElem_toArray, List.getElem_cons_succ, List.getElem_cons_zero, List.setIfInBounds_toArray, List.set_cons_zero, List.set_cons_succ]
            refine wpAnyH_take (i := 6) (oi := _) (v := ?_) rfl (by kernel_rfl) (by kernel_rfl) (by kernel_rfl) (fun _ _ _ h => h) (Or.inl ⟨by rfl, ?_⟩) hS ?_
            rotate_left
            · intro w' hw'
              have hcells := HC17.out w' hw'
              go_simp
              (try with_reducible rfl)
            simp only [Act.put, List.getElem_toArray, List.getElem_cons_succ, List.getElem_cons_zero, List.setIfInBounds_toArray, List.set_cons_zero, List.set_cons_succ]
            refine wpAnyH_take (i := 7) (oi := _) (v := ?_) rfl (by kernel_rfl) (by kernel_rfl) (by kernel_rfl) (fun _ _ _ h => h) (Or.inl ⟨by rfl, ?_⟩) hS ?_
            rotate_left
            · intro w' hw'
              have hcells := HC17.out w' hw'
              go_simp
              (try with_reducible rfl)
            simp only [Act.put, List.getElem_toArray, List.getElem_cons_succ, List.getElem_cons_zero, List.setIfInBounds_toArray, List.set_cons_zero, List.set_cons_succ]
            refine wpAnyH_ready (rs := [4]) (by kernel_rfl) (by simp) ?_
            refine AllReadyH.cons (o := _) rfl (fun K hK => ?_) AllReadyH.nil
            go_simp
            obtain ⟨wE, hwE⟩ : ∃ u, u = (wz.alloc (.cells #[.int .i64 x.k.k, .int .i64 x.k.i, .int .i64 x.k.s, .string x.k.t, .slice x.k.la x.k.ll x.k.lc, .slice x.k.fa x.k.fl x.k.fc, .int .i64 x.n, .int .i64 x.t, .slice x.ia x.il x.ic, .slice x.va x.vl x.vc] 58)).drew := ⟨_, rfl⟩
            rw [← hwE]
            have HBE := hid (show Below wz.heap.size wz wE by rw [hwE]; exact ((Below.refl _ _).alloc (Nat.le_refl _) _).drew)
            have HSE := hid (show wE.heap.size = wz.heap.size + 1 by rw [hwE]; simp)
            have HKE := hid (show Kept slK 58 w.heap.size wE (.slice (some ⟨wz.heap.size, 0, none⟩) 1 1) 1 [dx] by
              rw [hwE]
              exact (keptOne (K := slK) (T := 58) (c := x) HWZ.out (HXD.out _ (Below.refl _ _))).ext (by have := HWZ.out; simp only [World.size_alloc]; omega) ((Below.refl _ _).drew))
            have hkx : wE.heap[nX]? = some (.cells #[.int .i64 x.k.k, .int .i64 x.k.i, .int .i64 x.k.s, .string x.k.t, .slice x.k.la x.k.ll x.k.lc, .slice x.k.fa x.k.fl x.k.fc, .int .i64 x.n, .int .i64 x.t, .slice x.ia x.il x.ic, .slice x.va x.vl x.vc] 58) := heapExt HBE.out HX0.out
            clear hwE
            refine hK.out _ _ (hkx) (fun hS => ?_)
            clear hK K
            (try simp only [Act.put, List.getElem_toArray, List.getElem_cons_succ, List.getElem_cons_zero, List.setIfInBounds_toArray, List.set_cons_zero, List.set_cons_succ])
            refine wpAnyH_ready (rs := [8]) (by kernel_rfl) (by simp) ?_
            refine AllReadyH.cons (o := _) rfl (fun K hK => ?_) AllReadyH.nil
            obtain ⟨a8, cap8, w8, hr8, hk8, hg8, hat8'⟩ := run_append_kept (K := slK) (P := Tryz.prog) (w := wE) (ty := 53) Tryz.underlying53 hi hz0 (by rw [hz1]) (by rw [hz2]; omega) rfl one_sl HKE.out cap (HCD.out _ HBE.out).1 (l2 := (wantL now d.l k)) (by have := HWL.out; omega) (HCD.out _ HBE.out).2 (Nat.le_trans HWZ.out HBE.out.size) (by omega)
            refine step_append_run (by rfl) _ _ _ (by rfl) _ _ _ _ (by rfl) (by rfl) hr8 ?_
            clear hr8
            have hat8 : ∀ r, (Value.slice a8 (1 + m) cap8).ownBlock = some r → wz.heap.size ≤ r := fun r e => (hat8' r e).elim (fun e => by have e' : wz.heap.size = r := Option.some.inj e; omega) (fun e => by rw [e]; exact HBE.out.size)
            clear hat8'
            have HB8 := hid (show Below wz.heap.size wz w8 from HBE.out.trans (grown_below hg8 (fun r e => by have e' : wz.heap.size = r := Option.some.inj e; omega) HBE.out.size))
            have hkx8 : w8.heap[nX]? = some (.cells #[.int .i64 x.k.k, .int .i64 x.k.i, .int .i64 x.k.s, .string x.k.t, .slice x.k.la x.k.ll x.k.lc, .slice x.k.fa x.k.fl x.k.fc, .int .i64 x.n, .int .i64 x.t, .slice x.ia x.il x.ic, .slice x.va x.vl x.vc] 58) := (hg8.block nX (ltOf hkx) (fun e => by have e' : nX = wz.heap.size := Option.some.inj e; have := ltOf HX0.out; omega)).trans hkx
            have HK8 := hid hk8
            have HG8 := hid hg8
            have HAT8 := hid hat8
            clear hk8 hg8 hat8 hkx
            refine hK.out _ _ (hkx8) (fun hS => ?_)
            clear hK K
            (try simp only [Act.put, List.getElem_toArray, List.getElem_cons_succ, List.getElem_cons_zero, List.setIfInBounds_toArray, List.set_cons_zero, List.set_cons_succ])
            refine wpAnyH_ready (rs := [9]) (by kernel_rfl) (by simp) ?_
            refine AllReadyH.cons (o := _) rfl (fun K hK => ?_) AllReadyH.nil
            obtain ⟨cs8, hcl8, hel8⟩ := keptCl HK8.out
            obtain ⟨a9, cap9, w9, hr9, hk9, hg9, hat9⟩ := run_append_kept (K := slK) (P := Tryz.prog) (w := w8) (ty := 53) Tryz.underlying53 hi hz0 (by rw [hz1]) (by rw [hz2]; omega) rfl one_sl (keptKept (keptTake (HKV.out _ HBE.out) 0 (by have := HPM.out; omega)) HG8.out (.inr (fun e => by have e' : g = wz.heap.size := Option.some.inj e; have := HGZ.out; omega)) (fun r e => by have e' : wz.heap.size = r := Option.some.inj e; have := HWZ.out; omega) (Nat.le_trans HWZ.out HBE.out.size)) cap8 hcl8 (l2 := ([dx] ++ wantL now d.l k)) (keptLen HK8.out) hel8 (Nat.le_trans HWZ.out HB8.out.size) (by omega)
            rw [Nat.zero_add] at hr9 hk9 hat9
            refine step_append_run (by rfl) _ _ _ (by rfl) (.slice (some ⟨g, 0, none⟩) 0 cap) (.slice a8 (1 + m) cap8) _ _ (by rfl) (by rfl) hr9 ?_
            clear hr9 hcl8 hel8
            have hkx9 : w9.heap[nX]? = some (.cells #[.int .i64 x.k.k, .int .i64 x.k.i, .int .i64 x.k.s, .string x.k.t, .slice x.k.la x.k.ll x.k.lc, .slice x.k.fa x.k.fl x.k.fc, .int .i64 x.n, .int .i64 x.t, .slice x.ia x.il x.ic, .slice x.va x.vl x.vc] 58) := (hg9.block nX (ltOf hkx8) (fun e => by have e2 : nX = g := Option.some.inj e; have := HGX.out; omega)).trans hkx8
            have HOW9 := hid (show ∀ r, (Value.slice a9 (1 + m) cap9).ownBlock = some r → w3.heap.size ≤ r from fun r e => (hat9 r e).elim (fun e => by have e2 : g = r := Option.some.inj e; have := HGW.out; omega) (fun e => by rw [e]; exact Nat.le_trans HZ3.out HB8.out.size))
            have HB9 := hid (show Below w3.heap.size w3 w9 from (HUZ.out.trans (HB8.out.mono HZ3.out)).trans (grown_below hg9 (fun r e => by have e2 : g = r := Option.some.inj e; have := HGW.out; omega) (Nat.le_trans HZ3.out HB8.out.size)))
            have HK9 := hid hk9
            clear hk9 hg9 hat9 hkx8
            refine hK.out _ _ (hkx9) (fun hS => ?_)
            clear hK K
            (try simp only [Act.put, List.getElem_toArray, List.getElem_cons_succ, List.getElem_cons_zero, List.setIfInBounds_toArray, List.set_cons_zero, List.set_cons_succ])
            refine wpAnyH_take (i := 10) (oi := _) (v := ?_) rfl (by kernel_rfl) (by kernel_rfl) (by kernel_rfl) (fun _ _ _ h => h) (Or.inl ⟨by rfl, ?_⟩) hS ?_
            rotate_left
            · intro w' hw'
              have hcells := HC17.out w' hw'
              go_simp
              (try with_reducible rfl)
            simp only [Act.put, List.getElem_toArray, List.getElem_cons_succ, List.getElem_cons_zero, List.setIfInBounds_toArray, List.set_cons_zero, List.set_cons_succ]
            refine wpAnyH_done (by kernel_rfl) ?_ _
            (try dsimp only)
            clear hS
            go_wp2
            go_roundw
            case rel =>
              obtain ⟨g9, hg9⟩ := keptSome HK9.out (by omega)
              have hlist : ((wantL now d.l k).take 0) ++ ([dx] ++ wantL now d.l k) = wantL now d.l (k + 1) := by
                rw [wantL_come HKL.out HHC.out, HDX.out, insL_of (j := 0) HSC.out]
                simp
              have hk9 := HK9.out
              rw [hlist] at hk9
              have hm9 : (1 + m) = (expL now (d.l.take (k + 1))).length := (keptLen hk9).symm.trans (wantL_len _ _ _)
              exact ⟨k + 1, (1 + m), _, z2, j2, rfl, rfl, rfl, by go_num, by omega, ⟨HZ2.out, HZP.out, HJ2.out, hm9⟩, HB9.out, ⟨.inr ⟨g9, cap9, by rw [hg9], by omega⟩, hk9, HOW9.out⟩⟩
            case measure => simp [intOf]; omega
          · obtain ⟨q, hq⟩ : ∃ q, p = q + 1 := ⟨p - 1, by omega⟩
            have hwr : IntKind.i64.wrap ((p : Int) - 1) = (p : Int) - 1 := IntWalk.i64_in _ (by omega)
            have hj1 : (0 : Int) ≤ (p : Int) - 1 := by omega
            have hj2 : (1 : Int) ≤ (p : Int) := by omega
            have hj3 : 1 ≤ p := by omega
            have hj4 : (p : Int) - 1 < (m : Int) := by omega
            have hj6 : (0 : Int) < (p : Int) := by omega
            have hjd : decide ((0 : Int) < (p : Int)) = true := decide_eq_true hj6
            have hjd2 : decide (0 < p) = true := decide_eq_true (by omega)
            have hqm : q < (wantL now d.l k).length := by have := HWL.out; omega
            have hqc : q < cs0w.length := by have := HCS0.out.len; omega
            obtain ⟨y, hy⟩ : ∃ y, y = cs0w[q] := ⟨_, rfl⟩
            have HYT : Hid (∀ (h : q < (wantL now d.l k).length), y.t = ((wantL now d.l k)[q]'h).t) := hid fun h => by rw [hy]; exact (HES0.out q hqc h).t
            have HC15 : Hid (∀ w', Below ws.heap.size ws w' → w'.cell? ⟨g, (p - 1) * 10 + 7, none⟩ = some (.int .i64 y.t) ∧ w'.cell? ⟨nX, 7, none⟩ = some (.int .i64 x.t)) := hid fun w' h => by
              have h1 := (HCS0.out.ext h).at'.resolve_left (by have := HCM.out; omega)
              obtain ⟨ad, e, hc⟩ := h1
              cases e
              have h2 := (flat_get slK.cs slK.n slK.len cs0w q 7 hqc (by decide))
              have h3 : (slK.cs cs0w[q])[7]? = some (.int .i64 y.t) := by rw [← hy]; rfl
              have h4 := hc (q * 10 + 7) _ (h2.trans h3)
              have e1 : ((⟨g, 0, none⟩ : Addr).add (q * 10 + 7)) = ⟨g, (p - 1) * 10 + 7, none⟩ := by
                rw [hq, Nat.add_sub_cancel]
                unfold Addr.add
                split <;> simp_all
              rw [e1] at h4
              exact ⟨h4, cellOf (heapExt h HXS.out) 7⟩
            have HLT := hid (show ∀ (h : q < (wantL now d.l k).length), ltDS dx ((wantL now d.l k)[q]'h) = decide (x.t < y.t) from fun h => by
              rw [HYT.out h, HXT.out]
              rcases hd : ltDS dx ((wantL now d.l k)[q]'h) with _ | _
              · exact (decide_eq_false (fun hh => by rw [ltDS_iff.2 hh] at hd; cases hd)).symm
              · exact (decide_eq_true (ltDS_iff.1 hd)).symm)
            have HQ := hid hq
            have HQM := hid hqm
            clear hy hqc hqm hq
            by_cases hcn : x.t < y.t
            · go_upto_region 15 with (fail)
              refine wp_region_split 13 (fun w' => Below ws.heap.size ws w') (by kernel_rfl) (by kernel_rfl) (by kernel_rfl) (by decide) ((Below.refl _ _).drew) (fun hS => ?_)
              simp only [List.take_succ_cons, List.take_zero, List.drop_succ_cons, List.drop_zero]
              refine wpAnyH_take (i := 0) (oi := _) (v := ?_) rfl (by kernel_rfl) (by kernel_rfl) (by kernel_rfl) (fun _ _ _ h => h) (Or.inl ⟨by rfl, ?_⟩) hS ?_
              rotate_left
              · intro w' hw'
                have hcells := HC15.out w' hw'
                go_simp
                (try with_reducible rfl)
              simp only [Act.put, List.getElem_toArray, List.getElem_cons_succ, List.getElem_cons_zero, List.setIfInBounds_toArray, List.set_cons_zero, List.set_cons_succ]
              refine wpAnyH_take (i := 1) (oi := _) (v := ?_) rfl (by kernel_rfl) (by kernel_rfl) (by kernel_rfl) (fun _ _ _ h => h) (Or.inl ⟨by rfl, ?_⟩) hS ?_
              rotate_left
              · intro w' hw'
                have hcells := HC15.out w' hw'
                go_simp
                (try with_reducible rfl)
              simp only [Act.put, List.getElem_toArray, List.getElem_cons_succ, List.getElem_cons_zero, List.setIfInBounds_toArray, List.set_cons_zero, List.set_cons_succ]
              refine wpAnyH_take (i := 2) (oi := _) (v := ?_) rfl (by kernel_rfl) (by kernel_rfl) (by kernel_rfl) (fun _ _ _ h => h) (Or.inl ⟨by rfl, ?_⟩) hS ?_
              rotate_left
              · intro w' hw'
                have hcells := HC15.out w' hw'
                go_simp
                (try with_reducible rfl)
              simp only [Act.put, List.getElem_toArray, List.getElem_cons_succ, List.getElem_cons_zero, List.setIfInBounds_toArray, List.set_cons_zero, List.set_cons_succ]
              refine wpAnyH_take (i := 3) (oi := _) (v := ?_) rfl (by kernel_rfl) (by kernel_rfl) (by kernel_rfl) (fun _ _ _ h => h) (Or.inl ⟨by rfl, ?_⟩) hS ?_
              rotate_left
              · intro w' hw'
                have hcells := HC15.out w' hw'
                go_simp
                (try with_reducible rfl)
              simp only [Act.put, List.getElem_toArray, List.getElem_cons_succ, List.getElem_cons_zero, List.setIfInBounds_toArray, List.set_cons_zero, List.set_cons_succ]
              refine wpAnyH_take (i := 4) (oi := _) (v := ?_) rfl (by kernel_rfl) (by kernel_rfl) (by kernel_rfl) (fun _ _ _ h => h) (Or.inl ⟨by rfl, ?_⟩) hS ?_
              rotate_left
              · intro w' hw'
                have hcells := HC15.out w' hw'
                go_simp
                (try with_reducible rfl)
              simp only [Act.put, List.getElem_toArray, List.getElem_cons_succ, List.getElem_cons_zero, List.setIfInBounds_toArray, List.set_cons_zero, List.set_cons_succ]
              refine wpAnyH_take (i := 5) (oi := _) (v := ?_) rfl (by kernel_rfl) (by kernel_rfl) (by kernel_rfl) (fun _ _ _ h => h) (Or.inl ⟨by rfl, ?_⟩) hS ?_
              rotate_left
              · intro w' hw'
                have hcells := HC15.out w' hw'
                go_simp
                (try with_reducible rfl)
              simp only [Act.put, List.getElem_toArray, List.getElem_cons_succ, List.getElem_cons_zero, List.setIfInBounds_toArray, List.set_cons_zero, List.set_cons_succ]
              refine wpAnyH_take (i := 6) (oi := _) (v := ?_) rfl (by kernel_rfl) (by kernel_rfl) (by kernel_rfl) (fun _ _ _ h => h) (Or.inl ⟨by rfl, ?_⟩) hS ?_
              rotate_left
              · intro w' hw'
                have hcells := HC15.out w' hw'
                go_simp
                (try with_reducible rfl)
              simp only [Act.put, List.getElem_toArray, List.getElem_cons_succ, List.getElem_cons_zero, List.setIfInBounds_toArray, List.set_cons_zero, List.set_cons_succ]
              refine wpAnyH_take (i := 7) (oi := _) (v := ?_) rfl (by kernel_rfl) (by kernel_rfl) (by kernel_rfl) (fun _ _ _ h => h) (Or.inl ⟨by rfl, ?_⟩) hS ?_
              rotate_left
              · intro w' hw'
                have hcells := HC15.out w' hw'
                go_simp
                (try with_reducible rfl)
              simp only [Act.put, List.getElem_toArray, List.getElem_cons_succ, List.getElem_cons_zero, List.setIfInBounds_toArray, List.set_cons_zero, List.set_cons_succ]
              refine wpAnyH_take (i := 8) (oi := _) (v := ?_) rfl (by kernel_rfl) (by kernel_rfl) (by kernel_rfl) (fun _ _ _ h => h) (Or.inl ⟨by rfl, ?_⟩) hS ?_
              rotate_left
              · intro w' hw'
                have hcells := HC15.out w' hw'
                go_simp
                (try with_reducible rfl)
              simp only [Act.put, List.getElem_toArray, List.getElem_cons_succ, List.getElem_cons_zero, List.setIfInBounds_toArray, List.set_cons_zero, List.set_cons_succ]
              refine wpAnyH_take (i := 9) (oi := _) (v := ?_) rfl (by kernel_rfl) (by kernel_rfl) (by kernel_rfl) (fun _ _ _ h => h) (Or.inl ⟨by rfl, ?_⟩) hS ?_
              rotate_left
              · intro w' hw'
                have hcells := HC15.out w' hw'
                go_simp
                (try with_reducible rfl)
              simp only [Act.put, List.getElem_toArray, List.getElem_cons_succ, List.getElem_cons_zero, List.setIfInBounds_toArray, List.set_cons_zero, List.set_cons_succ]
              refine wpAnyH_take (i := 10) (oi := _) (v := ?_) rfl (by kernel_rfl) (by kernel_rfl) (by kernel_rfl) (fun _ _ _ h => h) (Or.inl ⟨by rfl, ?_⟩) hS ?_
              rotate_left
              · intro w' hw'
                have hcells := HC15.out w' hw'
                go_simp
                (try with_reducible rfl)
              simp only [Act.put, List.getElem_toArray, List.getElem_cons_succ, List.getElem_cons_zero, List.setIfInBounds_toArray, List.set_cons_zero, List.set_cons_succ]
              refine wpAnyH_take (i := 11) (oi := _) (v := ?_) rfl (by kernel_rfl) (by kernel_rfl) (by kernel_rfl) (fun _ _ _ h => h) (Or.inl ⟨by rfl, ?_⟩) hS ?_
              rotate_left
              · intro w' hw'
                have hcells := HC15.out w' hw'
                go_simp
                (try with_reducible rfl)
              simp only [Act.put, List.getElem_toArray, List.getElem_cons_succ, List.getElem_cons_zero, List.setIfInBounds_toArray, List.set_cons_zero, List.set_cons_succ]
              refine wpAnyH_take (i := 12) (oi := _) (v := ?_) rfl (by kernel_rfl) (by kernel_rfl) (by kernel_rfl) (fun _ _ _ h => h) (Or.inl ⟨by rfl, ?_⟩) hS ?_
              rotate_left
              · intro w' hw'
                have hcells := HC15.out w' hw'
                go_simp
                (try with_reducible rfl)
              simp only [Act.put, List.getElem_toArray, List.getElem_cons_succ, List.getElem_cons_zero, List.setIfInBounds_toArray, List.set_cons_zero, List.set_cons_succ]
              refine wpAnyH_done (by kernel_rfl) ?_ _
              (try dsimp only)
              have HBS := hid hS
              clear hS
              go_wp2
              go_roundw
              case rel => exact ⟨q, by have := HQ.out; omega, by have := HQ.out; go_num, HBSX.out.trans (HBS.out.mono HBSX.out.size), by rw [HSC0.out, HQ.out, scanP_pass HQM.out (by rw [HLT.out]; exact decide_eq_true hcn)]⟩
              case measure => have := HQ.out; simp [intOf]; omega
            · have HSC := hid (show scanP ltDS dx (wantL now d.l k) (wantL now d.l k).length = p by rw [HSC0.out, HQ.out, scanP_stop HQM.out (by rw [HLT.out]; exact decide_eq_false hcn)])
              go_upto_region 15 with (fail)
              refine wp_region_split 13 (fun w' => Below ws.heap.size ws w') (by kernel_rfl) (by kernel_rfl) (by kernel_rfl) (by decide) ((Below.refl _ _).drew) (fun hS => ?_)
              simp only [List.take_succ_cons, List.take_zero, List.drop_succ_cons, List.drop_zero]
              refine wpAnyH_take (i := 0) (oi := _) (v := ?_) rfl (by kernel_rfl) (by kernel_rfl) (by kernel_rfl) (fun _ _ _ h => h) (Or.inl ⟨by rfl, ?_⟩) hS ?_
              rotate_left
              · intro w' hw'
                have hcells := HC15.out w' hw'
                go_simp
                (try with_reducible rfl)
              simp only [Act.put, List.getElem_toArray, List.getElem_cons_succ, List.getElem_cons_zero, List.setIfInBounds_toArray, List.set_cons_zero, List.set_cons_succ]
              refine wpAnyH_take (i := 1) (oi := _) (v := ?_) rfl (by kernel_rfl) (by kernel_rfl) (by kernel_rfl) (fun _ _ _ h => h) (Or.inl ⟨by rfl, ?_⟩) hS ?_
              rotate_left
              · intro w' hw'
                have hcells := HC15.out w' hw'
                go_simp
                (try with_reducible rfl)
              simp only [Act.put, List.getElem_toArray, List.getElem_cons_succ, List.getElem_cons_zero, List.setIfInBounds_toArray, List.set_cons_zero, List.set_cons_succ]
              refine wpAnyH_take (i := 2) (oi := _) (v := ?_) rfl (by kernel_rfl) (by kernel_rfl) (by kernel_rfl) (fun _ _ _ h => h) (Or.inl ⟨by rfl, ?_⟩) hS ?_
              rotate_left
              · intro w' hw'
                have hcells := HC15.out w' hw'
                go_simp
                (try with_reducible rfl)
              simp only [Act.put, List.getElem_toArray, List.getElem_cons_succ, List.getElem_cons_zero, List.setIfInBounds_toArray, List.set_cons_zero, List.set_cons_succ]
              refine wpAnyH_take (i := 3) (oi := _) (v := ?_) rfl (by kernel_rfl) (by kernel_rfl) (by kernel_rfl) (fun _ _ _ h => h) (Or.inl ⟨by rfl, ?_⟩) hS ?_
              rotate_left
              · intro w' hw'
                have hcells := HC15.out w' hw'
                go_simp
                (try with_reducible rfl)
              simp only [Act.put, List.getElem_toArray, List.getElem_cons_succ, List.getElem_cons_zero, List.setIfInBounds_toArray, List.set_cons_zero, List.set_cons_succ]
              refine wpAnyH_take (i := 4) (oi := _) (v := ?_) rfl (by kernel_rfl) (by kernel_rfl) (by kernel_rfl) (fun _ _ _ h => h) (Or.inl ⟨by rfl, ?_⟩) hS ?_
              rotate_left
              · intro w' hw'
                have hcells := HC15.out w' hw'
                go_simp
                (try with_reducible rfl)
              simp only [Act.put, List.getElem_toArray, List.getElem_cons_succ, List.getElem_cons_zero, List.setIfInBounds_toArray, List.set_cons_zero, List.set_cons_succ]
              refine wpAnyH_take (i := 5) (oi := _) (v := ?_) rfl (by kernel_rfl) (by kernel_rfl) (by kernel_rfl) (fun _ _ _ h => h) (Or.inl ⟨by rfl, ?_⟩) hS ?_
              rotate_left
              · intro w' hw'
                have hcells := HC15.out w' hw'
                go_simp
                (try with_reducible rfl)
              simp only [Act.put, List.getElem_toArray, List.getElem_cons_succ, List.getElem_cons_zero, List.setIfInBounds_toArray, List.set_cons_zero, List.set_cons_succ]
              refine wpAnyH_take (i := 6) (oi := _) (v := ?_) rfl (by kernel_rfl) (by kernel_rfl) (by kernel_rfl) (fun _ _ _ h => h) (Or.inl ⟨by rfl, ?_⟩) hS ?_
              rotate_left
              · intro w' hw'
                have hcells := HC15.out w' hw'
                go_simp
                (try with_reducible rfl)
              simp only [Act.put, List.getElem_toArray, List.getElem_cons_succ, List.getElem_cons_zero, List.setIfInBounds_toArray, List.set_cons_zero, List.set_cons_succ]
              refine wpAnyH_take (i := 7) (oi := _) (v := ?_) rfl (by kernel_rfl) (by kernel_rfl) (by kernel_rfl) (fun _ _ _ h => h) (Or.inl ⟨by rfl, ?_⟩) hS ?_
              rotate_left
              · intro w' hw'
                have hcells := HC15.out w' hw'
                go_simp
                (try with_reducible rfl)
              simp only [Act.put, List.getElem_toArray, List.getElem_cons_succ, List.getElem_cons_zero, List.setIfInBounds_toArray, List.set_cons_zero, List.set_cons_succ]
              refine wpAnyH_take (i := 8) (oi := _) (v := ?_) rfl (by kernel_rfl) (by kernel_rfl) (by kernel_rfl) (fun _ _ _ h => h) (Or.inl ⟨by rfl, ?_⟩) hS ?_
              rotate_left
              · intro w' hw'
                have hcells := HC15.out w' hw'
                go_simp
                (try with_reducible rfl)
              simp only [Act.put, List.getElem_toArray, List.getElem_cons_succ, List.getElem_cons_zero, List.setIfInBounds_toArray, List.set_cons_zero, List.set_cons_succ]
              refine wpAnyH_take (i := 9) (oi := _) (v := ?_) rfl (by kernel_rfl) (by kernel_rfl) (by kernel_rfl) (fun _ _ _ h => h) (Or.inl ⟨by rfl, ?_⟩) hS ?_
              rotate_left
              · intro w' hw'
                have hcells := HC15.out w' hw'
                go_simp
                (try with_reducible rfl)
              simp only [Act.put, List.getElem_toArray, List.getElem_cons_succ, List.getElem_cons_zero, List.setIfInBounds_toArray, List.set_cons_zero, List.set_cons_succ]
              refine wpAnyH_take (i := 10) (oi := _) (v := ?_) rfl (by kernel_rfl) (by kernel_rfl) (by kernel_rfl) (fun _ _ _ h => h) (Or.inl ⟨by rfl, ?_⟩) hS ?_
              rotate_left
              · intro w' hw'
                have hcells := HC15.out w' hw'
                go_simp
                (try with_reducible rfl)
              simp only [Act.put, List.getElem_toArray, List.getElem_cons_succ, List.getElem_cons_zero, List.setIfInBounds_toArray, List.set_cons_zero, List.set_cons_succ]
              refine wpAnyH_take (i := 11) (oi := _) (v := ?_) rfl (by kernel_rfl) (by kernel_rfl) (by kernel_rfl) (fun _ _ _ h => h) (Or.inl ⟨by rfl, ?_⟩) hS ?_
              rotate_left
              · intro w' hw'
                have hcells := HC15.out w' hw'
                go_simp
                (try with_reducible rfl)
              simp only [Act.put, List.getElem_toArray, List.getElem_cons_succ, List.getElem_cons_zero, List.setIfInBounds_toArray, List.set_cons_zero, List.set_cons_succ]
              refine wpAnyH_take (i := 12) (oi := _) (v := ?_) rfl (by kernel_rfl) (by kernel_rfl) (by kernel_rfl) (fun _ _ _ h => h) (Or.inl ⟨by rfl, ?_⟩) hS ?_
              rotate_left
              · intro w' hw'
                have hcells := HC15.out w' hw'
                go_simp
                (try with_reducible rfl)
              simp only [Act.put, List.getElem_toArray, List.getElem_cons_succ, List.getElem_cons_zero, List.setIfInBounds_toArray, List.set_cons_zero, List.set_cons_succ]
              refine wpAnyH_done (by kernel_rfl) ?_ _
              (try dsimp only)
              have HBS := hid hS
              clear hS
              obtain ⟨wz, hwz⟩ : ∃ u, u = ws.drew := ⟨_, rfl⟩
              rw [← hwz] at HBS ⊢
              clear hwz
              have HUZ := hid (HUS.out.trans (HBS.out.mono HUS.out.size))
              have HZ3 := hid (show w3.heap.size ≤ wz.heap.size from HUZ.out.size)
              have HWZ := hid (show w.heap.size ≤ wz.heap.size from Nat.le_trans HW3.out HZ3.out)
              have HX0 := hid (heapExt HBS.out HXS.out)
              have HXD : Hid (∀ w', Below wz.heap.size wz w' → IsSl (· < w.heap.size) w' x dx) := hid fun w' h => by
                have h1 := HU3.out _ (HUZ.out.trans (h.mono HZ3.out))
                exact HXI.out.same fun b q => ⟨q, h1.block b q⟩
              have HKV : Hid (∀ w', Below wz.heap.size wz w' → Kept slK 58 w.heap.size w' (.slice (some ⟨g, 0, none⟩) m cap) m (wantL now d.l k)) := hid fun w' h => HKS.out.ext (Nat.le_trans HW3.out (Nat.le_trans HUS.out.size (Nat.le_refl _))) (HBS.out.trans (h.mono HBS.out.size))
              have HCW : Hid (∀ w', Below wz.heap.size wz w' → Cl slK w' (some ⟨g, 0, none⟩) m cs0w ∧ ∀ j (h1 : j < cs0w.length) (h2 : j < (wantL now d.l k).length), IsSl (· < w.heap.size) w' cs0w[j] (wantL now d.l k)[j]) := hid fun w' h => by
                have h1 := HBS.out.trans (h.mono HBS.out.size)
                have h2 := HU3.out _ (HUS.out.trans (h1.mono HUS.out.size))
                exact ⟨HCS0.out.ext h1, fun j a1 a2 => (HES0.out j a1 a2).same fun b q => ⟨q, (h1.block b (Nat.lt_of_lt_of_le q (Nat.le_trans HW3.out HUS.out.size)))⟩⟩
              have HGZ := hid (show g < wz.heap.size from Nat.lt_of_lt_of_le HGX.out (Nat.le_of_lt (ltOf HX0.out)))
              obtain ⟨A, hA, hAc⟩ : ∃ A : Addr, (if cap = p then (some (⟨g, 0, none⟩ : Addr)) else some ⟨g, p * 10, none⟩) = some A ∧ Hid (∀ w', Below wz.heap.size wz w' → Cl slK w' (some A) (m - p) (cs0w.drop p)) := by
                by_cases h : cap = p
                · refine ⟨⟨g, 0, none⟩, by rw [if_pos h], fun w' hw => ⟨by rw [List.length_drop, (HCW.out w' hw).1.len], .inl (by have := HCM.out; omega)⟩⟩
                · refine ⟨⟨g, p * 10, none⟩, by rw [if_neg h], fun w' hw => ?_⟩
                  have h1 := cl_drop (HCW.out w' hw).1 p (by have := HPM.out; omega)
                  rw [Nat.zero_add] at h1
                  exact h1
              have HCD : Hid (∀ w', Below wz.heap.size wz w' → Cl slK w' (some A) (m - p) (cs0w.drop p) ∧ ∀ j (h1 : j < (cs0w.drop p).length) (h2 : j < ((wantL now d.l k).drop p).length), IsSl (· < w.heap.size) w' (cs0w.drop p)[j] ((wantL now d.l k).drop p)[j]) := hid fun w' h => ⟨hAc.out w' h, drop_els (HCW.out w' h).2 p⟩
              have HC17 : Hid (∀ (w' : World), w'.heap[nX]? = some (.cells #[.int .i64 x.k.k, .int .i64 x.k.i, .int .i64 x.k.s, .string x.k.t, .slice x.k.la x.k.ll x.k.lc, .slice x.k.fa x.k.fl x.k.fc, .int .i64 x.n, .int .i64 x.t, .slice x.ia x.il x.ic, .slice x.va x.vl x.vc] 58) → w'.cell? ⟨nX, 0, none⟩ = some (.int .i64 x.k.k) ∧ w'.cell? ⟨nX, 1, none⟩ = some (.int .i64 x.k.i) ∧ w'.cell? ⟨nX, 2, none⟩ = some (.int .i64 x.k.s) ∧ w'.cell? ⟨nX, 3, none⟩ = some (.string x.k.t) ∧ w'.cell? ⟨nX, 4, none⟩ = some (.slice x.k.la x.k.ll x.k.lc) ∧ w'.cell? ⟨nX, 5, none⟩ = some (.slice x.k.fa x.k.fl x.k.fc) ∧ w'.cell? ⟨nX, 6, none⟩ = some (.int .i64 x.n) ∧ w'.cell? ⟨nX, 7, none⟩ = some (.int .i64 x.t) ∧ w'.cell? ⟨nX, 8, none⟩ = some (.slice x.ia x.il x.ic) ∧ w'.cell? ⟨nX, 9, none⟩ = some (.slice x.va x.vl x.vc)) := hid fun w' h => ⟨cellOf h 0, cellOf h 1, cellOf h 2, cellOf h 3, cellOf h 4, cellOf h 5, cellOf h 6, cellOf h 7, cellOf h 8, cellOf h 9⟩
              go_upto_region 17 with (fail)
              refine wp_region_split 11 (fun w' => w'.heap[nX]? = some (.cells #[.int .i64 x.k.k, .int .i64 x.k.i, .int .i64 x.k.s, .string x.k.t, .slice x.k.la x.k.ll x.k.lc, .slice x.k.fa x.k.fl x.k.fc, .int .i64 x.n, .int .i64 x.t, .slice x.ia x.il x.ic, .slice x.va x.vl x.vc] 58)) (by kernel_rfl) (by kernel_rfl) (by kernel_rfl) (by decide) (HX0.out) (fun hS => ?_)
              simp only [List.take_succ_cons, List.take_zero, List.drop_succ_cons, List.drop_zero]
              refine wpAnyH_take (i := 0) (oi := _) (v := ?_) rfl (by kernel_rfl) (by kernel_rfl) (by kernel_rfl) (fun _ _ _ h => h) (Or.inl ⟨by rfl, ?_⟩) hS ?_
              rotate_left
              · intro w' hw'
                have hcells := HC17.out w' hw'
                go_simp
                (try with_reducible rfl)
              simp only [Act.put, List.getElem_toArray, List.getElem_cons_succ, List.getElem_cons_zero, List.setIfInBounds_toArray, List.set_cons_zero, List.set_cons_succ]
              refine wpAnyH_take (i := 1) (oi := _) (v := ?_) rfl (by kernel_rfl) (by kernel_rfl) (by kernel_rfl) (fun _ _ _ h => h) (Or.inl ⟨by rfl, ?_⟩) hS ?_
              rotate_left
              · intro w' hw'
                have hcells := HC17.out w' hw'
                go_simp
                (try with_reducible rfl)
              simp only [Act.put, List.getElem_toArray, List.getElem_cons_succ, List.getElem_cons_zero, List.setIfInBounds_toArray, List.set_cons_zero, List.set_cons_succ]
              refine wpAnyH_take (i := 2) (oi := _) (v := ?_) rfl (by kernel_rfl) (by kernel_rfl) (by kernel_rfl) (fun _ _ _ h => h) (Or.inl ⟨by rfl, ?_⟩) hS ?_
              rotate_left
              · intro w' hw'
                have hcells := HC17.out w' hw'
                go_simp
                (try with_reducible rfl)
              simp only [Act.put, List.getElem_toArray, List.getElem_cons_succ, List.getElem_cons_zero, List.setIfInBounds_toArray, List.set_cons_zero, List.set_cons_succ]
              refine wpAnyH_take (i := 3) (oi := _) (v := ?_) rfl (by kernel_rfl) (by kernel_rfl) (by kernel_rfl) (fun _ _ _ h => h) (Or.inl ⟨by rfl, ?_⟩) hS ?_
              rotate_left
              · intro w' hw'
                have hcells := HC17.out w' hw'
                go_simp
                (try with_reducible rfl)
              simp only [Act.put, List.getElem_toArray, List.getElem_cons_succ, List.getElem_cons_zero, List.setIfInBounds_toArray, List.set_cons_zero, List.set_cons_succ]
              refine wpAnyH_take (i := 5) (oi := _) (v := ?_) rfl (by kernel_rfl) (by kernel_rfl) (by kernel_rfl) (fun _ _ _ h => h) (Or.inl ⟨by rfl, ?_⟩) hS ?_
              rotate_left
              · intro w' hw'
                have hcells := HC17.out w' hw'
                go_simp
                (try with_reducible rfl)
              simp only [Act.put, List.getElem_toArray, List.getElem_cons_succ, List.getElem_cons_zero, List.setIfInBounds_toArray, List.set_cons_zero, List.set_cons_succ]
              refine wpAnyH_take (i := 6) (oi := _) (v := ?_) rfl (by kernel_rfl) (by kernel_rfl) (by kernel_rfl) (fun _ _ _ h => h) (Or.inl ⟨by rfl, ?_⟩) hS ?_
              rotate_left
              · intro w' hw'
                have hcells := HC17.out w' hw'
                go_simp
                (try with_reducible rfl)
              simp only [Act.put, List.getElem_toArray, List.getElem_cons_succ, List.getElem_cons_zero, List.setIfInBounds_toArray, List.set_cons_zero, List.set_cons_succ]
              refine wpAnyH_take (i := 7) (oi := _) (v := ?_) rfl (by kernel_rfl) (by kernel_rfl) (by kernel_rfl) (fun _ _ _ h => h) (Or.inl ⟨by rfl, ?_⟩) hS ?_
              rotate_left
              · intro w' hw'
                have hcells := HC17.out w' hw'
                go_simp
                (try with_reducible rfl)
              simp only [Act.put, List.getElem_toArray, List.getElem_cons_succ, List.getElem_cons_zero, List.setIfInBounds_toArray, List.set_cons_zero, List.set_cons_succ]
              refine wpAnyH_ready (rs := [4]) (by kernel_rfl) (by simp) ?_
              refine AllReadyH.cons (o := _) rfl (fun K hK => ?_) AllReadyH.nil
              go_simp
              obtain ⟨wE, hwE⟩ : ∃ u, u = (wz.alloc (.cells #[.int .i64 x.k.k, .int .i64 x.k.i, .int .i64 x.k.s, .string x.k.t, .slice x.k.la x.k.ll x.k.lc, .slice x.k.fa x.k.fl x.k.fc, .int .i64 x.n, .int .i64 x.t, .slice x.ia x.il x.ic, .slice x.va x.vl x.vc] 58)).drew := ⟨_, rfl⟩
              rw [← hwE]
              have HBE := hid (show Below wz.heap.size wz wE by rw [hwE]; exact ((Below.refl _ _).alloc (Nat.le_refl _) _).drew)
              have HSE := hid (show wE.heap.size = wz.heap.size + 1 by rw [hwE]; simp)
              have HKE := hid (show Kept slK 58 w.heap.size wE (.slice (some ⟨wz.heap.size, 0, none⟩) 1 1) 1 [dx] by
                rw [hwE]
                exact (keptOne (K := slK) (T := 58) (c := x) HWZ.out (HXD.out _ (Below.refl _ _))).ext (by have := HWZ.out; simp only [World.size_alloc]; omega) ((Below.refl _ _).drew))
              have hkx : wE.heap[nX]? = some (.cells #[.int .i64 x.k.k, .int .i64 x.k.i, .int .i64 x.k.s, .string x.k.t, .slice x.k.la x.k.ll x.k.lc, .slice x.k.fa x.k.fl x.k.fc, .int .i64 x.n, .int .i64 x.t, .slice x.ia x.il x.ic, .slice x.va x.vl x.vc] 58) := heapExt HBE.out HX0.out
              clear hwE
              refine hK.out _ _ (hkx) (fun hS => ?_)
              clear hK K
              (try simp only [Act.put, List.getElem_toArray, List.getElem_cons_succ, List.getElem_cons_zero, List.setIfInBounds_toArray, List.set_cons_zero, List.set_cons_succ])
              refine wpAnyH_ready (rs := [8]) (by kernel_rfl) (by simp) ?_
              refine AllReadyH.cons (o := _) rfl (fun K hK => ?_) AllReadyH.nil
              obtain ⟨a8, cap8, w8, hr8, hk8, hg8, hat8'⟩ := run_append_kept (K := slK) (P := Tryz.prog) (w := wE) (ty := 53) Tryz.underlying53 hi hz0 (by rw [hz1]) (by rw [hz2]; omega) rfl one_sl HKE.out (cap - p) (HCD.out _ HBE.out).1 (l2 := ((wantL now d.l k).drop p)) (by rw [List.length_drop]; have := HWL.out; omega) (HCD.out _ HBE.out).2 (Nat.le_trans HWZ.out HBE.out.size) (by omega)
              refine step_append_run (by rfl) _ _ _ (by rfl) _ _ _ _ (by rfl) (by rfl) hr8 ?_
              clear hr8
              have hat8 : ∀ r, (Value.slice a8 (1 + (m - p)) cap8).ownBlock = some r → wz.heap.size ≤ r := fun r e => (hat8' r e).elim (fun e => by have e' : wz.heap.size = r := Option.some.inj e; omega) (fun e => by rw [e]; exact HBE.out.size)
              clear hat8'
              have HB8 := hid (show Below wz.heap.size wz w8 from HBE.out.trans (grown_below hg8 (fun r e => by have e' : wz.heap.size = r := Option.some.inj e; omega) HBE.out.size))
              have hkx8 : w8.heap[nX]? = some (.cells #[.int .i64 x.k.k, .int .i64 x.k.i, .int .i64 x.k.s, .string x.k.t, .slice x.k.la x.k.ll x.k.lc, .slice x.k.fa x.k.fl x.k.fc, .int .i64 x.n, .int .i64 x.t, .slice x.ia x.il x.ic, .slice x.va x.vl x.vc] 58) := (hg8.block nX (ltOf hkx) (fun e => by have e' : nX = wz.heap.size := Option.some.inj e; have := ltOf HX0.out; omega)).trans hkx
              have HK8 := hid hk8
              have HG8 := hid hg8
              have HAT8 := hid hat8
              clear hk8 hg8 hat8 hkx
              refine hK.out _ _ (hkx8) (fun hS => ?_)
              clear hK K
              (try simp only [Act.put, List.getElem_toArray, List.getElem_cons_succ, List.getElem_cons_zero, List.setIfInBounds_toArray, List.set_cons_zero, List.set_cons_succ])
              refine wpAnyH_ready (rs := [9]) (by kernel_rfl) (by simp) ?_
              refine AllReadyH.cons (o := _) rfl (fun K hK => ?_) AllReadyH.nil
              obtain ⟨cs8, hcl8, hel8⟩ := keptCl HK8.out
              obtain ⟨a9, cap9, w9, hr9, hk9, hg9, hat9⟩ := run_append_kept (K := slK) (P := Tryz.prog) (w := w8) (ty := 53) Tryz.underlying53 hi hz0 (by rw [hz1]) (by rw [hz2]; omega) rfl one_sl (keptKept (keptTake (HKV.out _ HBE.out) p (by have := HPM.out; omega)) HG8.out (.inr (fun e => by have e' : g = wz.heap.size := Option.some.inj e; have := HGZ.out; omega)) (fun r e => by have e' : wz.heap.size = r := Option.some.inj e; have := HWZ.out; omega) (Nat.le_trans HWZ.out HBE.out.size)) cap8 hcl8 (l2 := ([dx] ++ (wantL now d.l k).drop p)) (keptLen HK8.out) hel8 (Nat.le_trans HWZ.out HB8.out.size) (by omega)
              skip
              refine step_append_run (by rfl) _ _ _ (by rfl) (.slice (some ⟨g, 0, none⟩) p cap) (.slice a8 (1 + (m - p)) cap8) _ _ (by rfl) (by rfl) hr9 ?_
              clear hr9 hcl8 hel8
              have hkx9 : w9.heap[nX]? = some (.cells #[.int .i64 x.k.k, .int .i64 x.k.i, .int .i64 x.k.s, .string x.k.t, .slice x.k.la x.k.ll x.k.lc, .slice x.k.fa x.k.fl x.k.fc, .int .i64 x.n, .int .i64 x.t, .slice x.ia x.il x.ic, .slice x.va x.vl x.vc] 58) := (hg9.block nX (ltOf hkx8) (fun e => by have e2 : nX = g := Option.some.inj e; have := HGX.out; omega)).trans hkx8
              have HOW9 := hid (show ∀ r, (Value.slice a9 (p + (1 + (m - p))) cap9).ownBlock = some r → w3.heap.size ≤ r from fun r e => (hat9 r e).elim (fun e => by have e2 : g = r := Option.some.inj e; have := HGW.out; omega) (fun e => by rw [e]; exact Nat.le_trans HZ3.out HB8.out.size))
              have HB9 := hid (show Below w3.heap.size w3 w9 from (HUZ.out.trans (HB8.out.mono HZ3.out)).trans (grown_below hg9 (fun r e => by have e2 : g = r := Option.some.inj e; have := HGW.out; omega) (Nat.le_trans HZ3.out HB8.out.size)))
              have HK9 := hid hk9
              clear hk9 hg9 hat9 hkx8
              refine hK.out _ _ (hkx9) (fun hS => ?_)
              clear hK K
              (try simp only [Act.put, List.getElem_toArray, List.getElem_cons_succ, List.getElem_cons_zero, List.setIfInBounds_toArray, List.set_cons_zero, List.set_cons_succ])
              refine wpAnyH_take (i := 10) (oi := _) (v := ?_) rfl (by kernel_rfl) (by kernel_rfl) (by kernel_rfl) (fun _ _ _ h => h) (Or.inl ⟨by rfl, ?_⟩) hS ?_
              rotate_left
              · intro w' hw'
                have hcells := HC17.out w' hw'
                go_simp
                (try with_reducible rfl)
              simp only [Act.put, List.getElem_toArray, List.getElem_cons_succ, List.getElem_cons_zero, List.setIfInBounds_toArray, List.set_cons_zero, List.set_cons_succ]
              refine wpAnyH_done (by kernel_rfl) ?_ _
              (try dsimp only)
              clear hS
              go_wp2
              go_roundw
              case rel =>
                obtain ⟨g9, hg9⟩ := keptSome HK9.out (by omega)
                have hlist : ((wantL now d.l k).take p) ++ ([dx] ++ (wantL now d.l k).drop p) = wantL now d.l (k + 1) := by
                  rw [wantL_come HKL.out HHC.out, HDX.out, insL_of (j := p) HSC.out]
                  simp
                have hk9 := HK9.out
                rw [hlist] at hk9
                have hm9 : (p + (1 + (m - p))) = (expL now (d.l.take (k + 1))).length := (keptLen hk9).symm.trans (wantL_len _ _ _)
                exact ⟨k + 1, (p + (1 + (m - p))), _, z2, j2, rfl, rfl, rfl, by go_num, by omega, ⟨HZ2.out, HZP.out, HJ2.out, hm9⟩, HB9.out, ⟨.inr ⟨g9, cap9, by rw [hg9], by omega⟩, hk9, HOW9.out⟩⟩
              case measure => simp [intOf]; omega
      · have HHN := hid (show hasCome now (d.l[k]'HKL.out) = false by rw [HDX.out, hasCome, ← HXT.out, decide_eq_false hc2, Bool.and_false])
        go_wp2
        go_roundw
        case rel =>
          have hw := wantL_keep HKL.out HHN.out
          exact ⟨k + 1, m, _, z2, j2, rfl, rfl, rfl, by go_num, by omega, ⟨HZ2.out, HZP.out, HJ2.out, by rw [hw.2]; exact HTR.out.hm⟩, HUX.out, by rw [hw.1]; exact HWANT.out.ext (Nat.le_trans HW3.out HUQ.out.size) HQX.out⟩
        case measure => simp [intOf]; omega
    · have HHN := hid (show hasCome now (d.l[k]'HKL.out) = false by rw [HDX.out, hasCome, ← HXT.out, decide_eq_false hc1, Bool.false_and])
      go_wp2
      go_roundw
      case rel =>
        have hw := wantL_keep HKL.out HHN.out
        exact ⟨k + 1, m, _, z2, j2, rfl, rfl, rfl, by go_num, by omega, ⟨HZ2.out, HZP.out, HJ2.out, by rw [hw.2]; exact HTR.out.hm⟩, HUX.out, by rw [hw.1]; exact HWANT.out.ext (Nat.le_trans HW3.out HUQ.out.size) HQX.out⟩
      case measure => simp [intOf]; omega
  · obtain rfl : sl = k := by omega
    clear hlt
    have HTR := hid htr
    have HUQ := hid hbr
    have hlz : d.l.take sl = d.l := by rw [show sl = d.l.length from HL.out, List.take_length]
    have HZL := hid (show z = dueL d.l by have h := htr.hz; rw [hlz] at h; exact h)
    obtain ⟨fb, hfb⟩ : ∃ fb, fb = decide (0 < z) := ⟨_, rfl⟩
    have HFB := hid hfb
    have HWE := hid (show wantL now d.l sl = sortT ltDS (expL now d.l) (expL now d.l).length by rw [wantL, hlz])
    obtain ⟨av, cv, rfl, hvc⟩ := hwt.kept.shape
    have HKW := hid hwt.kept
    have hm10 : m ≤ 10 := by have h := htr.hm; rw [hlz] at h; have h2 := List.length_filter_le (hasCome now) d.l; unfold expL at h; have := HL.out; omega
    clear htr hbr hwt hlz hfb
    by_cases h0 : sl = 0
    · subst h0
      have HDU : Hid (∀ w', Below w3.heap.size w3 w' → Calls Tryz.prog 54 #[.agg #[.int .i64 sn, .int .i64 st, .slice a 0 sc]] w' fun e w2 => e = .returned (.tuple #[.int .i64 z, .bool fb]) ∧ Below w'.heap.size w' w2) := hid fun w' h => by
        have hc := due_call ⟨sn, st, a, 0, sc⟩ d w' (HST3.out w' h) (by have := HL.out; omega)
        rw [DuePost_eq, ← HZL.out, ← HFB.out] at hc
        exact hc
      have HEXP : Hid (∀ w', Below w3.heap.size w3 w' → Calls Tryz.prog 55 #[.agg #[.int .i64 sn, .int .i64 st, .slice a 0 sc], .int .i64 now] w' (ExpPost w' now d.l)) := hid fun w' h => expired_call ⟨sn, st, a, 0, sc⟩ d now w' (HST3.out w' h) (by have := HL.out; omega)
      have HOL : Hid (∀ w', Below w3.heap.size w3 w' → Calls Tryz.prog 56 #[.agg #[.int .i64 sn, .int .i64 st, .slice a 0 sc]] w' fun e w2 => e = .returned (.tuple #[.agg #[.int .i64 0, .int .i64 0, .int .i64 0, .string ⟨#[]⟩, .slice none 0 0, .slice none 0 0, .int .i64 0, .int .i64 0, .slice none 0 0, .slice none 0 0], .bool false]) ∧ Below w'.heap.size w' w2) := hid fun w' h => oldest0_call ⟨sn, st, a, 0, sc⟩ w' rfl
      have HKQ := hid (show Below w3.heap.size w3 wq from HUQ.out)
      obtain ⟨k0, k1, k2⟩ := HBY3.out _ HUQ.out
      go_upto_region 21 with (first
        | (go_at_call 56; refine (HOL.out _ hbe').mono ?_; rintro e w9 ⟨rfl, hbo⟩; have hbo' := hbe'.trans (hbo.mono hbe'.size))
        | (go_at_call 55; refine (HEXP.out _ hbd').mono ?_; rintro e w8 ⟨aE, mE, cE, rfl, hbe, hre⟩; have hbe' := hbd'.trans (hbe.mono hbd'.size); have HRE := hid hre; clear hre; clear k0 k1 k2; obtain ⟨k0, k1, k2⟩ := HBY3.out _ hbe')
        | (go_at_call 54; refine (HDU.out _ HUQ.out).mono ?_; rintro e w7 ⟨rfl, hbd⟩; have hbd' := HUQ.out.trans (hbd.mono HUQ.out.size); clear k0 k1 k2; obtain ⟨k0, k1, k2⟩ := HBY3.out _ hbd'))
      clear k0 k1 k2
      obtain ⟨wt, hwt⟩ : ∃ u, u = w9.alloc (.cells #[.int .i64 0, .int .i64 0, .int .i64 0, .string ⟨#[]⟩, .slice none 0 0, .slice none 0 0, .int .i64 0, .int .i64 0, .slice none 0 0, .slice none 0 0] 58) := ⟨_, rfl⟩
      rw [← hwt]
      have HTA := hid (show Below w9.heap.size w9 wt by rw [hwt]; exact (Below.refl _ _).alloc (Nat.le_refl _) _)
      have HTO := hid (show wt.heap[w9.heap.size]? = some (.cells #[.int .i64 0, .int .i64 0, .int .i64 0, .string ⟨#[]⟩, .slice none 0 0, .slice none 0 0, .int .i64 0, .int .i64 0, .slice none 0 0, .slice none 0 0] 58) by rw [hwt]; exact heap_alloc_new w9 _)
      have HTE := hid (show Below w8.heap.size w8 wt from hbo.trans (HTA.out.mono hbo.size))
      have HTT := hid (show Below wq.heap.size wq wt from hbd.trans ((hbe.trans (HTE.out.mono hbe.size)).mono hbd.size))
      skip
      clear hwt
      have HSSQ : Hid (Calls Tryz.prog 57 #[.slice aE mE cE, .slice av m cv] wt fun e w2 => e = .returned (.bool true) ∧ Below wt.heap.size wt w2) := hid (by
        have hk := HKW.out.ext (Nat.le_trans HW3.out HUQ.out.size) HTT.out
        have h1 : IsRow slK (· < wt.heap.size) wt av m cv (sortT ltDS (expL now d.l) (expL now d.l).length) := by
          have h := hk.row (Nat.le_trans (Nat.le_trans HW3.out HUQ.out.size) HTT.out.size) (by dsimp only; omega)
          rw [HWE.out] at h
          exact h
        have h2 : IsRow slK (· < wt.heap.size) wt aE mE cE (sortT ltDS (expL now d.l) (expL now d.l).length) := HRE.out.same fun b q => ⟨Nat.lt_of_lt_of_le q.2 HTE.out.size, HTE.out.block b q.2⟩
        have hc := sameSlots_call aE av mE cE m cv _ _ wt h2 h1
        rw [eqL_refl slEqB_refl] at hc
        exact hc)
      have HC23 : Hid (∀ w', Below wt.heap.size wt w' → ((w'.cell? ⟨w9.heap.size, 0, none⟩ = some (.int .i64 0) ∧ w'.cell? ⟨w9.heap.size, 1, none⟩ = some (.int .i64 0) ∧ w'.cell? ⟨w9.heap.size, 2, none⟩ = some (.int .i64 0) ∧ w'.cell? ⟨w9.heap.size, 3, none⟩ = some (.string ⟨#[]⟩) ∧ w'.cell? ⟨w9.heap.size, 4, none⟩ = some (.slice none 0 0) ∧ w'.cell? ⟨w9.heap.size, 5, none⟩ = some (.slice none 0 0) ∧ w'.cell? ⟨w9.heap.size, 6, none⟩ = some (.int .i64 0) ∧ w'.cell? ⟨w9.heap.size, 7, none⟩ = some (.int .i64 0) ∧ w'.cell? ⟨w9.heap.size, 8, none⟩ = some (.slice none 0 0) ∧ w'.cell? ⟨w9.heap.size, 9, none⟩ = some (.slice none 0 0)) ∧ w'.cell? ⟨w.heap.size, 2, none⟩ = some (.slice a 0 sc))) := hid fun w' h => by
        have h1 := heapExt h HTO.out
        have h3 := HUQ.out.trans ((HTT.out.trans (h.mono HTT.out.size)).mono HUQ.out.size)
        exact ⟨⟨cellOf h1 0, cellOf h1 1, cellOf h1 2, cellOf h1 3, cellOf h1 4, cellOf h1 5, cellOf h1 6, cellOf h1 7, cellOf h1 8, cellOf h1 9⟩, HBX3.out _ h3⟩
      have HSSL : Hid (∀ w', Calls Tryz.prog 38 #[.agg #[.int .i64 0, .int .i64 0, .int .i64 0, .string ⟨#[]⟩, .slice none 0 0, .slice none 0 0, .int .i64 0, .int .i64 0, .slice none 0 0, .slice none 0 0], .agg #[.int .i64 0, .int .i64 0, .int .i64 0, .string ⟨#[]⟩, .slice none 0 0, .slice none 0 0, .int .i64 0, .int .i64 0, .slice none 0 0, .slice none 0 0]] w' fun e w2 => e = .returned (.bool true) ∧ Below w'.heap.size w' w2) := hid fun w' => by
        have hc := sameSlot_call zeroC zeroC zeroSl zeroSl w' (zeroSl_is _ _) (zeroSl_is _ _)
        rw [slEqB_refl] at hc
        exact hc
      have k2 := HBX3.out _ (HUQ.out.trans (HTT.out.mono HUQ.out.size))
      cases fb with
      | true =>
        have hz1 : 0 < z := of_decide_eq_true HFB.out.symm
        go_upto_region 23 with (go_at_call 57; refine HSSQ.out.mono ?_; rintro e wu ⟨rfl, hbu⟩; clear k2; have k2 := HBX3.out _ (HUQ.out.trans ((HTT.out.trans (hbu.mono HTT.out.size)).mono HUQ.out.size)))
        clear k2
        refine wp_region_split 20 (fun w' => Below wt.heap.size wt w') (by kernel_rfl) (by kernel_rfl) (by kernel_rfl) (by decide) (hbu.drew) (fun hS => ?_)
        simp only [List.take_succ_cons, List.take_zero, List.drop_succ_cons, List.drop_zero]
        refine wpAnyH_take (i := 0) (oi := _) (v := ?_) rfl (by kernel_rfl) (by kernel_rfl) (by kernel_rfl) (fun _ _ _ h => h) (Or.inl ⟨by rfl, ?_⟩) hS ?_
        rotate_left
        · intro w' hw'
          have hcells := HC23.out w' hw'
          go_simp
          (try with_reducible rfl)
        simp only [Act.put, List.getElem_toArray, List.getElem_cons_succ, List.getElem_cons_zero, List.setIfInBounds_toArray, List.set_cons_zero, List.set_cons_succ]
        refine wpAnyH_take (i := 1) (oi := _) (v := ?_) rfl (by kernel_rfl) (by kernel_rfl) (by kernel_rfl) (fun _ _ _ h => h) (Or.inl ⟨by rfl, ?_⟩) hS ?_
        rotate_left
        · intro w' hw'
          have hcells := HC23.out w' hw'
          go_simp
          (try with_reducible rfl)
        simp only [Act.put, List.getElem_toArray, List.getElem_cons_succ, List.getElem_cons_zero, List.setIfInBounds_toArray, List.set_cons_zero, List.set_cons_succ]
        refine wpAnyH_take (i := 2) (oi := _) (v := ?_) rfl (by kernel_rfl) (by kernel_rfl) (by kernel_rfl) (fun _ _ _ h => h) (Or.inl ⟨by rfl, ?_⟩) hS ?_
        rotate_left
        · intro w' hw'
          have hcells := HC23.out w' hw'
          go_simp
          (try with_reducible rfl)
        simp only [Act.put, List.getElem_toArray, List.getElem_cons_succ, List.getElem_cons_zero, List.setIfInBounds_toArray, List.set_cons_zero, List.set_cons_succ]
        refine wpAnyH_take (i := 3) (oi := _) (v := ?_) rfl (by kernel_rfl) (by kernel_rfl) (by kernel_rfl) (fun _ _ _ h => h) (Or.inl ⟨by rfl, ?_⟩) hS ?_
        rotate_left
        · intro w' hw'
          have hcells := HC23.out w' hw'
          go_simp
          (try with_reducible rfl)
        simp only [Act.put, List.getElem_toArray, List.getElem_cons_succ, List.getElem_cons_zero, List.setIfInBounds_toArray, List.set_cons_zero, List.set_cons_succ]
        refine wpAnyH_take (i := 4) (oi := _) (v := ?_) rfl (by kernel_rfl) (by kernel_rfl) (by kernel_rfl) (fun _ _ _ h => h) (Or.inl ⟨by rfl, ?_⟩) hS ?_
        rotate_left
        · intro w' hw'
          have hcells := HC23.out w' hw'
          go_simp
          (try with_reducible rfl)
        simp only [Act.put, List.getElem_toArray, List.getElem_cons_succ, List.getElem_cons_zero, List.setIfInBounds_toArray, List.set_cons_zero, List.set_cons_succ]
        refine wpAnyH_ready (rs := [5]) (by kernel_rfl) (by simp) ?_
        refine AllReadyH.cons (o := _) rfl (fun K hK => ?_) AllReadyH.nil
        go_simp; go_at_call 38; refine (HSSL.out _).mono ?_
        rintro e wy ⟨rfl, hby⟩
        refine hK.out _ _ (hS.trans (hby.mono hS.size)) (fun hS => ?_)
        clear hK K
        (try simp only [Act.put, List.getElem_toArray, List.getElem_cons_succ, List.getElem_cons_zero, List.setIfInBounds_toArray, List.set_cons_zero, List.set_cons_succ])
        refine wpAnyH_take (i := 6) (oi := _) (v := ?_) rfl (by kernel_rfl) (by kernel_rfl) (by kernel_rfl) (fun _ _ _ h => h) (Or.inl ⟨by rfl, ?_⟩) hS ?_
        rotate_left
        · intro w' hw'
          have hcells := HC23.out w' hw'
          go_simp
          (try with_reducible rfl)
        simp only [Act.put, List.getElem_toArray, List.getElem_cons_succ, List.getElem_cons_zero, List.setIfInBounds_toArray, List.set_cons_zero, List.set_cons_succ]
        refine wpAnyH_take (i := 7) (oi := _) (v := ?_) rfl (by kernel_rfl) (by kernel_rfl) (by kernel_rfl) (fun _ _ _ h => h) (Or.inl ⟨by rfl, ?_⟩) hS ?_
        rotate_left
        · intro w' hw'
          have hcells := HC23.out w' hw'
          go_simp
          (try with_reducible rfl)
        simp only [Act.put, List.getElem_toArray, List.getElem_cons_succ, List.getElem_cons_zero, List.setIfInBounds_toArray, List.set_cons_zero, List.set_cons_succ]
        refine wpAnyH_take (i := 8) (oi := _) (v := undef) rfl (by kernel_rfl) (by kernel_rfl) (by kernel_rfl) (fun _ _ _ h => h) (Or.inr ⟨by rfl, rfl⟩) hS ?_
        simp only [Act.put, List.getElem_toArray, List.getElem_cons_succ, List.getElem_cons_zero, List.setIfInBounds_toArray, List.set_cons_zero, List.set_cons_succ]
        refine wpAnyH_take (i := 9) (oi := _) (v := undef) rfl (by kernel_rfl) (by kernel_rfl) (by kernel_rfl) (fun _ _ _ h => h) (Or.inr ⟨by rfl, rfl⟩) hS ?_
        simp only [Act.put, List.getElem_toArray, List.getElem_cons_succ, List.getElem_cons_zero, List.setIfInBounds_toArray, List.set_cons_zero, List.set_cons_succ]
        refine wpAnyH_take (i := 10) (oi := _) (v := undef) rfl (by kernel_rfl) (by kernel_rfl) (by kernel_rfl) (fun _ _ _ h => h) (Or.inr ⟨by rfl, rfl⟩) hS ?_
        simp only [Act.put, List.getElem_toArray, List.getElem_cons_succ, List.getElem_cons_zero, List.setIfInBounds_toArray, List.set_cons_zero, List.set_cons_succ]
        refine wpAnyH_take (i := 11) (oi := _) (v := undef) rfl (by kernel_rfl) (by kernel_rfl) (by kernel_rfl) (fun _ _ _ h => h) (Or.inr ⟨by rfl, rfl⟩) hS ?_
        simp only [Act.put, List.getElem_toArray, List.getElem_cons_succ, List.getElem_cons_zero, List.setIfInBounds_toArray, List.set_cons_zero, List.set_cons_succ]
        refine wpAnyH_take (i := 12) (oi := _) (v := undef) rfl (by kernel_rfl) (by kernel_rfl) (by kernel_rfl) (fun _ _ _ h => h) (Or.inr ⟨by rfl, rfl⟩) hS ?_
        simp only [Act.put, List.getElem_toArray, List.getElem_cons_succ, List.getElem_cons_zero, List.setIfInBounds_toArray, List.set_cons_zero, List.set_cons_succ]
        refine wpAnyH_take (i := 13) (oi := _) (v := undef) rfl (by kernel_rfl) (by kernel_rfl) (by kernel_rfl) (fun _ _ _ h => h) (Or.inr ⟨by rfl, rfl⟩) hS ?_
        simp only [Act.put, List.getElem_toArray, List.getElem_cons_succ, List.getElem_cons_zero, List.setIfInBounds_toArray, List.set_cons_zero, List.set_cons_succ]
        refine wpAnyH_take (i := 14) (oi := _) (v := undef) rfl (by kernel_rfl) (by kernel_rfl) (by kernel_rfl) (fun _ _ _ h => h) (Or.inr ⟨by rfl, rfl⟩) hS ?_
        simp only [Act.put, List.getElem_toArray, List.getElem_cons_succ, List.getElem_cons_zero, List.setIfInBounds_toArray, List.set_cons_zero, List.set_cons_succ]
        refine wpAnyH_take (i := 15) (oi := _) (v := undef) rfl (by kernel_rfl) (by kernel_rfl) (by kernel_rfl) (fun _ _ _ h => h) (Or.inr ⟨by rfl, rfl⟩) hS ?_
        simp only [Act.put, List.getElem_toArray, List.getElem_cons_succ, List.getElem_cons_zero, List.setIfInBounds_toArray, List.set_cons_zero, List.set_cons_succ]
        refine wpAnyH_take (i := 16) (oi := _) (v := undef) rfl (by kernel_rfl) (by kernel_rfl) (by kernel_rfl) (fun _ _ _ h => h) (Or.inr ⟨by rfl, rfl⟩) hS ?_
        simp only [Act.put, List.getElem_toArray, List.getElem_cons_succ, List.getElem_cons_zero, List.setIfInBounds_toArray, List.set_cons_zero, List.set_cons_succ]
        refine wpAnyH_take (i := 17) (oi := _) (v := undef) rfl (by kernel_rfl) (by kernel_rfl) (by kernel_rfl) (fun _ _ _ h => h) (Or.inr ⟨by rfl, rfl⟩) hS ?_
        simp only [Act.put, List.getElem_toArray, List.getElem_cons_succ, List.getElem_cons_zero, List.setIfInBounds_toArray, List.set_cons_zero, List.set_cons_succ]
        refine wpAnyH_take (i := 18) (oi := _) (v := ?_) rfl (by kernel_rfl) (by kernel_rfl) (by kernel_rfl) (fun _ _ _ h => h) (Or.inl ⟨by rfl, ?_⟩) hS ?_
        rotate_left
        · intro w' hw'
          have hcells := HC23.out w' hw'
          go_simp
          (try with_reducible rfl)
        simp only [Act.put, List.getElem_toArray, List.getElem_cons_succ, List.getElem_cons_zero, List.setIfInBounds_toArray, List.set_cons_zero, List.set_cons_succ]
        refine wpAnyH_take (i := 19) (oi := _) (v := ?_) rfl (by kernel_rfl) (by kernel_rfl) (by kernel_rfl) (fun _ _ _ h => h) (Or.inl ⟨by rfl, ?_⟩) hS ?_
        rotate_left
        · intro w' hw'
          have hcells := HC23.out w' hw'
          go_simp
          (try with_reducible rfl)
        simp only [Act.put, List.getElem_toArray, List.getElem_cons_succ, List.getElem_cons_zero, List.setIfInBounds_toArray, List.set_cons_zero, List.set_cons_succ]
        refine wpAnyH_done (by kernel_rfl) ?_ _
        (try dsimp only)
        have HBF := hid hS
        clear hS
        go_wp2
        go_ret
        exact ⟨rfl, HU3.out _ (HUQ.out.trans ((HTT.out.trans (HBF.out.mono HTT.out.size)).mono HUQ.out.size))⟩
      | false =>
        have hz1 : ¬ 0 < z := of_decide_eq_false HFB.out.symm
        go_upto_region 23 with (go_at_call 57; refine HSSQ.out.mono ?_; rintro e wu ⟨rfl, hbu⟩; clear k2; have k2 := HBX3.out _ (HUQ.out.trans ((HTT.out.trans (hbu.mono HTT.out.size)).mono HUQ.out.size)))
        clear k2
        refine wp_region_split 20 (fun w' => Below wt.heap.size wt w') (by kernel_rfl) (by kernel_rfl) (by kernel_rfl) (by decide) (hbu.drew) (fun hS => ?_)
        simp only [List.take_succ_cons, List.take_zero, List.drop_succ_cons, List.drop_zero]
        refine wpAnyH_take (i := 0) (oi := _) (v := ?_) rfl (by kernel_rfl) (by kernel_rfl) (by kernel_rfl) (fun _ _ _ h => h) (Or.inl ⟨by rfl, ?_⟩) hS ?_
        rotate_left
        · intro w' hw'
          have hcells := HC23.out w' hw'
          go_simp
          (try with_reducible rfl)
        simp only [Act.put, List.getElem_toArray, List.getElem_cons_succ, List.getElem_cons_zero, List.setIfInBounds_toArray, List.set_cons_zero, List.set_cons_succ]
        refine wpAnyH_take (i := 1) (oi := _) (v := ?_) rfl (by kernel_rfl) (by kernel_rfl) (by kernel_rfl) (fun _ _ _ h => h) (Or.inl ⟨by rfl, ?_⟩) hS ?_
        rotate_left
        · intro w' hw'
          have hcells := HC23.out w' hw'
          go_simp
          (try with_reducible rfl)
        simp only [Act.put, List.getElem_toArray, List.getElem_cons_succ, List.getElem_cons_zero, List.setIfInBounds_toArray, List.set_cons_zero, List.set_cons_succ]
        refine wpAnyH_take (i := 2) (oi := _) (v := ?_) rfl (by kernel_rfl) (by kernel_rfl) (by kernel_rfl) (fun _ _ _ h => h) (Or.inl ⟨by rfl, ?_⟩) hS ?_
        rotate_left
        · intro w' hw'
          have hcells := HC23.out w' hw'
          go_simp
          (try with_reducible rfl)
        simp only [Act.put, List.getElem_toArray, List.getElem_cons_succ, List.getElem_cons_zero, List.setIfInBounds_toArray, List.set_cons_zero, List.set_cons_succ]
        refine wpAnyH_take (i := 3) (oi := _) (v := ?_) rfl (by kernel_rfl) (by kernel_rfl) (by kernel_rfl) (fun _ _ _ h => h) (Or.inl ⟨by rfl, ?_⟩) hS ?_
        rotate_left
        · intro w' hw'
          have hcells := HC23.out w' hw'
          go_simp
          (try with_reducible rfl)
        simp only [Act.put, List.getElem_toArray, List.getElem_cons_succ, List.getElem_cons_zero, List.setIfInBounds_toArray, List.set_cons_zero, List.set_cons_succ]
        refine wpAnyH_take (i := 4) (oi := _) (v := ?_) rfl (by kernel_rfl) (by kernel_rfl) (by kernel_rfl) (fun _ _ _ h => h) (Or.inl ⟨by rfl, ?_⟩) hS ?_
        rotate_left
        · intro w' hw'
          have hcells := HC23.out w' hw'
          go_simp
          (try with_reducible rfl)
        simp only [Act.put, List.getElem_toArray, List.getElem_cons_succ, List.getElem_cons_zero, List.setIfInBounds_toArray, List.set_cons_zero, List.set_cons_succ]
        refine wpAnyH_ready (rs := [5]) (by kernel_rfl) (by simp) ?_
        refine AllReadyH.cons (o := _) rfl (fun K hK => ?_) AllReadyH.nil
        go_simp; go_at_call 38; refine (HSSL.out _).mono ?_
        rintro e wy ⟨rfl, hby⟩
        refine hK.out _ _ (hS.trans (hby.mono hS.size)) (fun hS => ?_)
        clear hK K
        (try simp only [Act.put, List.getElem_toArray, List.getElem_cons_succ, List.getElem_cons_zero, List.setIfInBounds_toArray, List.set_cons_zero, List.set_cons_succ])
        refine wpAnyH_take (i := 6) (oi := _) (v := ?_) rfl (by kernel_rfl) (by kernel_rfl) (by kernel_rfl) (fun _ _ _ h => h) (Or.inl ⟨by rfl, ?_⟩) hS ?_
        rotate_left
        · intro w' hw'
          have hcells := HC23.out w' hw'
          go_simp
          (try with_reducible rfl)
        simp only [Act.put, List.getElem_toArray, List.getElem_cons_succ, List.getElem_cons_zero, List.setIfInBounds_toArray, List.set_cons_zero, List.set_cons_succ]
        refine wpAnyH_take (i := 7) (oi := _) (v := ?_) rfl (by kernel_rfl) (by kernel_rfl) (by kernel_rfl) (fun _ _ _ h => h) (Or.inl ⟨by rfl, ?_⟩) hS ?_
        rotate_left
        · intro w' hw'
          have hcells := HC23.out w' hw'
          go_simp
          (try with_reducible rfl)
        simp only [Act.put, List.getElem_toArray, List.getElem_cons_succ, List.getElem_cons_zero, List.setIfInBounds_toArray, List.set_cons_zero, List.set_cons_succ]
        refine wpAnyH_take (i := 8) (oi := _) (v := undef) rfl (by kernel_rfl) (by kernel_rfl) (by kernel_rfl) (fun _ _ _ h => h) (Or.inr ⟨by rfl, rfl⟩) hS ?_
        simp only [Act.put, List.getElem_toArray, List.getElem_cons_succ, List.getElem_cons_zero, List.setIfInBounds_toArray, List.set_cons_zero, List.set_cons_succ]
        refine wpAnyH_take (i := 9) (oi := _) (v := undef) rfl (by kernel_rfl) (by kernel_rfl) (by kernel_rfl) (fun _ _ _ h => h) (Or.inr ⟨by rfl, rfl⟩) hS ?_
        simp only [Act.put, List.getElem_toArray, List.getElem_cons_succ, List.getElem_cons_zero, List.setIfInBounds_toArray, List.set_cons_zero, List.set_cons_succ]
        refine wpAnyH_take (i := 10) (oi := _) (v := undef) rfl (by kernel_rfl) (by kernel_rfl) (by kernel_rfl) (fun _ _ _ h => h) (Or.inr ⟨by rfl, rfl⟩) hS ?_
        simp only [Act.put, List.getElem_toArray, List.getElem_cons_succ, List.getElem_cons_zero, List.setIfInBounds_toArray, List.set_cons_zero, List.set_cons_succ]
        refine wpAnyH_take (i := 11) (oi := _) (v := undef) rfl (by kernel_rfl) (by kernel_rfl) (by kernel_rfl) (fun _ _ _ h => h) (Or.inr ⟨by rfl, rfl⟩) hS ?_
        simp only [Act.put, List.getElem_toArray, List.getElem_cons_succ, List.getElem_cons_zero, List.setIfInBounds_toArray, List.set_cons_zero, List.set_cons_succ]
        refine wpAnyH_take (i := 12) (oi := _) (v := undef) rfl (by kernel_rfl) (by kernel_rfl) (by kernel_rfl) (fun _ _ _ h => h) (Or.inr ⟨by rfl, rfl⟩) hS ?_
        simp only [Act.put, List.getElem_toArray, List.getElem_cons_succ, List.getElem_cons_zero, List.setIfInBounds_toArray, List.set_cons_zero, List.set_cons_succ]
        refine wpAnyH_take (i := 13) (oi := _) (v := undef) rfl (by kernel_rfl) (by kernel_rfl) (by kernel_rfl) (fun _ _ _ h => h) (Or.inr ⟨by rfl, rfl⟩) hS ?_
        simp only [Act.put, List.getElem_toArray, List.getElem_cons_succ, List.getElem_cons_zero, List.setIfInBounds_toArray, List.set_cons_zero, List.set_cons_succ]
        refine wpAnyH_take (i := 14) (oi := _) (v := undef) rfl (by kernel_rfl) (by kernel_rfl) (by kernel_rfl) (fun _ _ _ h => h) (Or.inr ⟨by rfl, rfl⟩) hS ?_
        simp only [Act.put, List.getElem_toArray, List.getElem_cons_succ, List.getElem_cons_zero, List.setIfInBounds_toArray, List.set_cons_zero, List.set_cons_succ]
        refine wpAnyH_take (i := 15) (oi := _) (v := undef) rfl (by kernel_rfl) (by kernel_rfl) (by kernel_rfl) (fun _ _ _ h => h) (Or.inr ⟨by rfl, rfl⟩) hS ?_
        simp only [Act.put, List.getElem_toArray, List.getElem_cons_succ, List.getElem_cons_zero, List.setIfInBounds_toArray, List.set_cons_zero, List.set_cons_succ]
        refine wpAnyH_take (i := 16) (oi := _) (v := undef) rfl (by kernel_rfl) (by kernel_rfl) (by kernel_rfl) (fun _ _ _ h => h) (Or.inr ⟨by rfl, rfl⟩) hS ?_
        simp only [Act.put, List.getElem_toArray, List.getElem_cons_succ, List.getElem_cons_zero, List.setIfInBounds_toArray, List.set_cons_zero, List.set_cons_succ]
        refine wpAnyH_take (i := 17) (oi := _) (v := undef) rfl (by kernel_rfl) (by kernel_rfl) (by kernel_rfl) (fun _ _ _ h => h) (Or.inr ⟨by rfl, rfl⟩) hS ?_
        simp only [Act.put, List.getElem_toArray, List.getElem_cons_succ, List.getElem_cons_zero, List.setIfInBounds_toArray, List.set_cons_zero, List.set_cons_succ]
        refine wpAnyH_take (i := 18) (oi := _) (v := ?_) rfl (by kernel_rfl) (by kernel_rfl) (by kernel_rfl) (fun _ _ _ h => h) (Or.inl ⟨by rfl, ?_⟩) hS ?_
        rotate_left
        · intro w' hw'
          have hcells := HC23.out w' hw'
          go_simp
          (try with_reducible rfl)
        simp only [Act.put, List.getElem_toArray, List.getElem_cons_succ, List.getElem_cons_zero, List.setIfInBounds_toArray, List.set_cons_zero, List.set_cons_succ]
        refine wpAnyH_take (i := 19) (oi := _) (v := ?_) rfl (by kernel_rfl) (by kernel_rfl) (by kernel_rfl) (fun _ _ _ h => h) (Or.inl ⟨by rfl, ?_⟩) hS ?_
        rotate_left
        · intro w' hw'
          have hcells := HC23.out w' hw'
          go_simp
          (try with_reducible rfl)
        simp only [Act.put, List.getElem_toArray, List.getElem_cons_succ, List.getElem_cons_zero, List.setIfInBounds_toArray, List.set_cons_zero, List.set_cons_succ]
        refine wpAnyH_done (by kernel_rfl) ?_ _
        (try dsimp only)
        have HBF := hid hS
        clear hS
        go_wp2
        go_ret
        exact ⟨rfl, HU3.out _ (HUQ.out.trans ((HTT.out.trans (HBF.out.mono HTT.out.size)).mono HUQ.out.size))⟩
    · obtain ⟨b, o, hab, hb, hy⟩ := HD.out.l.slot (show 0 < sl by omega)
      subst hab
      have hjl : j < d.l.length := by have := HTR.out.hj; have h2 := oldI_lt d.l sl (by omega); have := HL.out; omega
      obtain ⟨yj, hja, hji⟩ := hy j hjl
      have HJI := hid hji
      have HJA := hid (show AtG slK w b (o + j * 10) yj from hja)
      have HOL9 := hid (show oldI d.l d.l.length < d.l.length by have h2 := oldI_lt d.l d.l.length (by have := HL.out; omega); exact h2)
      have HJD := hid (show d.l[oldI d.l d.l.length]'HOL9.out = d.l[j] by congr 1; rw [← HL.out, HTR.out.hj])
      have HBB := hid hb
      have hjs : (j : Int) < (sl : Int) := by have := HL.out; omega
      have hj0 : (0 : Int) ≤ (j : Int) := by omega
      have hsp : (0 : Int) < (sl : Int) := by omega
      have hspn : 0 < sl := by omega
      have hsd1 : decide ((0 : Int) < (sl : Int)) = true := decide_eq_true hsp
      have hsd2 : decide (0 < sl) = true := decide_eq_true hspn
      clear hb hy hja hji
      have HDU : Hid (∀ w', Below w3.heap.size w3 w' → Calls Tryz.prog 54 #[.agg #[.int .i64 sn, .int .i64 st, .slice (some ⟨b, o, none⟩) sl sc]] w' fun e w2 => e = .returned (.tuple #[.int .i64 z, .bool fb]) ∧ Below w'.heap.size w' w2) := hid fun w' h => by
        have hc := due_call ⟨sn, st, (some ⟨b, o, none⟩), sl, sc⟩ d w' (HST3.out w' h) (by have := HL.out; omega)
        rw [DuePost_eq, ← HZL.out, ← HFB.out] at hc
        exact hc
      have HEXP : Hid (∀ w', Below w3.heap.size w3 w' → Calls Tryz.prog 55 #[.agg #[.int .i64 sn, .int .i64 st, .slice (some ⟨b, o, none⟩) sl sc], .int .i64 now] w' (ExpPost w' now d.l)) := hid fun w' h => expired_call ⟨sn, st, (some ⟨b, o, none⟩), sl, sc⟩ d now w' (HST3.out w' h) (by have := HL.out; omega)
      have HOL : Hid (∀ w', Below w3.heap.size w3 w' → Calls Tryz.prog 56 #[.agg #[.int .i64 sn, .int .i64 st, .slice (some ⟨b, o, none⟩) sl sc]] w' (OldPost w' d.l)) := hid fun w' h => oldest_call ⟨sn, st, (some ⟨b, o, none⟩), sl, sc⟩ d w' (HST3.out w' h) (by have := HL.out; omega) (by have := HL.out; omega)
      have HKQ := hid (show Below w3.heap.size w3 wq from HUQ.out)
      obtain ⟨k0, k1, k2⟩ := HBY3.out _ HUQ.out
      go_upto_region 21 with (first
        | (go_at_call 56; refine (HOL.out _ hbe').mono ?_; rintro e w9 ⟨c9, rfl, hbo, hi9⟩; have hbo' := hbe'.trans (hbo.mono hbe'.size))
        | (go_at_call 55; refine (HEXP.out _ hbd').mono ?_; rintro e w8 ⟨aE, mE, cE, rfl, hbe, hre⟩; have hbe' := hbd'.trans (hbe.mono hbd'.size); have HRE := hid hre; clear hre; clear k0 k1 k2; obtain ⟨k0, k1, k2⟩ := HBY3.out _ hbe')
        | (go_at_call 54; refine (HDU.out _ HUQ.out).mono ?_; rintro e w7 ⟨rfl, hbd⟩; have hbd' := HUQ.out.trans (hbd.mono HUQ.out.size); clear k0 k1 k2; obtain ⟨k0, k1, k2⟩ := HBY3.out _ hbd'))
      clear k0 k1 k2
      obtain ⟨wt, hwt⟩ : ∃ u, u = w9.alloc (.cells #[.int .i64 c9.k.k, .int .i64 c9.k.i, .int .i64 c9.k.s, .string c9.k.t, .slice c9.k.la c9.k.ll c9.k.lc, .slice c9.k.fa c9.k.fl c9.k.fc, .int .i64 c9.n, .int .i64 c9.t, .slice c9.ia c9.il c9.ic, .slice c9.va c9.vl c9.vc] 58) := ⟨_, rfl⟩
      rw [← hwt]
      have HTA := hid (show Below w9.heap.size w9 wt by rw [hwt]; exact (Below.refl _ _).alloc (Nat.le_refl _) _)
      have HTO := hid (show wt.heap[w9.heap.size]? = some (.cells #[.int .i64 c9.k.k, .int .i64 c9.k.i, .int .i64 c9.k.s, .string c9.k.t, .slice c9.k.la c9.k.ll c9.k.lc, .slice c9.k.fa c9.k.fl c9.k.fc, .int .i64 c9.n, .int .i64 c9.t, .slice c9.ia c9.il c9.ic, .slice c9.va c9.vl c9.vc] 58) by rw [hwt]; exact heap_alloc_new w9 _)
      have HTE := hid (show Below w8.heap.size w8 wt from hbo.trans (HTA.out.mono hbo.size))
      have HTT := hid (show Below wq.heap.size wq wt from hbd.trans ((hbe.trans (HTE.out.mono hbe.size)).mono hbd.size))
      have HI9 := hid hi9
      clear hwt
      have HSSQ : Hid (Calls Tryz.prog 57 #[.slice aE mE cE, .slice av m cv] wt fun e w2 => e = .returned (.bool true) ∧ Below wt.heap.size wt w2) := hid (by
        have hk := HKW.out.ext (Nat.le_trans HW3.out HUQ.out.size) HTT.out
        have h1 : IsRow slK (· < wt.heap.size) wt av m cv (sortT ltDS (expL now d.l) (expL now d.l).length) := by
          have h := hk.row (Nat.le_trans (Nat.le_trans HW3.out HUQ.out.size) HTT.out.size) (by dsimp only; omega)
          rw [HWE.out] at h
          exact h
        have h2 : IsRow slK (· < wt.heap.size) wt aE mE cE (sortT ltDS (expL now d.l) (expL now d.l).length) := HRE.out.same fun b q => ⟨Nat.lt_of_lt_of_le q.2 HTE.out.size, HTE.out.block b q.2⟩
        have hc := sameSlots_call aE av mE cE m cv _ _ wt h2 h1
        rw [eqL_refl slEqB_refl] at hc
        exact hc)
      have HC23 : Hid (∀ w', Below wt.heap.size wt w' → ((w'.cell? ⟨w9.heap.size, 0, none⟩ = some (.int .i64 c9.k.k) ∧ w'.cell? ⟨w9.heap.size, 1, none⟩ = some (.int .i64 c9.k.i) ∧ w'.cell? ⟨w9.heap.size, 2, none⟩ = some (.int .i64 c9.k.s) ∧ w'.cell? ⟨w9.heap.size, 3, none⟩ = some (.string c9.k.t) ∧ w'.cell? ⟨w9.heap.size, 4, none⟩ = some (.slice c9.k.la c9.k.ll c9.k.lc) ∧ w'.cell? ⟨w9.heap.size, 5, none⟩ = some (.slice c9.k.fa c9.k.fl c9.k.fc) ∧ w'.cell? ⟨w9.heap.size, 6, none⟩ = some (.int .i64 c9.n) ∧ w'.cell? ⟨w9.heap.size, 7, none⟩ = some (.int .i64 c9.t) ∧ w'.cell? ⟨w9.heap.size, 8, none⟩ = some (.slice c9.ia c9.il c9.ic) ∧ w'.cell? ⟨w9.heap.size, 9, none⟩ = some (.slice c9.va c9.vl c9.vc)) ∧ w'.cell? ⟨w.heap.size, 2, none⟩ = some (.slice (some ⟨b, o, none⟩) sl sc) ∧ (w'.cell? ⟨b, o + j * 10, none⟩ = some (.int .i64 yj.k.k) ∧ w'.cell? ⟨b, o + j * 10 + 1, none⟩ = some (.int .i64 yj.k.i) ∧ w'.cell? ⟨b, o + j * 10 + 2, none⟩ = some (.int .i64 yj.k.s) ∧ w'.cell? ⟨b, o + j * 10 + 3, none⟩ = some (.string yj.k.t) ∧ w'.cell? ⟨b, o + j * 10 + 4, none⟩ = some (.slice yj.k.la yj.k.ll yj.k.lc) ∧ w'.cell? ⟨b, o + j * 10 + 5, none⟩ = some (.slice yj.k.fa yj.k.fl yj.k.fc) ∧ w'.cell? ⟨b, o + j * 10 + 6, none⟩ = some (.int .i64 yj.n) ∧ w'.cell? ⟨b, o + j * 10 + 7, none⟩ = some (.int .i64 yj.t) ∧ w'.cell? ⟨b, o + j * 10 + 8, none⟩ = some (.slice yj.ia yj.il yj.ic) ∧ w'.cell? ⟨b, o + j * 10 + 9, none⟩ = some (.slice yj.va yj.vl yj.vc)))) := hid fun w' h => by
        have h1 := heapExt h HTO.out
        have h3 := HUQ.out.trans ((HTT.out.trans (h.mono HTT.out.size)).mono HUQ.out.size)
        exact ⟨⟨cellOf h1 0, cellOf h1 1, cellOf h1 2, cellOf h1 3, cellOf h1 4, cellOf h1 5, cellOf h1 6, cellOf h1 7, cellOf h1 8, cellOf h1 9⟩, ⟨HBX3.out _ h3, (HJA.out.same ((HU3.out _ h3).block b HBB.out)).slot⟩⟩
      have HSSL : Hid (∀ w', Below wt.heap.size wt w' → Calls Tryz.prog 38 #[.agg #[.int .i64 c9.k.k, .int .i64 c9.k.i, .int .i64 c9.k.s, .string c9.k.t, .slice c9.k.la c9.k.ll c9.k.lc, .slice c9.k.fa c9.k.fl c9.k.fc, .int .i64 c9.n, .int .i64 c9.t, .slice c9.ia c9.il c9.ic, .slice c9.va c9.vl c9.vc], .agg #[.int .i64 yj.k.k, .int .i64 yj.k.i, .int .i64 yj.k.s, .string yj.k.t, .slice yj.k.la yj.k.ll yj.k.lc, .slice yj.k.fa yj.k.fl yj.k.fc, .int .i64 yj.n, .int .i64 yj.t, .slice yj.ia yj.il yj.ic, .slice yj.va yj.vl yj.vc]] w' fun e w2 => e = .returned (.bool true) ∧ Below w'.heap.size w' w2) := hid fun w' h => by
        have h1 := HTT.out.trans (h.mono HTT.out.size)
        have h2 := HU3.out _ (HUQ.out.trans (h1.mono HUQ.out.size))
        have hc := sameSlot_call c9 yj _ _ w' ((HI9.out HOL9.out).same fun b q => ⟨Nat.lt_of_lt_of_le q (Nat.le_trans HTA.out.size h.size), (h.block b (Nat.lt_of_lt_of_le q HTA.out.size)).trans (HTA.out.block b q)⟩) (HJI.out.same fun b q => ⟨Nat.lt_of_lt_of_le q h2.size, h2.block b q⟩)
        rw [HJD.out, slEqB_refl] at hc
        exact hc
      have k2 := HBX3.out _ (HUQ.out.trans (HTT.out.mono HUQ.out.size))
      cases fb with
      | true =>
        have hz1 : 0 < z := of_decide_eq_true HFB.out.symm
        go_upto_region 23 with (go_at_call 57; refine HSSQ.out.mono ?_; rintro e wu ⟨rfl, hbu⟩; clear k2; have k2 := HBX3.out _ (HUQ.out.trans ((HTT.out.trans (hbu.mono HTT.out.size)).mono HUQ.out.size)))
        clear k2
        refine wp_region_split 20 (fun w' => Below wt.heap.size wt w') (by kernel_rfl) (by kernel_rfl) (by kernel_rfl) (by decide) (hbu.drew) (fun hS => ?_)
        simp only [List.take_succ_cons, List.take_zero, List.drop_succ_cons, List.drop_zero]
        refine wpAnyH_take (i := 0) (oi := _) (v := ?_) rfl (by kernel_rfl) (by kernel_rfl) (by kernel_rfl) (fun _ _ _ h => h) (Or.inl ⟨by rfl, ?_⟩) hS ?_
        rotate_left
        · intro w' hw'
          have hcells := HC23.out w' hw'
          go_simp
          (try with_reducible rfl)
        simp only [Act.put, List.getElem_toArray, List.getElem_cons_succ, List.getElem_cons_zero, List.setIfInBounds_toArray, List.set_cons_zero, List.set_cons_succ]
        refine wpAnyH_take (i := 1) (oi := _) (v := ?_) rfl (by kernel_rfl) (by kernel_rfl) (by kernel_rfl) (fun _ _ _ h => h) (Or.inl ⟨by rfl, ?_⟩) hS ?_
        rotate_left
        · intro w' hw'
          have hcells := HC23.out w' hw'
          go_simp
          (try with_reducible rfl)
        simp only [Act.put, List.getElem_toArray, List.getElem_cons_succ, List.getElem_cons_zero, List.setIfInBounds_toArray, List.set_cons_zero, List.set_cons_succ]
        refine wpAnyH_take (i := 2) (oi := _) (v := ?_) rfl (by kernel_rfl) (by kernel_rfl) (by kernel_rfl) (fun _ _ _ h => h) (Or.inl ⟨by rfl, ?_⟩) hS ?_
        rotate_left
        · intro w' hw'
          have hcells := HC23.out w' hw'
          go_simp
          (try with_reducible rfl)
        simp only [Act.put, List.getElem_toArray, List.getElem_cons_succ, List.getElem_cons_zero, List.setIfInBounds_toArray, List.set_cons_zero, List.set_cons_succ]
        refine wpAnyH_take (i := 3) (oi := _) (v := undef) rfl (by kernel_rfl) (by kernel_rfl) (by kernel_rfl) (fun _ _ _ h => h) (Or.inr ⟨by rfl, rfl⟩) hS ?_
        simp only [Act.put, List.getElem_toArray, List.getElem_cons_succ, List.getElem_cons_zero, List.setIfInBounds_toArray, List.set_cons_zero, List.set_cons_succ]
        refine wpAnyH_take (i := 4) (oi := _) (v := undef) rfl (by kernel_rfl) (by kernel_rfl) (by kernel_rfl) (fun _ _ _ h => h) (Or.inr ⟨by rfl, rfl⟩) hS ?_
        simp only [Act.put, List.getElem_toArray, List.getElem_cons_succ, List.getElem_cons_zero, List.setIfInBounds_toArray, List.set_cons_zero, List.set_cons_succ]
        refine wpAnyH_take (i := 5) (oi := _) (v := undef) rfl (by kernel_rfl) (by kernel_rfl) (by kernel_rfl) (fun _ _ _ h => h) (Or.inr ⟨by rfl, rfl⟩) hS ?_
        simp only [Act.put, List.getElem_toArray, List.getElem_cons_succ, List.getElem_cons_zero, List.setIfInBounds_toArray, List.set_cons_zero, List.set_cons_succ]
        refine wpAnyH_take (i := 6) (oi := _) (v := ?_) rfl (by kernel_rfl) (by kernel_rfl) (by kernel_rfl) (fun _ _ _ h => h) (Or.inl ⟨by rfl, ?_⟩) hS ?_
        rotate_left
        · intro w' hw'
          have hcells := HC23.out w' hw'
          go_simp
          (try with_reducible rfl)
        simp only [Act.put, List.getElem_toArray, List.getElem_cons_succ, List.getElem_cons_zero, List.setIfInBounds_toArray, List.set_cons_zero, List.set_cons_succ]
        refine wpAnyH_take (i := 7) (oi := _) (v := ?_) rfl (by kernel_rfl) (by kernel_rfl) (by kernel_rfl) (fun _ _ _ h => h) (Or.inl ⟨by rfl, ?_⟩) hS ?_
        rotate_left
        · intro w' hw'
          have hcells := HC23.out w' hw'
          go_simp
          (try with_reducible rfl)
        simp only [Act.put, List.getElem_toArray, List.getElem_cons_succ, List.getElem_cons_zero, List.setIfInBounds_toArray, List.set_cons_zero, List.set_cons_succ]
        refine wpAnyH_take (i := 8) (oi := _) (v := ?_) rfl (by kernel_rfl) (by kernel_rfl) (by kernel_rfl) (fun _ _ _ h => h) (Or.inl ⟨by rfl, ?_⟩) hS ?_
        rotate_left
        · intro w' hw'
          have hcells := HC23.out w' hw'
          go_simp
          (try with_reducible rfl)
        simp only [Act.put, List.getElem_toArray, List.getElem_cons_succ, List.getElem_cons_zero, List.setIfInBounds_toArray, List.set_cons_zero, List.set_cons_succ]
        refine wpAnyH_take (i := 9) (oi := _) (v := ?_) rfl (by kernel_rfl) (by kernel_rfl) (by kernel_rfl) (fun _ _ _ h => h) (Or.inl ⟨by rfl, ?_⟩) hS ?_
        rotate_left
        · intro w' hw'
          have hcells := HC23.out w' hw'
          go_simp
          (try with_reducible rfl)
        simp only [Act.put, List.getElem_toArray, List.getElem_cons_succ, List.getElem_cons_zero, List.setIfInBounds_toArray, List.set_cons_zero, List.set_cons_succ]
        refine wpAnyH_take (i := 10) (oi := _) (v := ?_) rfl (by kernel_rfl) (by kernel_rfl) (by kernel_rfl) (fun _ _ _ h => h) (Or.inl ⟨by rfl, ?_⟩) hS ?_
        rotate_left
        · intro w' hw'
          have hcells := HC23.out w' hw'
          go_simp
          (try with_reducible rfl)
        simp only [Act.put, List.getElem_toArray, List.getElem_cons_succ, List.getElem_cons_zero, List.setIfInBounds_toArray, List.set_cons_zero, List.set_cons_succ]
        refine wpAnyH_take (i := 11) (oi := _) (v := ?_) rfl (by kernel_rfl) (by kernel_rfl) (by kernel_rfl) (fun _ _ _ h => h) (Or.inl ⟨by rfl, ?_⟩) hS ?_
        rotate_left
        · intro w' hw'
          have hcells := HC23.out w' hw'
          go_simp
          (try with_reducible rfl)
        simp only [Act.put, List.getElem_toArray, List.getElem_cons_succ, List.getElem_cons_zero, List.setIfInBounds_toArray, List.set_cons_zero, List.set_cons_succ]
        refine wpAnyH_take (i := 12) (oi := _) (v := ?_) rfl (by kernel_rfl) (by kernel_rfl) (by kernel_rfl) (fun _ _ _ h => h) (Or.inl ⟨by rfl, ?_⟩) hS ?_
        rotate_left
        · intro w' hw'
          have hcells := HC23.out w' hw'
          go_simp
          (try with_reducible rfl)
        simp only [Act.put, List.getElem_toArray, List.getElem_cons_succ, List.getElem_cons_zero, List.setIfInBounds_toArray, List.set_cons_zero, List.set_cons_succ]
        refine wpAnyH_take (i := 13) (oi := _) (v := ?_) rfl (by kernel_rfl) (by kernel_rfl) (by kernel_rfl) (fun _ _ _ h => h) (Or.inl ⟨by rfl, ?_⟩) hS ?_
        rotate_left
        · intro w' hw'
          have hcells := HC23.out w' hw'
          go_simp
          (try with_reducible rfl)
        simp only [Act.put, List.getElem_toArray, List.getElem_cons_succ, List.getElem_cons_zero, List.setIfInBounds_toArray, List.set_cons_zero, List.set_cons_succ]
        refine wpAnyH_take (i := 14) (oi := _) (v := ?_) rfl (by kernel_rfl) (by kernel_rfl) (by kernel_rfl) (fun _ _ _ h => h) (Or.inl ⟨by rfl, ?_⟩) hS ?_
        rotate_left
        · intro w' hw'
          have hcells := HC23.out w' hw'
          go_simp
          (try with_reducible rfl)
        simp only [Act.put, List.getElem_toArray, List.getElem_cons_succ, List.getElem_cons_zero, List.setIfInBounds_toArray, List.set_cons_zero, List.set_cons_succ]
        refine wpAnyH_take (i := 15) (oi := _) (v := ?_) rfl (by kernel_rfl) (by kernel_rfl) (by kernel_rfl) (fun _ _ _ h => h) (Or.inl ⟨by rfl, ?_⟩) hS ?_
        rotate_left
        · intro w' hw'
          have hcells := HC23.out w' hw'
          go_simp
          (try with_reducible rfl)
        simp only [Act.put, List.getElem_toArray, List.getElem_cons_succ, List.getElem_cons_zero, List.setIfInBounds_toArray, List.set_cons_zero, List.set_cons_succ]
        refine wpAnyH_ready (rs := [16]) (by kernel_rfl) (by simp) ?_
        refine AllReadyH.cons (o := _) rfl (fun K hK => ?_) AllReadyH.nil
        go_simp; go_at_call 38; refine (HSSL.out _ hS).mono ?_
        rintro e wy ⟨rfl, hby⟩
        refine hK.out _ _ (hS.trans (hby.mono hS.size)) (fun hS => ?_)
        clear hK K
        (try simp only [Act.put, List.getElem_toArray, List.getElem_cons_succ, List.getElem_cons_zero, List.setIfInBounds_toArray, List.set_cons_zero, List.set_cons_succ])
        refine wpAnyH_take (i := 17) (oi := _) (v := ?_) rfl (by kernel_rfl) (by kernel_rfl) (by kernel_rfl) (fun _ _ _ h => h) (Or.inl ⟨by rfl, ?_⟩) hS ?_
        rotate_left
        · intro w' hw'
          have hcells := HC23.out w' hw'
          go_simp
          (try with_reducible rfl)
        simp only [Act.put, List.getElem_toArray, List.getElem_cons_succ, List.getElem_cons_zero, List.setIfInBounds_toArray, List.set_cons_zero, List.set_cons_succ]
        refine wpAnyH_take (i := 18) (oi := _) (v := ?_) rfl (by kernel_rfl) (by kernel_rfl) (by kernel_rfl) (fun _ _ _ h => h) (Or.inl ⟨by rfl, ?_⟩) hS ?_
        rotate_left
        · intro w' hw'
          have hcells := HC23.out w' hw'
          go_simp
          (try with_reducible rfl)
        simp only [Act.put, List.getElem_toArray, List.getElem_cons_succ, List.getElem_cons_zero, List.setIfInBounds_toArray, List.set_cons_zero, List.set_cons_succ]
        refine wpAnyH_take (i := 19) (oi := _) (v := ?_) rfl (by kernel_rfl) (by kernel_rfl) (by kernel_rfl) (fun _ _ _ h => h) (Or.inl ⟨by rfl, ?_⟩) hS ?_
        rotate_left
        · intro w' hw'
          have hcells := HC23.out w' hw'
          go_simp
          (try with_reducible rfl)
        simp only [Act.put, List.getElem_toArray, List.getElem_cons_succ, List.getElem_cons_zero, List.setIfInBounds_toArray, List.set_cons_zero, List.set_cons_succ]
        refine wpAnyH_done (by kernel_rfl) ?_ _
        (try dsimp only)
        have HBF := hid hS
        clear hS
        go_wp2
        go_ret
        exact ⟨rfl, HU3.out _ (HUQ.out.trans ((HTT.out.trans (HBF.out.mono HTT.out.size)).mono HUQ.out.size))⟩
      | false =>
        have hz1 : ¬ 0 < z := of_decide_eq_false HFB.out.symm
        go_upto_region 23 with (go_at_call 57; refine HSSQ.out.mono ?_; rintro e wu ⟨rfl, hbu⟩; clear k2; have k2 := HBX3.out _ (HUQ.out.trans ((HTT.out.trans (hbu.mono HTT.out.size)).mono HUQ.out.size)))
        clear k2
        refine wp_region_split 20 (fun w' => Below wt.heap.size wt w') (by kernel_rfl) (by kernel_rfl) (by kernel_rfl) (by decide) (hbu.drew) (fun hS => ?_)
        simp only [List.take_succ_cons, List.take_zero, List.drop_succ_cons, List.drop_zero]
        refine wpAnyH_take (i := 0) (oi := _) (v := ?_) rfl (by kernel_rfl) (by kernel_rfl) (by kernel_rfl) (fun _ _ _ h => h) (Or.inl ⟨by rfl, ?_⟩) hS ?_
        rotate_left
        · intro w' hw'
          have hcells := HC23.out w' hw'
          go_simp
          (try with_reducible rfl)
        simp only [Act.put, List.getElem_toArray, List.getElem_cons_succ, List.getElem_cons_zero, List.setIfInBounds_toArray, List.set_cons_zero, List.set_cons_succ]
        refine wpAnyH_take (i := 1) (oi := _) (v := ?_) rfl (by kernel_rfl) (by kernel_rfl) (by kernel_rfl) (fun _ _ _ h => h) (Or.inl ⟨by rfl, ?_⟩) hS ?_
        rotate_left
        · intro w' hw'
          have hcells := HC23.out w' hw'
          go_simp
          (try with_reducible rfl)
        simp only [Act.put, List.getElem_toArray, List.getElem_cons_succ, List.getElem_cons_zero, List.setIfInBounds_toArray, List.set_cons_zero, List.set_cons_succ]
        refine wpAnyH_take (i := 2) (oi := _) (v := ?_) rfl (by kernel_rfl) (by kernel_rfl) (by kernel_rfl) (fun _ _ _ h => h) (Or.inl ⟨by rfl, ?_⟩) hS ?_
        rotate_left
        · intro w' hw'
          have hcells := HC23.out w' hw'
          go_simp
          (try with_reducible rfl)
        simp only [Act.put, List.getElem_toArray, List.getElem_cons_succ, List.getElem_cons_zero, List.setIfInBounds_toArray, List.set_cons_zero, List.set_cons_succ]
        refine wpAnyH_take (i := 3) (oi := _) (v := undef) rfl (by kernel_rfl) (by kernel_rfl) (by kernel_rfl) (fun _ _ _ h => h) (Or.inr ⟨by rfl, rfl⟩) hS ?_
        simp only [Act.put, List.getElem_toArray, List.getElem_cons_succ, List.getElem_cons_zero, List.setIfInBounds_toArray, List.set_cons_zero, List.set_cons_succ]
        refine wpAnyH_take (i := 4) (oi := _) (v := undef) rfl (by kernel_rfl) (by kernel_rfl) (by kernel_rfl) (fun _ _ _ h => h) (Or.inr ⟨by rfl, rfl⟩) hS ?_
        simp only [Act.put, List.getElem_toArray, List.getElem_cons_succ, List.getElem_cons_zero, List.setIfInBounds_toArray, List.set_cons_zero, List.set_cons_succ]
        refine wpAnyH_take (i := 5) (oi := _) (v := undef) rfl (by kernel_rfl) (by kernel_rfl) (by kernel_rfl) (fun _ _ _ h => h) (Or.inr ⟨by rfl, rfl⟩) hS ?_
        simp only [Act.put, List.getElem_toArray, List.getElem_cons_succ, List.getElem_cons_zero, List.setIfInBounds_toArray, List.set_cons_zero, List.set_cons_succ]
        refine wpAnyH_take (i := 6) (oi := _) (v := ?_) rfl (by kernel_rfl) (by kernel_rfl) (by kernel_rfl) (fun _ _ _ h => h) (Or.inl ⟨by rfl, ?_⟩) hS ?_
        rotate_left
        · intro w' hw'
          have hcells := HC23.out w' hw'
          go_simp
          (try with_reducible rfl)
        simp only [Act.put, List.getElem_toArray, List.getElem_cons_succ, List.getElem_cons_zero, List.setIfInBounds_toArray, List.set_cons_zero, List.set_cons_succ]
        refine wpAnyH_take (i := 7) (oi := _) (v := ?_) rfl (by kernel_rfl) (by kernel_rfl) (by kernel_rfl) (fun _ _ _ h => h) (Or.inl ⟨by rfl, ?_⟩) hS ?_
        rotate_left
        · intro w' hw'
          have hcells := HC23.out w' hw'
          go_simp
          (try with_reducible rfl)
        simp only [Act.put, List.getElem_toArray, List.getElem_cons_succ, List.getElem_cons_zero, List.setIfInBounds_toArray, List.set_cons_zero, List.set_cons_succ]
        refine wpAnyH_take (i := 8) (oi := _) (v := ?_) rfl (by kernel_rfl) (by kernel_rfl) (by kernel_rfl) (fun _ _ _ h => h) (Or.inl ⟨by rfl, ?_⟩) hS ?_
        rotate_left
        · intro w' hw'
          have hcells := HC23.out w' hw'
          go_simp
          (try with_reducible rfl)
        simp only [Act.put, List.getElem_toArray, List.getElem_cons_succ, List.getElem_cons_zero, List.setIfInBounds_toArray, List.set_cons_zero, List.set_cons_succ]
        refine wpAnyH_take (i := 9) (oi := _) (v := ?_) rfl (by kernel_rfl) (by kernel_rfl) (by kernel_rfl) (fun _ _ _ h => h) (Or.inl ⟨by rfl, ?_⟩) hS ?_
        rotate_left
        · intro w' hw'
          have hcells := HC23.out w' hw'
          go_simp
          (try with_reducible rfl)
        simp only [Act.put, List.getElem_toArray, List.getElem_cons_succ, List.getElem_cons_zero, List.setIfInBounds_toArray, List.set_cons_zero, List.set_cons_succ]
        refine wpAnyH_take (i := 10) (oi := _) (v := ?_) rfl (by kernel_rfl) (by kernel_rfl) (by kernel_rfl) (fun _ _ _ h => h) (Or.inl ⟨by rfl, ?_⟩) hS ?_
        rotate_left
        · intro w' hw'
          have hcells := HC23.out w' hw'
          go_simp
          (try with_reducible rfl)
        simp only [Act.put, List.getElem_toArray, List.getElem_cons_succ, List.getElem_cons_zero, List.setIfInBounds_toArray, List.set_cons_zero, List.set_cons_succ]
        refine wpAnyH_take (i := 11) (oi := _) (v := ?_) rfl (by kernel_rfl) (by kernel_rfl) (by kernel_rfl) (fun _ _ _ h => h) (Or.inl ⟨by rfl, ?_⟩) hS ?_
        rotate_left
        · intro w' hw'
          have hcells := HC23.out w' hw'
          go_simp
          (try with_reducible rfl)
        simp only [Act.put, List.getElem_toArray, List.getElem_cons_succ, List.getElem_cons_zero, List.setIfInBounds_toArray, List.set_cons_zero, List.set_cons_succ]
        refine wpAnyH_take (i := 12) (oi := _) (v := ?_) rfl (by kernel_rfl) (by kernel_rfl) (by kernel_rfl) (fun _ _ _ h => h) (Or.inl ⟨by rfl, ?_⟩) hS ?_
        rotate_left
        · intro w' hw'
          have hcells := HC23.out w' hw'
          go_simp
          (try with_reducible rfl)
        simp only [Act.put, List.getElem_toArray, List.getElem_cons_succ, List.getElem_cons_zero, List.setIfInBounds_toArray, List.set_cons_zero, List.set_cons_succ]
        refine wpAnyH_take (i := 13) (oi := _) (v := ?_) rfl (by kernel_rfl) (by kernel_rfl) (by kernel_rfl) (fun _ _ _ h => h) (Or.inl ⟨by rfl, ?_⟩) hS ?_
        rotate_left
        · intro w' hw'
          have hcells := HC23.out w' hw'
          go_simp
          (try with_reducible rfl)
        simp only [Act.put, List.getElem_toArray, List.getElem_cons_succ, List.getElem_cons_zero, List.setIfInBounds_toArray, List.set_cons_zero, List.set_cons_succ]
        refine wpAnyH_take (i := 14) (oi := _) (v := ?_) rfl (by kernel_rfl) (by kernel_rfl) (by kernel_rfl) (fun _ _ _ h => h) (Or.inl ⟨by rfl, ?_⟩) hS ?_
        rotate_left
        · intro w' hw'
          have hcells := HC23.out w' hw'
          go_simp
          (try with_reducible rfl)
        simp only [Act.put, List.getElem_toArray, List.getElem_cons_succ, List.getElem_cons_zero, List.setIfInBounds_toArray, List.set_cons_zero, List.set_cons_succ]
        refine wpAnyH_take (i := 15) (oi := _) (v := ?_) rfl (by kernel_rfl) (by kernel_rfl) (by kernel_rfl) (fun _ _ _ h => h) (Or.inl ⟨by rfl, ?_⟩) hS ?_
        rotate_left
        · intro w' hw'
          have hcells := HC23.out w' hw'
          go_simp
          (try with_reducible rfl)
        simp only [Act.put, List.getElem_toArray, List.getElem_cons_succ, List.getElem_cons_zero, List.setIfInBounds_toArray, List.set_cons_zero, List.set_cons_succ]
        refine wpAnyH_ready (rs := [16]) (by kernel_rfl) (by simp) ?_
        refine AllReadyH.cons (o := _) rfl (fun K hK => ?_) AllReadyH.nil
        go_simp; go_at_call 38; refine (HSSL.out _ hS).mono ?_
        rintro e wy ⟨rfl, hby⟩
        refine hK.out _ _ (hS.trans (hby.mono hS.size)) (fun hS => ?_)
        clear hK K
        (try simp only [Act.put, List.getElem_toArray, List.getElem_cons_succ, List.getElem_cons_zero, List.setIfInBounds_toArray, List.set_cons_zero, List.set_cons_succ])
        refine wpAnyH_take (i := 17) (oi := _) (v := ?_) rfl (by kernel_rfl) (by kernel_rfl) (by kernel_rfl) (fun _ _ _ h => h) (Or.inl ⟨by rfl, ?_⟩) hS ?_
        rotate_left
        · intro w' hw'
          have hcells := HC23.out w' hw'
          go_simp
          (try with_reducible rfl)
        simp only [Act.put, List.getElem_toArray, List.getElem_cons_succ, List.getElem_cons_zero, List.setIfInBounds_toArray, List.set_cons_zero, List.set_cons_succ]
        refine wpAnyH_take (i := 18) (oi := _) (v := ?_) rfl (by kernel_rfl) (by kernel_rfl) (by kernel_rfl) (fun _ _ _ h => h) (Or.inl ⟨by rfl, ?_⟩) hS ?_
        rotate_left
        · intro w' hw'
          have hcells := HC23.out w' hw'
          go_simp
          (try with_reducible rfl)
        simp only [Act.put, List.getElem_toArray, List.getElem_cons_succ, List.getElem_cons_zero, List.setIfInBounds_toArray, List.set_cons_zero, List.set_cons_succ]
        refine wpAnyH_take (i := 19) (oi := _) (v := ?_) rfl (by kernel_rfl) (by kernel_rfl) (by kernel_rfl) (fun _ _ _ h => h) (Or.inl ⟨by rfl, ?_⟩) hS ?_
        rotate_left
        · intro w' hw'
          have hcells := HC23.out w' hw'
          go_simp
          (try with_reducible rfl)
        simp only [Act.put, List.getElem_toArray, List.getElem_cons_succ, List.getElem_cons_zero, List.setIfInBounds_toArray, List.set_cons_zero, List.set_cons_succ]
        refine wpAnyH_done (by kernel_rfl) ?_ _
        (try dsimp only)
        have HBF := hid hS
        clear hS
        go_wp2
        go_ret
        exact ⟨rfl, HU3.out _ (HUQ.out.trans ((HTT.out.trans (HBF.out.mono HTT.out.size)).mono HUQ.out.size))⟩
end Go.Proofs.YthjlgpmajeafpaaGreatDoor
