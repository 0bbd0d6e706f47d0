/-
  SlotsFinds returns true. Conditions: the state and the key can be read as data; Tabs.
-/
import Derived.Test.YthjlgpmajeafpaaGreatDoorPlaceMrg
import Derived.Test.YthjlgpmajeafpaaGreatDoorSmallSMrg
namespace Go.Proofs.YthjlgpmajeafpaaGreatDoor
open Go Go.RowKit Go.Shelf
set_option linter.unusedVariables false
set_option linter.unusedSimpArgs false

set_option maxRecDepth 100000 in
set_option maxHeartbeats 16000000 in
theorem slotsFinds_call (c : StC) (d : Sta) (k : VC) (kd : Val) (w : World) (hd : IsSta (· < w.heap.size) w c d) (hk : IsVal (· < w.heap.size) w k kd) (hT : Tabs w) : Calls Tryz.prog 6 #[c.v, k.v] w fun e w' => e = .returned (.bool true) ∧ Below w.heap.size w w' := by
  obtain ⟨sn, st, a, sl, sc⟩ := c
  have hbig := hd.l.big
  have HL := hid hd.l.len
  dsimp only at hbig HL
  have HA := hid (show Below w.heap.size w ((w.alloc (.cells #[.int .i64 sn, .int .i64 st, .slice a sl sc] 55)).alloc (.cells #[.int .i64 k.k, .int .i64 k.i, .int .i64 k.s, .string k.t, .slice k.la k.ll k.lc, .slice k.fa k.fl k.fc] 28)) from ((Below.refl _ w).alloc (Nat.le_refl _) _).alloc (by simp) _)
  have HG := hid (show ((w.alloc (.cells #[.int .i64 sn, .int .i64 st, .slice a sl sc] 55)).alloc (.cells #[.int .i64 k.k, .int .i64 k.i, .int .i64 k.s, .string k.t, .slice k.la k.ll k.lc, .slice k.fa k.fl k.fc] 28)).heap[w.heap.size]? = some (.cells #[.int .i64 sn, .int .i64 st, .slice a sl sc] 55) from heapAlloc _ (heap_alloc_new w _))
  have HG2 := hid (show ((w.alloc (.cells #[.int .i64 sn, .int .i64 st, .slice a sl sc] 55)).alloc (.cells #[.int .i64 k.k, .int .i64 k.i, .int .i64 k.s, .string k.t, .slice k.la k.ll k.lc, .slice k.fa k.fl k.fc] 28)).heap[w.heap.size + 1]? = some (.cells #[.int .i64 k.k, .int .i64 k.i, .int .i64 k.s, .string k.t, .slice k.la k.ll k.lc, .slice k.fa k.fl k.fc] 28) from heapNewAt _ _ _ (by simp))
  have HT := hid hT
  have HD := hid hd
  have HKD := hid hk
  have HBX : Hid (∀ w', Below ((w.alloc (.cells #[.int .i64 sn, .int .i64 st, .slice a sl sc] 55)).alloc (.cells #[.int .i64 k.k, .int .i64 k.i, .int .i64 k.s, .string k.t, .slice k.la k.ll k.lc, .slice k.fa k.fl k.fc] 28)).heap.size ((w.alloc (.cells #[.int .i64 sn, .int .i64 st, .slice a sl sc] 55)).alloc (.cells #[.int .i64 k.k, .int .i64 k.i, .int .i64 k.s, .string k.t, .slice k.la k.ll k.lc, .slice k.fa k.fl k.fc] 28)) w' → (w'.cell? ⟨w.heap.size, 0, none⟩ = some (.int .i64 sn) ∧ w'.cell? ⟨w.heap.size, 1, none⟩ = some (.int .i64 st) ∧ w'.cell? ⟨w.heap.size, 2, none⟩ = some (.slice a sl sc)) ∧ (w'.cell? ⟨w.heap.size + 1, 0, none⟩ = some (.int .i64 k.k) ∧ w'.cell? ⟨w.heap.size + 1, 1, none⟩ = some (.int .i64 k.i) ∧ w'.cell? ⟨w.heap.size + 1, 2, none⟩ = some (.int .i64 k.s) ∧ w'.cell? ⟨w.heap.size + 1, 3, none⟩ = some (.string k.t) ∧ w'.cell? ⟨w.heap.size + 1, 4, none⟩ = some (.slice k.la k.ll k.lc) ∧ w'.cell? ⟨w.heap.size + 1, 5, none⟩ = some (.slice k.fa k.fl k.fc))) := hid fun w' h => by
    have h1 := heapExt h HG.out
    have h2 := heapExt h HG2.out
    exact ⟨⟨cellOf h1 0, cellOf h1 1, cellOf h1 2⟩, cellOf h2 0, cellOf h2 1, cellOf h2 2, cellOf h2 3, cellOf h2 4, cellOf h2 5⟩
  have HUA : Hid (∀ w', Below ((w.alloc (.cells #[.int .i64 sn, .int .i64 st, .slice a sl sc] 55)).alloc (.cells #[.int .i64 k.k, .int .i64 k.i, .int .i64 k.s, .string k.t, .slice k.la k.ll k.lc, .slice k.fa k.fl k.fc] 28)).heap.size ((w.alloc (.cells #[.int .i64 sn, .int .i64 st, .slice a sl sc] 55)).alloc (.cells #[.int .i64 k.k, .int .i64 k.i, .int .i64 k.s, .string k.t, .slice k.la k.ll k.lc, .slice k.fa k.fl k.fc] 28)) w' → Below w.heap.size w w' ∧ IsSta (· < w'.heap.size) w' ⟨sn, st, a, sl, sc⟩ d ∧ IsVal (· < w'.heap.size) w' k kd) := hid fun w' h => by
    have hw := HA.out.trans (h.mono HA.out.size)
    have hs := hw.size
    exact ⟨hw, HD.out.same fun b q => ⟨by omega, hw.block b q⟩, HKD.out.same fun b q => ⟨by omega, hw.block b q⟩⟩
  have HK : Hid (∀ w', Below ((w.alloc (.cells #[.int .i64 sn, .int .i64 st, .slice a sl sc] 55)).alloc (.cells #[.int .i64 k.k, .int .i64 k.i, .int .i64 k.s, .string k.t, .slice k.la k.ll k.lc, .slice k.fa k.fl k.fc] 28)).heap.size ((w.alloc (.cells #[.int .i64 sn, .int .i64 st, .slice a sl sc] 55)).alloc (.cells #[.int .i64 k.k, .int .i64 k.i, .int .i64 k.s, .string k.t, .slice k.la k.ll k.lc, .slice k.fa k.fl k.fc] 28)) w' → Calls Tryz.prog 29 #[] w' fun e w2 => e = .returned (.bool true) ∧ Below w'.heap.size w' w2) := hid fun w' h => knownS_call w' (HT.out.below (HUA.out w' h).1)
  have HSM : Hid (∀ w', Below ((w.alloc (.cells #[.int .i64 sn, .int .i64 st, .slice a sl sc] 55)).alloc (.cells #[.int .i64 k.k, .int .i64 k.i, .int .i64 k.s, .string k.t, .slice k.la k.ll k.lc, .slice k.fa k.fl k.fc] 28)).heap.size ((w.alloc (.cells #[.int .i64 sn, .int .i64 st, .slice a sl sc] 55)).alloc (.cells #[.int .i64 k.k, .int .i64 k.i, .int .i64 k.s, .string k.t, .slice k.la k.ll k.lc, .slice k.fa k.fl k.fc] 28)) w' → Calls Tryz.prog 30 #[.agg #[.int .i64 sn, .int .i64 st, .slice a sl sc]] w' (SmStPost d w')) := hid fun w' h => smallSta_call ⟨sn, st, a, sl, sc⟩ d w' (HUA.out w' h).2.1
  have HSV : Hid (∀ w', Below ((w.alloc (.cells #[.int .i64 sn, .int .i64 st, .slice a sl sc] 55)).alloc (.cells #[.int .i64 k.k, .int .i64 k.i, .int .i64 k.s, .string k.t, .slice k.la k.ll k.lc, .slice k.fa k.fl k.fc] 28)).heap.size ((w.alloc (.cells #[.int .i64 sn, .int .i64 st, .slice a sl sc] 55)).alloc (.cells #[.int .i64 k.k, .int .i64 k.i, .int .i64 k.s, .string k.t, .slice k.la k.ll k.lc, .slice k.fa k.fl k.fc] 28)) w' → Calls Tryz.prog 33 #[.agg #[.int .i64 k.k, .int .i64 k.i, .int .i64 k.s, .string k.t, .slice k.la k.ll k.lc, .slice k.fa k.fl k.fc]] w' (SomeB w')) := hid fun w' h => smallV_call k kd w' (HUA.out w' h).2.2
  have HSO : Hid (∀ w', Below ((w.alloc (.cells #[.int .i64 sn, .int .i64 st, .slice a sl sc] 55)).alloc (.cells #[.int .i64 k.k, .int .i64 k.i, .int .i64 k.s, .string k.t, .slice k.la k.ll k.lc, .slice k.fa k.fl k.fc] 28)).heap.size ((w.alloc (.cells #[.int .i64 sn, .int .i64 st, .slice a sl sc] 55)).alloc (.cells #[.int .i64 k.k, .int .i64 k.i, .int .i64 k.s, .string k.t, .slice k.la k.ll k.lc, .slice k.fa k.fl k.fc] 28)) w' → Calls Tryz.prog 34 #[.agg #[.int .i64 sn, .int .i64 st, .slice a sl sc]] w' (SrtPost w' d.l)) := hid fun w' h => sorted_call ⟨sn, st, a, sl, sc⟩ d w' (HUA.out w' h).2.1
  clear hd hk hT
  obtain ⟨⟨k0, k1, k2⟩, ⟨k3, k4, k5, k6, k7, k8⟩⟩ := HBX.out _ (Below.refl _ _)
  dsimp only [StC.v, VC.v]
  go_enter Tryz.func6, Tryz.ntmps6
  go_upto_region 3 with (first
    | (go_at_call 29; refine (HK.out _ hb5).mono ?_; rintro e w9 ⟨rfl, hb9⟩; have hbz := hb5.trans (hb9.mono hb5.size))
    | (go_at_call 29; refine (HK.out _ hb4).mono ?_; rintro e w9 ⟨rfl, hb9⟩; have hbz := hb4.trans (hb9.mono hb4.size))
    | (go_at_call 29; refine (HK.out _ hb3).mono ?_; rintro e w9 ⟨rfl, hb9⟩; have hbz := hb3.trans (hb9.mono hb3.size))
    | (go_at_call 34; refine (HSO.out _ hb4).mono ?_; rintro e w5 ⟨⟨b3, rfl, hs3, _⟩, hb5'⟩; have hb5 := hb4.trans (hb5'.mono hb4.size); clear k0 k1 k2 k3 k4 k5 k6 k7 k8; obtain ⟨⟨k0, k1, k2⟩, ⟨k3, k4, k5, k6, k7, k8⟩⟩ := HBX.out _ (hb5); cases b3)
    | (go_at_call 33; refine (HSV.out _ hb3).mono ?_; rintro e w4 ⟨⟨b2, rfl⟩, hb4'⟩; have hb4 := hb3.trans (hb4'.mono hb3.size); clear k0 k1 k2 k3 k4 k5 k6 k7 k8; obtain ⟨⟨k0, k1, k2⟩, ⟨k3, k4, k5, k6, k7, k8⟩⟩ := HBX.out _ (hb4); cases b2)
    | (go_at_call 30; refine (HSM.out _ hb2).mono ?_; rintro e w3 ⟨⟨b1, rfl, hs1⟩, hb3'⟩; have hb3 := hb2.trans (hb3'.mono hb2.size); clear k0 k1 k2 k3 k4 k5 k6 k7 k8; obtain ⟨⟨k0, k1, k2⟩, ⟨k3, k4, k5, k6, k7, k8⟩⟩ := HBX.out _ (hb3); cases b1)
    | (go_at_call 29; refine (HK.out _ (Below.refl _ _)).mono ?_; rintro e w2 ⟨rfl, hb2⟩; clear k0 k1 k2 k3 k4 k5 k6 k7 k8; obtain ⟨⟨k0, k1, k2⟩, ⟨k3, k4, k5, k6, k7, k8⟩⟩ := HBX.out _ (hb2)))
  · go_ret
    exact ⟨rfl, HA.out.trans (hbz.mono HA.out.size)⟩
  · go_ret
    exact ⟨rfl, HA.out.trans (hbz.mono HA.out.size)⟩
  · go_ret
    exact ⟨rfl, HA.out.trans (hbz.mono HA.out.size)⟩
  clear HK HSM HSV HSO hs1 hb3' hb4' hb5' hb2 hb3 hb4
  have hsrt : Srt d.l := by first | exact hs3 rfl | exact hs3 trivial | exact hs3
  clear hs3
  obtain ⟨pi, hpi⟩ : ∃ p, p = placeI d.l kd := ⟨_, rfl⟩
  obtain ⟨pb, hpb⟩ : ∃ p, p = placeB d.l kd := ⟨_, rfl⟩
  have HPI := hid hpi
  have HPB := hid hpb
  have HFI : Hid (∀ w', Below ((w.alloc (.cells #[.int .i64 sn, .int .i64 st, .slice a sl sc] 55)).alloc (.cells #[.int .i64 k.k, .int .i64 k.i, .int .i64 k.s, .string k.t, .slice k.la k.ll k.lc, .slice k.fa k.fl k.fc] 28)).heap.size ((w.alloc (.cells #[.int .i64 sn, .int .i64 st, .slice a sl sc] 55)).alloc (.cells #[.int .i64 k.k, .int .i64 k.i, .int .i64 k.s, .string k.t, .slice k.la k.ll k.lc, .slice k.fa k.fl k.fc] 28)) w' → Calls Tryz.prog 35 #[.agg #[.int .i64 sn, .int .i64 st, .slice a sl sc], .agg #[.int .i64 k.k, .int .i64 k.i, .int .i64 k.s, .string k.t, .slice k.la k.ll k.lc, .slice k.fa k.fl k.fc]] w' fun e w2 => e = .returned (.tuple #[.int .i64 (pi : Nat), .bool pb]) ∧ Below w'.heap.size w' w2) := hid fun w' h => by
    have hc := find_call ⟨sn, st, a, sl, sc⟩ d k kd w' (HUA.out w' h).2.1 (HUA.out w' h).2.2
    exact hc.mono fun e w2 h => ⟨h.1.trans (by rw [findI_place hsrt, findB_place hsrt, ← hpi, ← hpb]), h.2⟩
  have HGE : Hid (∀ w', Below ((w.alloc (.cells #[.int .i64 sn, .int .i64 st, .slice a sl sc] 55)).alloc (.cells #[.int .i64 k.k, .int .i64 k.i, .int .i64 k.s, .string k.t, .slice k.la k.ll k.lc, .slice k.fa k.fl k.fc] 28)).heap.size ((w.alloc (.cells #[.int .i64 sn, .int .i64 st, .slice a sl sc] 55)).alloc (.cells #[.int .i64 k.k, .int .i64 k.i, .int .i64 k.s, .string k.t, .slice k.la k.ll k.lc, .slice k.fa k.fl k.fc] 28)) w' → Calls Tryz.prog 36 #[.agg #[.int .i64 sn, .int .i64 st, .slice a sl sc], .agg #[.int .i64 k.k, .int .i64 k.i, .int .i64 k.s, .string k.t, .slice k.la k.ll k.lc, .slice k.fa k.fl k.fc]] w' fun e w2 => ∃ (c' : SlC) (d' : Slot), e = .returned (.tuple #[.agg #[.int .i64 c'.k.k, .int .i64 c'.k.i, .int .i64 c'.k.s, .string c'.k.t, .slice c'.k.la c'.k.ll c'.k.lc, .slice c'.k.fa c'.k.fl c'.k.fc, .int .i64 c'.n, .int .i64 c'.t, .slice c'.ia c'.il c'.ic, .slice c'.va c'.vl c'.vc], .bool pb]) ∧ Below w'.heap.size w' w2 ∧ IsSl (fun b => w'.heap.size ≤ b ∧ b < w2.heap.size) w2 c' d' ∧ ((pb = true → d.l[pi]? = some d') ∧ (pb = false → d' = zeroSl))) := hid fun w' h => by
    have hc := get_call ⟨sn, st, a, sl, sc⟩ d k kd w' (HUA.out w' h).2.1 (HUA.out w' h).2.2
    exact hc.mono fun e w2 ⟨c', d', h1, h2, h3, h4, h5⟩ => by
      rw [findB_place hsrt, ← hpb] at h1 h4 h5
      rw [findI_place hsrt, ← hpi] at h4
      exact ⟨c', d', h1, h2, h3, h4, h5⟩
  have HPL : Hid (∀ w', Below ((w.alloc (.cells #[.int .i64 sn, .int .i64 st, .slice a sl sc] 55)).alloc (.cells #[.int .i64 k.k, .int .i64 k.i, .int .i64 k.s, .string k.t, .slice k.la k.ll k.lc, .slice k.fa k.fl k.fc] 28)).heap.size ((w.alloc (.cells #[.int .i64 sn, .int .i64 st, .slice a sl sc] 55)).alloc (.cells #[.int .i64 k.k, .int .i64 k.i, .int .i64 k.s, .string k.t, .slice k.la k.ll k.lc, .slice k.fa k.fl k.fc] 28)) w' → Calls Tryz.prog 37 #[.agg #[.int .i64 sn, .int .i64 st, .slice a sl sc], .agg #[.int .i64 k.k, .int .i64 k.i, .int .i64 k.s, .string k.t, .slice k.la k.ll k.lc, .slice k.fa k.fl k.fc]] w' fun e w2 => e = .returned (.tuple #[.int .i64 (pi : Nat), .bool pb]) ∧ Below w'.heap.size w' w2) := hid fun w' h => by
    have hc := place_call ⟨sn, st, a, sl, sc⟩ d k kd w' (HUA.out w' h).2.1 (HUA.out w' h).2.2
    exact hc.mono fun e w2 h => ⟨h.1.trans (by rw [← hpi, ← hpb]), h.2⟩
  clear hpi hpb hsrt
  go_upto_region 6 with (first
    | (go_at_call 37; refine (HPL.out _ hb7a).mono ?_; rintro e w8 ⟨rfl, hb8⟩)
    | (go_at_call 36; refine (HGE.out _ hb6).mono ?_; rintro e w7 ⟨c7, d7, rfl, hb7', hi7, he7⟩; have hb7 := hb6.trans (hb7'.mono hb6.size); have hb7a := hb7.alloc hb7.size (.cells #[.int .i64 c7.k.k, .int .i64 c7.k.i, .int .i64 c7.k.s, .string c7.k.t, .slice c7.k.la c7.k.ll c7.k.lc, .slice c7.k.fa c7.k.fl c7.k.fc, .int .i64 c7.n, .int .i64 c7.t, .slice c7.ia c7.il c7.ic, .slice c7.va c7.vl c7.vc] 58); have HI7 := hid hi7; have HE7 := hid he7; clear hi7 he7; clear k0 k1 k2 k3 k4 k5 k6 k7 k8; obtain ⟨⟨k0, k1, k2⟩, ⟨k3, k4, k5, k6, k7, k8⟩⟩ := HBX.out _ (hb7a))
    | (go_at_call 35; refine (HFI.out _ hb5).mono ?_; rintro e w6 ⟨rfl, hb6'⟩; have hb6 := hb5.trans (hb6'.mono hb5.size); clear k0 k1 k2 k3 k4 k5 k6 k7 k8; obtain ⟨⟨k0, k1, k2⟩, ⟨k3, k4, k5, k6, k7, k8⟩⟩ := HBX.out _ (hb6)))
  clear k0 k1 k2 k3 k4 k5 k6 k7 k8 HFI HGE HPL
  have HUP := hid (show Below (w7.alloc (.cells #[.int .i64 c7.k.k, .int .i64 c7.k.i, .int .i64 c7.k.s, .string c7.k.t, .slice c7.k.la c7.k.ll c7.k.lc, .slice c7.k.fa c7.k.fl c7.k.fc, .int .i64 c7.n, .int .i64 c7.t, .slice c7.ia c7.il c7.ic, .slice c7.va c7.vl c7.vc] 58)).heap.size (w7.alloc (.cells #[.int .i64 c7.k.k, .int .i64 c7.k.i, .int .i64 c7.k.s, .string c7.k.t, .slice c7.k.la c7.k.ll c7.k.lc, .slice c7.k.fa c7.k.fl c7.k.fc, .int .i64 c7.n, .int .i64 c7.t, .slice c7.ia c7.il c7.ic, .slice c7.va c7.vl c7.vc] 58)) w8 from hb8)
  have hw8 := HUA.out _ (hb7a.trans (hb8.mono hb7a.size))
  have HW8 := hid hw8
  have HC8 : Hid (∀ w', Below w8.heap.size w8 w' → (w'.cell? ⟨w7.heap.size, 0, none⟩ = some (.int .i64 c7.k.k) ∧ w'.cell? ⟨w7.heap.size, 1, none⟩ = some (.int .i64 c7.k.i) ∧ w'.cell? ⟨w7.heap.size, 2, none⟩ = some (.int .i64 c7.k.s) ∧ w'.cell? ⟨w7.heap.size, 3, none⟩ = some (.string c7.k.t) ∧ w'.cell? ⟨w7.heap.size, 4, none⟩ = some (.slice c7.k.la c7.k.ll c7.k.lc) ∧ w'.cell? ⟨w7.heap.size, 5, none⟩ = some (.slice c7.k.fa c7.k.fl c7.k.fc) ∧ w'.cell? ⟨w7.heap.size, 6, none⟩ = some (.int .i64 c7.n) ∧ w'.cell? ⟨w7.heap.size, 7, none⟩ = some (.int .i64 c7.t) ∧ w'.cell? ⟨w7.heap.size, 8, none⟩ = some (.slice c7.ia c7.il c7.ic) ∧ w'.cell? ⟨w7.heap.size, 9, none⟩ = some (.slice c7.va c7.vl c7.vc)) ∧ w'.cell? ⟨w.heap.size, 2, none⟩ = some (.slice a sl sc)) := hid fun w' h => by
    have h1 := heapExt (HUP.out.trans (h.mono HUP.out.size)) (heap_alloc_new w7 (.cells #[.int .i64 c7.k.k, .int .i64 c7.k.i, .int .i64 c7.k.s, .string c7.k.t, .slice c7.k.la c7.k.ll c7.k.lc, .slice c7.k.fa c7.k.fl c7.k.fc, .int .i64 c7.n, .int .i64 c7.t, .slice c7.ia c7.il c7.ic, .slice c7.va c7.vl c7.vc] 58))
    exact ⟨⟨cellOf h1 0, cellOf h1 1, cellOf h1 2, cellOf h1 3, cellOf h1 4, cellOf h1 5, cellOf h1 6, cellOf h1 7, cellOf h1 8, cellOf h1 9⟩, (HBX.out _ ((hb7a.trans (hb8.mono hb7a.size)).trans (h.mono (Nat.le_trans hb7a.size hb8.size)))).1.2.2⟩
  have HI8 : Hid (∀ w', Below w8.heap.size w8 w' → IsSl (· < w'.heap.size) w' c7 d7) := hid fun w' h => by
    have h1 := ((Below.refl _ w7).alloc (Nat.le_refl _) (.cells #[.int .i64 c7.k.k, .int .i64 c7.k.i, .int .i64 c7.k.s, .string c7.k.t, .slice c7.k.la c7.k.ll c7.k.lc, .slice c7.k.fa c7.k.fl c7.k.fc, .int .i64 c7.n, .int .i64 c7.t, .slice c7.ia c7.il c7.ic, .slice c7.va c7.vl c7.vc] 58)).trans ((HUP.out.trans (h.mono HUP.out.size)).mono (by simp))
    exact HI7.out.same fun b q => ⟨Nat.lt_of_lt_of_le q.2 h1.size, h1.block b q.2⟩
  clear hw8
  cases pb with
  | false =>
    obtain rfl : d7 = zeroSl := HE7.out.2 rfl
    have HSS : Hid (Calls Tryz.prog 38 #[.agg #[.int .i64 c7.k.k, .int .i64 c7.k.i, .int .i64 c7.k.s, .string c7.k.t, .slice c7.k.la c7.k.ll c7.k.lc, .slice c7.k.fa c7.k.fl c7.k.fc, .int .i64 c7.n, .int .i64 c7.t, .slice c7.ia c7.il c7.ic, .slice c7.va c7.vl c7.vc], .agg #[.int .i64 0, .int .i64 0, .int .i64 0, .string ⟨#[]⟩, .slice none 0 0, .slice none 0 0, .int .i64 0, .int .i64 0, .slice none 0 0, .slice none 0 0]] w8 fun e w2 => e = .returned (.bool true) ∧ Below w8.heap.size w8 w2) := hid (by
      have hc := sameSlot_call c7 ⟨⟨0, 0, 0, ⟨#[]⟩, none, 0, 0, none, 0, 0⟩, 0, 0, none, 0, 0, none, 0, 0⟩ zeroSl zeroSl w8 (HI8.out _ (Below.refl _ _)) (zeroSl_is _ _)
      rw [slEqB_refl] at hc
      exact hc)
    obtain ⟨⟨x0, x1, x2, x3, x4, x5, x6, x7, x8, x9⟩, _⟩ := HC8.out _ (Below.refl _ _)
    go_wp2_with (go_at_call 38; refine HSS.out.mono ?_; rintro e w9 ⟨rfl, hb9⟩)
    go_ret
    exact ⟨rfl, HW8.out.1.trans (hb9.mono HW8.out.1.size)⟩
  | true =>
    have hpl : pi < d.l.length := by rw [HPI.out]; exact placeB_lt HPB.out.symm
    have hpe : d.l[pi]? = some d7 := HE7.out.1 rfl
    rw [List.getElem?_eq_getElem hpl] at hpe
    have hpe' : d.l[pi] = d7 := Option.some.inj hpe
    have hps : pi < sl := by have := HL.out; omega
    have hpi1 : (pi : Int) < (sl : Int) := by omega
    have hpi0 : (0 : Int) ≤ (pi : Int) := by omega
    obtain ⟨b, o, rfl, hb, hx⟩ := HD.out.l.slot (show 0 < sl by omega)
    obtain ⟨x, hxa, hxi⟩ := hx pi hpl
    rw [hpe'] at hxi
    have HC9 : Hid (∀ w', Below w8.heap.size w8 w' → ((w'.cell? ⟨w7.heap.size, 0, none⟩ = some (.int .i64 c7.k.k) ∧ w'.cell? ⟨w7.heap.size, 1, none⟩ = some (.int .i64 c7.k.i) ∧ w'.cell? ⟨w7.heap.size, 2, none⟩ = some (.int .i64 c7.k.s) ∧ w'.cell? ⟨w7.heap.size, 3, none⟩ = some (.string c7.k.t) ∧ w'.cell? ⟨w7.heap.size, 4, none⟩ = some (.slice c7.k.la c7.k.ll c7.k.lc) ∧ w'.cell? ⟨w7.heap.size, 5, none⟩ = some (.slice c7.k.fa c7.k.fl c7.k.fc) ∧ w'.cell? ⟨w7.heap.size, 6, none⟩ = some (.int .i64 c7.n) ∧ w'.cell? ⟨w7.heap.size, 7, none⟩ = some (.int .i64 c7.t) ∧ w'.cell? ⟨w7.heap.size, 8, none⟩ = some (.slice c7.ia c7.il c7.ic) ∧ w'.cell? ⟨w7.heap.size, 9, none⟩ = some (.slice c7.va c7.vl c7.vc)) ∧ w'.cell? ⟨w.heap.size, 2, none⟩ = some (.slice (some ⟨b, o, none⟩) sl sc)) ∧ (w'.cell? ⟨b, o + pi * 10, none⟩ = some (.int .i64 x.k.k) ∧ w'.cell? ⟨b, o + pi * 10 + 1, none⟩ = some (.int .i64 x.k.i) ∧ w'.cell? ⟨b, o + pi * 10 + 2, none⟩ = some (.int .i64 x.k.s) ∧ w'.cell? ⟨b, o + pi * 10 + 3, none⟩ = some (.string x.k.t) ∧ w'.cell? ⟨b, o + pi * 10 + 4, none⟩ = some (.slice x.k.la x.k.ll x.k.lc) ∧ w'.cell? ⟨b, o + pi * 10 + 5, none⟩ = some (.slice x.k.fa x.k.fl x.k.fc) ∧ w'.cell? ⟨b, o + pi * 10 + 6, none⟩ = some (.int .i64 x.n) ∧ w'.cell? ⟨b, o + pi * 10 + 7, none⟩ = some (.int .i64 x.t) ∧ w'.cell? ⟨b, o + pi * 10 + 8, none⟩ = some (.slice x.ia x.il x.ic) ∧ w'.cell? ⟨b, o + pi * 10 + 9, none⟩ = some (.slice x.va x.vl x.vc))) := hid fun w' h => by
      have h1 := HW8.out.1.trans (h.mono HW8.out.1.size)
      exact ⟨HC8.out w' h, (hxa.same (h1.block b hb)).slot⟩
    have HSS : Hid (∀ w', Below w8.heap.size w8 w' → Calls Tryz.prog 38 #[.agg #[.int .i64 c7.k.k, .int .i64 c7.k.i, .int .i64 c7.k.s, .string c7.k.t, .slice c7.k.la c7.k.ll c7.k.lc, .slice c7.k.fa c7.k.fl c7.k.fc, .int .i64 c7.n, .int .i64 c7.t, .slice c7.ia c7.il c7.ic, .slice c7.va c7.vl c7.vc], .agg #[.int .i64 x.k.k, .int .i64 x.k.i, .int .i64 x.k.s, .string x.k.t, .slice x.k.la x.k.ll x.k.lc, .slice x.k.fa x.k.fl x.k.fc, .int .i64 x.n, .int .i64 x.t, .slice x.ia x.il x.ic, .slice x.va x.vl x.vc]] w' fun e w2 => e = .returned (.bool true) ∧ Below w'.heap.size w' w2) := hid fun w' h => by
      have h1 := HW8.out.1.trans (h.mono HW8.out.1.size)
      have hs := h1.size
      have hc := sameSlot_call c7 x d7 d7 w' (HI8.out w' h) (slK.same (fun b q => ⟨by omega, h1.block b q⟩) hxi)
      rw [slEqB_refl] at hc
      exact hc
    clear hpl hpe hpe' hps hb hx hxa hxi HC8
    go_upto_region 10 with (fail)
    refine wp_region_split 7 (fun w' => Below w8.heap.size w8 w') (by kernel_rfl) (by kernel_rfl) (by kernel_rfl) (by decide) ((Below.refl _ _).drew) (fun hS => ?_)
    simp only [List.take_succ_cons, List.take_zero, List.drop_succ_cons, List.drop_zero]
    refine wpAnyH_take (i := 0) (oi := _) (v := ?_) rfl (by kernel_rfl) (by kernel_rfl) (by kernel_rfl) (fun _ _ _ h => h) (Or.inl ⟨by rfl, ?_⟩) hS ?_
    rotate_left
    · intro w' hw'
      have hcells := HC9.out w' hw'
      go_simp
      (try with_reducible rfl)
    simp only [Act.put, List.getElem_toArray, List.getElem_cons_succ, List.getElem_cons_zero, List.setIfInBounds_toArray, List.set_cons_zero, List.set_cons_succ]
    refine wpAnyH_take (i := 1) (oi := _) (v := ?_) rfl (by kernel_rfl) (by kernel_rfl) (by kernel_rfl) (fun _ _ _ h => h) (Or.inl ⟨by rfl, ?_⟩) hS ?_
    rotate_left
    · intro w' hw'
      have hcells := HC9.out w' hw'
      go_simp
      (try with_reducible rfl)
    simp only [Act.put, List.getElem_toArray, List.getElem_cons_succ, List.getElem_cons_zero, List.setIfInBounds_toArray, List.set_cons_zero, List.set_cons_succ]
    refine wpAnyH_take (i := 2) (oi := _) (v := ?_) rfl (by kernel_rfl) (by kernel_rfl) (by kernel_rfl) (fun _ _ _ h => h) (Or.inl ⟨by rfl, ?_⟩) hS ?_
    rotate_left
    · intro w' hw'
      have hcells := HC9.out w' hw'
      go_simp
      (try with_reducible rfl)
    simp only [Act.put, List.getElem_toArray, List.getElem_cons_succ, List.getElem_cons_zero, List.setIfInBounds_toArray, List.set_cons_zero, List.set_cons_succ]
    refine wpAnyH_take (i := 3) (oi := _) (v := ?_) rfl (by kernel_rfl) (by kernel_rfl) (by kernel_rfl) (fun _ _ _ h => h) (Or.inl ⟨by rfl, ?_⟩) hS ?_
    rotate_left
    · intro w' hw'
      have hcells := HC9.out w' hw'
      go_simp
      (try with_reducible rfl)
    simp only [Act.put, List.getElem_toArray, List.getElem_cons_succ, List.getElem_cons_zero, List.setIfInBounds_toArray, List.set_cons_zero, List.set_cons_succ]
    refine wpAnyH_take (i := 4) (oi := _) (v := ?_) rfl (by kernel_rfl) (by kernel_rfl) (by kernel_rfl) (fun _ _ _ h => h) (Or.inl ⟨by rfl, ?_⟩) hS ?_
    rotate_left
    · intro w' hw'
      have hcells := HC9.out w' hw'
      go_simp
      (try with_reducible rfl)
    simp only [Act.put, List.getElem_toArray, List.getElem_cons_succ, List.getElem_cons_zero, List.setIfInBounds_toArray, List.set_cons_zero, List.set_cons_succ]
    refine wpAnyH_take (i := 5) (oi := _) (v := ?_) rfl (by kernel_rfl) (by kernel_rfl) (by kernel_rfl) (fun _ _ _ h => h) (Or.inl ⟨by rfl, ?_⟩) hS ?_
    rotate_left
    · intro w' hw'
      have hcells := HC9.out w' hw'
      go_simp
      (try with_reducible rfl)
    simp only [Act.put, List.getElem_toArray, List.getElem_cons_succ, List.getElem_cons_zero, List.setIfInBounds_toArray, List.set_cons_zero, List.set_cons_succ]
    refine wpAnyH_ready (rs := [6]) (by kernel_rfl) (by simp) ?_
    refine AllReadyH.cons (o := _) rfl (fun K hK => ?_) AllReadyH.nil
    go_simp; go_at_call 38; refine (HSS.out _ hS).mono ?_
    rintro e wz ⟨rfl, hbz⟩
    refine hK.out _ _ (hS.trans (hbz.mono hS.size)) (fun hS => ?_)
    clear hK K
    (try simp only [Act.put, List.getElem_toArray, List.getElem_cons_succ, List.getElem_cons_zero, List.setIfInBounds_toArray, List.set_cons_zero, List.set_cons_succ])
    refine wpAnyH_done (by kernel_rfl) ?_ _
    (try dsimp only)
    have hbf := hS
    clear hS
    go_wp2
    go_ret
    have h1 := hb7a.trans (hb8.mono hb7a.size)
    have h2 := h1.trans (hbf.mono h1.size)
    exact ⟨rfl, HA.out.trans (h2.mono HA.out.size)⟩
end Go.Proofs.YthjlgpmajeafpaaGreatDoor
