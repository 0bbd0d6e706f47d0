/-
  SlotsWaiting returns true. Conditions: the state can be read as data; Tabs.
-/
import Derived.Test.YthjlgpmajeafpaaGreatDoorAppMrg
import Derived.Test.YthjlgpmajeafpaaGreatDoorSmallSMrg
import Derived.Test.YthjlgpmajeafpaaGreatDoorReflMrg
namespace Go.Proofs.YthjlgpmajeafpaaGreatDoor
open Go Go.RowKit Go.Shelf
set_option linter.unusedVariables false
set_option linter.unusedSimpArgs false

set_option maxRecDepth 100000 in
set_option maxHeartbeats 16000000 in
theorem slotsWaiting_call (c : StC) (d : Sta) (w : World) (hd : IsSta (· < w.heap.size) w c d) (hT : Tabs w) : Calls Tryz.prog 8 #[c.v] w fun e w' => e = .returned (.bool true) ∧ Below w.heap.size w w' := by
  obtain ⟨ti, hi, hz0, hz1, hz2⟩ := info_parts infoMsg
  obtain ⟨sn, st, a, sl, sc⟩ := c
  have hbig := hd.l.big
  have HL := hid hd.l.len
  dsimp only at hbig HL
  have HA := hid (show Below w.heap.size w (w.alloc (.cells #[.int .i64 sn, .int .i64 st, .slice a sl sc] 55)) from (Below.refl _ w).alloc (Nat.le_refl _) _)
  have HG := hid (heap_alloc_new w (.cells #[.int .i64 sn, .int .i64 st, .slice a sl sc] 55))
  have HT := hid hT
  have HD := hid hd
  have HBX : Hid (∀ w', Below (w.alloc (.cells #[.int .i64 sn, .int .i64 st, .slice a sl sc] 55)).heap.size (w.alloc (.cells #[.int .i64 sn, .int .i64 st, .slice a sl sc] 55)) w' → w'.cell? ⟨w.heap.size, 0, none⟩ = some (.int .i64 sn) ∧ w'.cell? ⟨w.heap.size, 1, none⟩ = some (.int .i64 st) ∧ w'.cell? ⟨w.heap.size, 2, none⟩ = some (.slice a sl sc)) := hid fun w' h => by
    have h1 := heapExt h HG.out
    exact ⟨cellOf h1 0, cellOf h1 1, cellOf h1 2⟩
  have HUA : Hid (∀ w', Below (w.alloc (.cells #[.int .i64 sn, .int .i64 st, .slice a sl sc] 55)).heap.size (w.alloc (.cells #[.int .i64 sn, .int .i64 st, .slice a sl sc] 55)) w' → IsSta (· < w'.heap.size) w' ⟨sn, st, a, sl, sc⟩ d) := hid fun w' h => by
    have hw := HA.out.trans (h.mono HA.out.size)
    have hs := hw.size
    exact HD.out.same fun b q => ⟨by omega, hw.block b q⟩
  have HK : Hid (∀ w', Below (w.alloc (.cells #[.int .i64 sn, .int .i64 st, .slice a sl sc] 55)).heap.size (w.alloc (.cells #[.int .i64 sn, .int .i64 st, .slice a sl sc] 55)) w' → Calls Tryz.prog 29 #[] w' fun e w2 => e = .returned (.bool true) ∧ Below w'.heap.size w' w2) := hid fun w' h => knownS_call w' (HT.out.below (HA.out.trans (h.mono HA.out.size)))
  have HSM : Hid (∀ w', Below (w.alloc (.cells #[.int .i64 sn, .int .i64 st, .slice a sl sc] 55)).heap.size (w.alloc (.cells #[.int .i64 sn, .int .i64 st, .slice a sl sc] 55)) w' → Calls Tryz.prog 30 #[.agg #[.int .i64 sn, .int .i64 st, .slice a sl sc]] w' (SmStPost d w')) := hid fun w' h => smallSta_call ⟨sn, st, a, sl, sc⟩ d w' (HUA.out w' h)
  clear hd hT
  obtain ⟨k0, k1, k2⟩ := HBX.out _ (Below.refl _ _)
  dsimp only [StC.v]
  go_enter Tryz.func8, Tryz.ntmps8
  go_upto_region 3 with (first
    | (go_at_call 29; refine (HK.out _ hb3).mono ?_; rintro e w9 ⟨rfl, hb9⟩; have hbz := hb3.trans (hb9.mono hb3.size))
    | (go_at_call 30; refine (HSM.out _ hb2).mono ?_; rintro e w3 ⟨⟨b1, rfl, hs1⟩, hb3'⟩; have hb3 := hb2.trans (hb3'.mono hb2.size); clear k0 k1 k2; obtain ⟨k0, k1, k2⟩ := HBX.out _ (hb3); cases b1)
    | (go_at_call 29; refine (HK.out _ (Below.refl _ _)).mono ?_; rintro e w2 ⟨rfl, hb2⟩; clear k0 k1 k2; obtain ⟨k0, k1, k2⟩ := HBX.out _ (hb2)))
  · go_ret
    exact ⟨rfl, HA.out.trans (hbz.mono HA.out.size)⟩
  have HSMD := hid (show SmSta d by first | exact hs1 rfl | exact hs1 trivial | exact hs1)
  have HB3A := hid hb3
  have HB3 := hid (show Below w.heap.size w w3 from HA.out.trans (hb3.mono HA.out.size))
  clear HK HSM hs1 hb3' hb2 hb3 k0 k1 k2
  go_wp2
  go_loopw [3, 4] (fun vv i wr => ∃ (k q : Nat) (v : Value), v = vv ∧ k ≤ sl ∧ i = .int .i64 k ∧ q = (waitL (d.l.take k)).length ∧ KeepB w3.heap.size w3 [] wr ∧ Kept msgK 30 w3.heap.size wr v q (waitL (d.l.take k))) (fun _ i _ => sl - (intOf i).toNat)
  case atStart => exact ⟨0, 0, _, rfl, Nat.zero_le _, rfl, (by rw [List.take_zero]; rfl), ⟨Below.refl _ _, Nat.le_refl _, fun p hp => by simp at hp⟩, (by rw [List.take_zero]; exact Kept.nil _ _ _)⟩
  case round =>
  obtain ⟨k, q, v, rfl, hk, rfl, hq, hkb, hrb⟩ := hrel
  have HQ0 := hid hq
  clear hq
  obtain ⟨va, vcap, rfl, hvc⟩ := hrb.shape
  have k2 := (HBX.out _ (HB3A.out.trans (hkb.b.mono HB3A.out.size))).2.2
  by_cases hlt : k < sl
  · have hkl : k < d.l.length := by have := HL.out; omega
    obtain ⟨b, o, rfl, hb, hx⟩ := HD.out.l.slot (show 0 < sl by omega)
    obtain ⟨x, hxa, hxi⟩ := hx k hkl
    have hbw : Below w.heap.size w wr := HB3.out.trans (hkb.b.mono HB3.out.size)
    have x8 := (hxa.same (hbw.block b hb)).slot.2.2.2.2.2.2.2.2.1
    have hlt' : (k : Int) < (sl : Int) := by omega
    have hk0 : (0 : Int) ≤ (k : Int) := by omega
    have HTK := hid (show waitL (d.l.take (k + 1)) = waitL (d.l.take k) ++ d.l[k].items from waitL_succ d.l k hkl)
    have hil := hxi.items.len
    have HIL := hid hil
    have hs80 := waitL_small HSMD.out
    have hsum : q + x.il ≤ 80 := by
      have h1 := waitL_cut d.l k hkl
      rw [h1] at hs80
      have h3 := HQ0.out
      simp at hs80
      omega
    have HKB := hid hkb
    have HRB := hid hrb
    by_cases h0 : x.il = 0
    · have HNI := hid (show d.l[k].items = [] from List.eq_nil_of_length_eq_zero (by omega))
      obtain ⟨xi, hxi2⟩ : ∃ xi, xi = x.il := ⟨_, rfl⟩
      rw [← hxi2] at x8 h0
      subst h0
      clear hx hxa hxi hb hbw hil hs80 hsum hkb hrb hxi2
      go_wp2_with (at_builtin; go_loud (refine wpList_append_nothing (by rfl) _ _ 36 (by rfl) 30 ti Tryz.underlying36 hi va q vcap hvc (by rfl) x.ia x.ic (by rfl) ?_))
      go_roundw
      case rel => exact ⟨k + 1, q, _, rfl, by omega, by go_num, by rw [HTK.out, HNI.out, List.append_nil]; exact HQ0.out, HKB.out, by rw [HTK.out, HNI.out, List.append_nil]; exact HRB.out⟩
      case measure => simp [intOf]; omega
    · obtain ⟨bi, oi, cs2, hia, hbi, hcs2, hel2, hnews⟩ := IsRow.pick (hxi.items.same (S' := (· < w.heap.size)) (w' := wr) fun b q => ⟨q, hbw.block b q⟩) (by omega)
      obtain ⟨xi, hxi2⟩ : ∃ xi, xi = x.il := ⟨_, rfl⟩
      rw [hia, ← hxi2] at x8
      obtain ⟨cs, hcs, hl0, hown, hel⟩ := hrb
      have hro := Kept.own (K := msgK) HRB.out
      have HRO := hid hro
      have HOWN := hid hown
      have HEL := hid hel
      have HCL := hid (And.intro hcs hl0)
      have HEL2 := hid hel2
      have HNEWS := hid hnews
      have HXI := hid hxi2
      have HCS2 := hid hcs2
      have hn1 : (cs2.flatMap MC.cs).length = xi * 10 := by
        rw [hxi2, ← hcs2]
        clear hel2 hnews hcs2 HEL2 HNEWS HCS2
        induction cs2 with
        | nil => simp
        | cons c r ih => rw [List.flatMap_cons, List.length_append, ih, List.length_cons, show (MC.cs c).length = 10 from rfl]; omega
      have hn2 : ∀ u ∈ cs2.flatMap MC.cs, u.oneCell' = true := fun u hu => by
        obtain ⟨c, _, hc⟩ := List.mem_flatMap.1 hu
        simp only [MC.cs, List.mem_cons, List.not_mem_nil, or_false] at hc
        rcases hc with rfl | rfl | rfl | rfl | rfl | rfl | rfl | rfl | rfl | rfl <;> rfl
      have HN1 := hid hn1
      have HN2 := hid hn2
      have hx0 : 0 < xi := by omega
      have hcap1 : q + xi ≤ maxLen := by unfold maxLen; omega
      have hcap2 : (q + xi) * 152 ≤ 140737488355328 := by omega
      have hB := hkb.n
      have HDW := hid hbw
      clear hx hxa hxi hb hbw hil hs80 hkb hown hel hcs hl0 hel2 hnews hxi2 hcs2 hn1 hn2 hro hia hbi h0 hsum
      go_wp2_with (at_builtin; go_loud (refine wpList_append_lies _ (by rfl) _ _ 36 (by rfl) w3.heap.size 30 ti _ 10 152 Tryz.underlying36 hi hz0 hz1 hz2 rfl (by omega) (.slice va q vcap) q (cs.flatMap MC.cs) (by rfl) HOWN.out ⟨bi, oi, none⟩ xi x.ic (cs2.flatMap MC.cs) (by rfl) HN1.out HNEWS.out HN2.out hx0 hcap1 hcap2 hB wr.heap.size rfl ?_); intro gg cap5 w5 hown2 hgrow hat hlt2; have HO2 := hid hown2; have HG := hid hgrow; clear hown2 hgrow hat hlt2)
      go_roundw
      case rel =>
        have hxe := HXI.out
        have h1 := Kept.pushN (K := msgK) (l := waitL (d.l.take k)) (l2 := d.l[k].items) HCL.out.1 HCL.out.2 HEL.out (HCS2.out.trans hxe.symm) (by rw [hxe]; exact HIL.out.symm) (fun j h1 h2 => msgK.same (fun b q => ⟨Nat.lt_of_lt_of_le q HB3.out.size, rfl⟩) (HEL2.out j h1 h2)) hB (fun r e => (HRO.out r e).1) HO2.out HG.out
        exact ⟨k + 1, q + xi, _, rfl, by omega, by go_num, by rw [HTK.out, List.length_append, ← HQ0.out, hxe, HIL.out], ⟨HKB.out.b.grown HG.out hB (fun r e => (HRO.out r e).1), Nat.le_trans hB HG.out.size, fun p hp => by simp at hp⟩, by rw [HTK.out]; exact h1⟩
      case measure => simp [intOf]; omega
  · obtain rfl : sl = k := by omega
    have hqf : q = (waitL d.l).length := by rw [HQ0.out, show sl = d.l.length from HL.out, List.take_length]
    have hq80 : q ≤ 80 := by have := waitL_small HSMD.out; omega
    have HQ := hid hqf
    have hrb' := hrb
    rw [show sl = d.l.length from HL.out, List.take_length] at hrb'
    have HRW := hid (show IsRow msgK (· < wr.heap.size) wr va q vcap (waitL d.l) from hrb'.row hkb.n (by dsimp only; omega))
    have HKB := hid hkb
    have hup : Below (w.alloc (.cells #[.int .i64 sn, .int .i64 st, .slice a sl sc] 55)).heap.size (w.alloc (.cells #[.int .i64 sn, .int .i64 st, .slice a sl sc] 55)) wr := HB3A.out.trans (hkb.b.mono HB3A.out.size)
    have HUP := hid hup
    have HST : Hid (∀ w', Below wr.heap.size wr w' → IsSta (· < w'.heap.size) w' ⟨sn, st, a, sl, sc⟩ d) := hid fun w' h => HUA.out w' (HUP.out.trans (h.mono HUP.out.size))
    have HWF : Hid (Calls Tryz.prog 43 #[.agg #[.int .i64 sn, .int .i64 st, .slice a sl sc]] wr fun e w2 => ∃ a5 c5, e = .returned (.slice a5 q c5) ∧ Below wr.heap.size wr w2 ∧ IsRow msgK (fun b => wr.heap.size ≤ b ∧ b < w2.heap.size) w2 a5 q c5 (waitL d.l)) := hid ((waiting_call ⟨sn, st, a, sl, sc⟩ d wr (HST.out _ (Below.refl _ _)) HSMD.out).mono fun e w2 ⟨a5, n5, c5, h1, h2, h3⟩ => by
      obtain rfl : n5 = q := by have := h3.len; have := HQ.out; omega
      exact ⟨a5, c5, h1, h2, h3⟩)
    have HHE : Hid (∀ w', Below wr.heap.size wr w' → Calls Tryz.prog 44 #[.agg #[.int .i64 sn, .int .i64 st, .slice a sl sc]] w' fun e w2 => e = .returned (.int .i64 (q : Nat)) ∧ Below w'.heap.size w' w2) := hid fun w' h => by
      rw [HQ.out]; exact held_call ⟨sn, st, a, sl, sc⟩ d w' (HST.out w' h) HSMD.out
    obtain ⟨mm, hmm⟩ : ∃ mm, mm = massL (waitL d.l) := ⟨_, rfl⟩
    have HSMF : Hid (∀ w', Below wr.heap.size wr w' → Calls Tryz.prog 45 #[.agg #[.int .i64 sn, .int .i64 st, .slice a sl sc]] w' fun e w2 => e = .returned (.int .i64 mm) ∧ Below w'.heap.size w' w2) := hid fun w' h => by
      rw [hmm]; exact slotsMass_call ⟨sn, st, a, sl, sc⟩ d w' (HST.out w' h) HSMD.out
    have HMM : Hid (∀ w', Below wr.heap.size wr w' → Calls Tryz.prog 46 #[.slice va q vcap] w' fun e w2 => e = .returned (.int .i64 mm) ∧ Below w'.heap.size w' w2) := hid fun w' h => by
      rw [hmm]; exact mass_call va q vcap _ w' (HRW.out.same fun b q => ⟨Nat.lt_of_lt_of_le q h.size, h.block b q⟩)
    obtain ⟨k0, k1, k2⟩ := HBX.out _ hup
    clear hmm hrb hrb' hkb hup hqf HST
    go_wp2_with (first
        | (go_at_call 46; refine (HMM.out _ hb7).mono ?_; rintro e w8 ⟨rfl, hb8'⟩; have hb8 := hb7.trans (hb8'.mono hb7.size))
        | (go_at_call 45; refine (HSMF.out _ hb6).mono ?_; rintro e w7 ⟨rfl, hb7'⟩; have hb7 := hb6.trans (hb7'.mono hb6.size); clear k0 k1 k2; obtain ⟨k0, k1, k2⟩ := HBX.out _ (HUP.out.trans ((hb7).mono HUP.out.size)))
        | (go_at_call 44; refine (HHE.out _ hb5).mono ?_; rintro e w6 ⟨rfl, hb6'⟩; have hb6 := hb5.trans (hb6'.mono hb5.size); clear k0 k1 k2; obtain ⟨k0, k1, k2⟩ := HBX.out _ (HUP.out.trans ((hb6).mono HUP.out.size)))
        | (go_at_call 43; refine HWF.out.mono ?_; rintro e w5 ⟨a5, c5, rfl, hb5, hr5⟩; have HR5 := hid hr5; clear hr5; clear k0 k1 k2; obtain ⟨k0, k1, k2⟩ := HBX.out _ (HUP.out.trans ((hb5).mono HUP.out.size))))
    have HB8 := hid hb8
    have HB5 := hid hb5
    have HB58 := hid (show Below w5.heap.size w5 w8 from (hb6'.trans (hb7'.mono hb6'.size)).trans (hb8'.mono (Nat.le_trans hb6'.size hb7'.size)))
    clear k0 k1 k2 hb6 hb7 hb8 hb6' hb7' hb8' hb5 HMM HSMF HHE HWF
    go_loopw [6] (fun i wr2 => ∃ j : Nat, j ≤ q ∧ i = .int .i64 j ∧ Below w5.heap.size w5 wr2) (fun i _ => q - (intOf i).toNat)
    case atStart => exact ⟨0, Nat.zero_le _, rfl, HB58.out⟩
    case round =>
    obtain ⟨j, hj, rfl, hbr⟩ := hrel
    obtain ⟨wz, hwz⟩ : ∃ wz, wz = wr := ⟨_, rfl⟩
    rw [← hwz] at hbr ⊢
    clear hwz HB58 HB8
    have HBR := hid hbr
    by_cases hlt : j < q
    · have hjl : j < (waitL d.l).length := by have := HQ.out; omega
      obtain ⟨b5, o5, rfl, hb5', hx⟩ := HR5.out.slot (show 0 < q by omega)
      obtain ⟨bv, ov, rfl, hbv, hy⟩ := HRW.out.slot (show 0 < q by omega)
      obtain ⟨x, hxa, hxi⟩ := hx j hjl
      obtain ⟨y, hya, hyi⟩ := hy j hjl
      have hlt' : (j : Int) < (q : Int) := by omega
      have hj0 : (0 : Int) ≤ (j : Int) := by omega
      have hq80 : (q : Int) ≤ 80 := by omega
      obtain ⟨dm, hdm⟩ : ∃ dm, dm = (waitL d.l)[j] := ⟨_, rfl⟩
      rw [← hdm] at hxi hyi
      have HC14 : Hid (∀ w', Below wz.heap.size wz w' → (w'.cell? ⟨b5, o5 + j * 10, none⟩ = some (.int .i64 x.st.e) ∧ w'.cell? ⟨b5, o5 + j * 10 + 1, none⟩ = some (.slice x.st.a x.st.n x.st.c) ∧ w'.cell? ⟨b5, o5 + j * 10 + 2, none⟩ = some (.int .i64 x.m) ∧ w'.cell? ⟨b5, o5 + j * 10 + 3, none⟩ = some (.slice x.a x.n x.c) ∧ w'.cell? ⟨b5, o5 + j * 10 + 4, none⟩ = some (.int .i64 x.b.k) ∧ w'.cell? ⟨b5, o5 + j * 10 + 5, none⟩ = some (.int .i64 x.b.i) ∧ w'.cell? ⟨b5, o5 + j * 10 + 6, none⟩ = some (.int .i64 x.b.s) ∧ w'.cell? ⟨b5, o5 + j * 10 + 7, none⟩ = some (.string x.b.t) ∧ w'.cell? ⟨b5, o5 + j * 10 + 8, none⟩ = some (.slice x.b.la x.b.ll x.b.lc) ∧ w'.cell? ⟨b5, o5 + j * 10 + 9, none⟩ = some (.slice x.b.fa x.b.fl x.b.fc)) ∧ (w'.cell? ⟨bv, ov + j * 10, none⟩ = some (.int .i64 y.st.e) ∧ w'.cell? ⟨bv, ov + j * 10 + 1, none⟩ = some (.slice y.st.a y.st.n y.st.c) ∧ w'.cell? ⟨bv, ov + j * 10 + 2, none⟩ = some (.int .i64 y.m) ∧ w'.cell? ⟨bv, ov + j * 10 + 3, none⟩ = some (.slice y.a y.n y.c) ∧ w'.cell? ⟨bv, ov + j * 10 + 4, none⟩ = some (.int .i64 y.b.k) ∧ w'.cell? ⟨bv, ov + j * 10 + 5, none⟩ = some (.int .i64 y.b.i) ∧ w'.cell? ⟨bv, ov + j * 10 + 6, none⟩ = some (.int .i64 y.b.s) ∧ w'.cell? ⟨bv, ov + j * 10 + 7, none⟩ = some (.string y.b.t) ∧ w'.cell? ⟨bv, ov + j * 10 + 8, none⟩ = some (.slice y.b.la y.b.ll y.b.lc) ∧ w'.cell? ⟨bv, ov + j * 10 + 9, none⟩ = some (.slice y.b.fa y.b.fl y.b.fc))) := hid fun w' h => by
        have h1 := HBR.out.trans (h.mono HBR.out.size)
        have h2 := HB5.out.trans (h1.mono HB5.out.size)
        obtain ⟨x0, x1, x2, x3, x4, x5, x6, x7, x8, x9⟩ := (hxa.same (h1.block b5 hb5'.2)).m
        obtain ⟨y0, y1, y2, y3, y4, y5, y6, y7, y8, y9⟩ := (hya.same (h2.block bv hbv)).m
        exact ⟨⟨x0, x1, x2, x3, x4, x5, x6, x7, x8, x9⟩, ⟨y0, y1, y2, y3, y4, y5, y6, y7, y8, y9⟩⟩
      have HME : Hid (∀ w', Below wz.heap.size wz w' → Calls Tryz.prog 47 #[.agg #[.int .i64 x.st.e, .slice x.st.a x.st.n x.st.c, .int .i64 x.m, .slice x.a x.n x.c, .int .i64 x.b.k, .int .i64 x.b.i, .int .i64 x.b.s, .string x.b.t, .slice x.b.la x.b.ll x.b.lc, .slice x.b.fa x.b.fl x.b.fc], .agg #[.int .i64 y.st.e, .slice y.st.a y.st.n y.st.c, .int .i64 y.m, .slice y.a y.n y.c, .int .i64 y.b.k, .int .i64 y.b.i, .int .i64 y.b.s, .string y.b.t, .slice y.b.la y.b.ll y.b.lc, .slice y.b.fa y.b.fl y.b.fc]] w' fun e w2 => e = .returned (.bool true) ∧ Below w'.heap.size w' w2) := hid fun w' h => by
        have h1 := HBR.out.trans (h.mono HBR.out.size)
        have h2 := HB5.out.trans (h1.mono HB5.out.size)
        have hc := msgEqual_call x y dm dm w' (msgK.same (fun b q => ⟨Nat.lt_of_lt_of_le q.2 h1.size, h1.block b q.2⟩) hxi) (msgK.same (fun b q => ⟨Nat.lt_of_lt_of_le q h2.size, h2.block b q⟩) hyi)
        rw [msgEqB_refl] at hc
        exact hc
      clear hx hy hxa hxi hya hyi hb5' hbv hbr hdm hjl
      go_upto_region 14 with (fail)
      refine wp_region_split 10 (fun w' => Below wz.heap.size wz w') (by kernel_rfl) (by kernel_rfl) (by kernel_rfl) (by decide) ((Below.refl _ _).drew) (fun hS => ?_)
      simp only [List.take_succ_cons, List.take_zero, List.drop_succ_cons, List.drop_zero]
      refine wpAnyH_take (i := 0) (oi := _) (v := ?_) rfl (by kernel_rfl) (by kernel_rfl) (by kernel_rfl) (fun _ _ _ h => h) (Or.inl ⟨by rfl, ?_⟩) hS ?_
      rotate_left
      · intro w' hw'
        have hcells := HC14.out w' hw'
        go_simp
        (try with_reducible rfl)
      simp only [Act.put, List.getElem_toArray, List.getElem_cons_succ, List.getElem_cons_zero, List.setIfInBounds_toArray, List.set_cons_zero, List.set_cons_succ]
      refine wpAnyH_take (i := 1) (oi := _) (v := ?_) rfl (by kernel_rfl) (by kernel_rfl) (by kernel_rfl) (fun _ _ _ h => h) (Or.inl ⟨by rfl, ?_⟩) hS ?_
      rotate_left
      · intro w' hw'
        have hcells := HC14.out w' hw'
        go_simp
        (try with_reducible rfl)
      simp only [Act.put, List.getElem_toArray, List.getElem_cons_succ, List.getElem_cons_zero, List.setIfInBounds_toArray, List.set_cons_zero, List.set_cons_succ]
      refine wpAnyH_take (i := 2) (oi := _) (v := ?_) rfl (by kernel_rfl) (by kernel_rfl) (by kernel_rfl) (fun _ _ _ h => h) (Or.inl ⟨by rfl, ?_⟩) hS ?_
      rotate_left
      · intro w' hw'
        have hcells := HC14.out w' hw'
        go_simp
        (try with_reducible rfl)
      simp only [Act.put, List.getElem_toArray, List.getElem_cons_succ, List.getElem_cons_zero, List.setIfInBounds_toArray, List.set_cons_zero, List.set_cons_succ]
      refine wpAnyH_take (i := 3) (oi := _) (v := ?_) rfl (by kernel_rfl) (by kernel_rfl) (by kernel_rfl) (fun _ _ _ h => h) (Or.inl ⟨by rfl, ?_⟩) hS ?_
      rotate_left
      · intro w' hw'
        have hcells := HC14.out w' hw'
        go_simp
        (try with_reducible rfl)
      simp only [Act.put, List.getElem_toArray, List.getElem_cons_succ, List.getElem_cons_zero, List.setIfInBounds_toArray, List.set_cons_zero, List.set_cons_succ]
      refine wpAnyH_take (i := 4) (oi := _) (v := ?_) rfl (by kernel_rfl) (by kernel_rfl) (by kernel_rfl) (fun _ _ _ h => h) (Or.inl ⟨by rfl, ?_⟩) hS ?_
      rotate_left
      · intro w' hw'
        have hcells := HC14.out w' hw'
        go_simp
        (try with_reducible rfl)
      simp only [Act.put, List.getElem_toArray, List.getElem_cons_succ, List.getElem_cons_zero, List.setIfInBounds_toArray, List.set_cons_zero, List.set_cons_succ]
      refine wpAnyH_take (i := 5) (oi := _) (v := ?_) rfl (by kernel_rfl) (by kernel_rfl) (by kernel_rfl) (fun _ _ _ h => h) (Or.inl ⟨by rfl, ?_⟩) hS ?_
      rotate_left
      · intro w' hw'
        have hcells := HC14.out w' hw'
        go_simp
        (try with_reducible rfl)
      simp only [Act.put, List.getElem_toArray, List.getElem_cons_succ, List.getElem_cons_zero, List.setIfInBounds_toArray, List.set_cons_zero, List.set_cons_succ]
      refine wpAnyH_take (i := 6) (oi := _) (v := ?_) rfl (by kernel_rfl) (by kernel_rfl) (by kernel_rfl) (fun _ _ _ h => h) (Or.inl ⟨by rfl, ?_⟩) hS ?_
      rotate_left
      · intro w' hw'
        have hcells := HC14.out w' hw'
        go_simp
        (try with_reducible rfl)
      simp only [Act.put, List.getElem_toArray, List.getElem_cons_succ, List.getElem_cons_zero, List.setIfInBounds_toArray, List.set_cons_zero, List.set_cons_succ]
      refine wpAnyH_take (i := 7) (oi := _) (v := ?_) rfl (by kernel_rfl) (by kernel_rfl) (by kernel_rfl) (fun _ _ _ h => h) (Or.inl ⟨by rfl, ?_⟩) hS ?_
      rotate_left
      · intro w' hw'
        have hcells := HC14.out w' hw'
        go_simp
        (try with_reducible rfl)
      simp only [Act.put, List.getElem_toArray, List.getElem_cons_succ, List.getElem_cons_zero, List.setIfInBounds_toArray, List.set_cons_zero, List.set_cons_succ]
      refine wpAnyH_ready (rs := [8]) (by kernel_rfl) (by simp) ?_
      refine AllReadyH.cons (o := _) rfl (fun K hK => ?_) AllReadyH.nil
      go_simp; go_at_call 47; refine (HME.out _ hS).mono ?_
      rintro e wy ⟨rfl, hby⟩
      refine hK.out _ _ (hS.trans (hby.mono hS.size)) (fun hS => ?_)
      clear hK K
      (try simp only [Act.put, List.getElem_toArray, List.getElem_cons_succ, List.getElem_cons_zero, List.setIfInBounds_toArray, List.set_cons_zero, List.set_cons_succ])
      refine wpAnyH_take (i := 9) (oi := _) (v := ?_) rfl (by kernel_rfl) (by kernel_rfl) (by kernel_rfl) (fun _ _ _ h => h) (Or.inl ⟨by rfl, ?_⟩) hS ?_
      rotate_left
      · intro w' hw'
        have hcells := HC14.out w' hw'
        go_simp
        (try with_reducible rfl)
      simp only [Act.put, List.getElem_toArray, List.getElem_cons_succ, List.getElem_cons_zero, List.setIfInBounds_toArray, List.set_cons_zero, List.set_cons_succ]
      refine wpAnyH_done (by kernel_rfl) ?_ _
      (try dsimp only)
      have HBZ := hid hS
      clear hS
      go_wp2
      go_roundw
      case rel => exact ⟨j + 1, by omega, by go_num, HBR.out.trans (HBZ.out.mono HBR.out.size)⟩
      case measure => simp [intOf]; omega
    · obtain rfl : q = j := by omega
      clear hlt
      go_wp2
      go_ret
      exact ⟨rfl, HB3.out.trans ((HKB.out.b.trans ((HB5.out.trans (hbr.mono HB5.out.size)).mono HKB.out.n)).mono HB3.out.size)⟩
end Go.Proofs.YthjlgpmajeafpaaGreatDoor
