/-
  SlotsPuts returns true. Conditions: the state and the slot can be read as data; Tabs.
-/
import Derived.Test.YthjlgpmajeafpaaGreatDoorPlaceMrg
import Derived.Test.YthjlgpmajeafpaaGreatDoorPutMrg
import Derived.Test.YthjlgpmajeafpaaGreatDoorSmallSMrg
namespace Go.Proofs.YthjlgpmajeafpaaGreatDoor
open Go Go.RowKit Go.Shelf
set_option linter.unusedVariables false
set_option linter.unusedSimpArgs false

set_option maxRecDepth 100000 in
set_option maxHeartbeats 16000000 in
theorem slotsPuts_call (c : StC) (d : Sta) (x : SlC) (dx : Slot) (w : World) (hd : IsSta (· < w.heap.size) w c d) (hx : IsSl (· < w.heap.size) w x dx) (hT : Tabs w) : Calls Tryz.prog 10 #[c.v, x.v] w fun e w' => e = .returned (.bool true) ∧ Below w.heap.size w w' := by
  obtain ⟨ti, hi, hz0, hz1, hz2⟩ := info_parts infoSlot
  obtain ⟨sn, st, a, sl, sc⟩ := c
  have hbig := hd.l.big
  have HL := hid hd.l.len
  have HCAP := hid hd.l.cap
  dsimp only at hbig HL HCAP
  have HA := hid (show Below w.heap.size w ((w.alloc (.cells #[.int .i64 sn, .int .i64 st, .slice a sl sc] 55)).alloc (.cells #[.int .i64 x.k.k, .int .i64 x.k.i, .int .i64 x.k.s, .string x.k.t, .slice x.k.la x.k.ll x.k.lc, .slice x.k.fa x.k.fl x.k.fc, .int .i64 x.n, .int .i64 x.t, .slice x.ia x.il x.ic, .slice x.va x.vl x.vc] 58)) from ((Below.refl _ w).alloc (Nat.le_refl _) _).alloc (by simp) _)
  have HG := hid (show ((w.alloc (.cells #[.int .i64 sn, .int .i64 st, .slice a sl sc] 55)).alloc (.cells #[.int .i64 x.k.k, .int .i64 x.k.i, .int .i64 x.k.s, .string x.k.t, .slice x.k.la x.k.ll x.k.lc, .slice x.k.fa x.k.fl x.k.fc, .int .i64 x.n, .int .i64 x.t, .slice x.ia x.il x.ic, .slice x.va x.vl x.vc] 58)).heap[w.heap.size]? = some (.cells #[.int .i64 sn, .int .i64 st, .slice a sl sc] 55) from heapAlloc _ (heap_alloc_new w _))
  have HG2 := hid (show ((w.alloc (.cells #[.int .i64 sn, .int .i64 st, .slice a sl sc] 55)).alloc (.cells #[.int .i64 x.k.k, .int .i64 x.k.i, .int .i64 x.k.s, .string x.k.t, .slice x.k.la x.k.ll x.k.lc, .slice x.k.fa x.k.fl x.k.fc, .int .i64 x.n, .int .i64 x.t, .slice x.ia x.il x.ic, .slice x.va x.vl x.vc] 58)).heap[w.heap.size + 1]? = some (.cells #[.int .i64 x.k.k, .int .i64 x.k.i, .int .i64 x.k.s, .string x.k.t, .slice x.k.la x.k.ll x.k.lc, .slice x.k.fa x.k.fl x.k.fc, .int .i64 x.n, .int .i64 x.t, .slice x.ia x.il x.ic, .slice x.va x.vl x.vc] 58) from heapNewAt _ _ _ (by simp))
  have HT := hid hT
  have HD := hid hd
  have HXD := hid hx
  have HBX : Hid (∀ w', Below ((w.alloc (.cells #[.int .i64 sn, .int .i64 st, .slice a sl sc] 55)).alloc (.cells #[.int .i64 x.k.k, .int .i64 x.k.i, .int .i64 x.k.s, .string x.k.t, .slice x.k.la x.k.ll x.k.lc, .slice x.k.fa x.k.fl x.k.fc, .int .i64 x.n, .int .i64 x.t, .slice x.ia x.il x.ic, .slice x.va x.vl x.vc] 58)).heap.size ((w.alloc (.cells #[.int .i64 sn, .int .i64 st, .slice a sl sc] 55)).alloc (.cells #[.int .i64 x.k.k, .int .i64 x.k.i, .int .i64 x.k.s, .string x.k.t, .slice x.k.la x.k.ll x.k.lc, .slice x.k.fa x.k.fl x.k.fc, .int .i64 x.n, .int .i64 x.t, .slice x.ia x.il x.ic, .slice x.va x.vl x.vc] 58)) w' → (w'.cell? ⟨w.heap.size, 0, none⟩ = some (.int .i64 sn) ∧ w'.cell? ⟨w.heap.size, 1, none⟩ = some (.int .i64 st) ∧ w'.cell? ⟨w.heap.size, 2, none⟩ = some (.slice a sl sc)) ∧ (w'.cell? ⟨w.heap.size + 1, 0, none⟩ = some (.int .i64 x.k.k) ∧ w'.cell? ⟨w.heap.size + 1, 1, none⟩ = some (.int .i64 x.k.i) ∧ w'.cell? ⟨w.heap.size + 1, 2, none⟩ = some (.int .i64 x.k.s) ∧ w'.cell? ⟨w.heap.size + 1, 3, none⟩ = some (.string x.k.t) ∧ w'.cell? ⟨w.heap.size + 1, 4, none⟩ = some (.slice x.k.la x.k.ll x.k.lc) ∧ w'.cell? ⟨w.heap.size + 1, 5, none⟩ = some (.slice x.k.fa x.k.fl x.k.fc) ∧ w'.cell? ⟨w.heap.size + 1, 6, none⟩ = some (.int .i64 x.n) ∧ w'.cell? ⟨w.heap.size + 1, 7, none⟩ = some (.int .i64 x.t) ∧ w'.cell? ⟨w.heap.size + 1, 8, none⟩ = some (.slice x.ia x.il x.ic) ∧ w'.cell? ⟨w.heap.size + 1, 9, none⟩ = some (.slice x.va x.vl x.vc))) := hid fun w' h => by
    have h1 := heapExt h HG.out
    have h2 := heapExt h HG2.out
    exact ⟨⟨cellOf h1 0, cellOf h1 1, cellOf h1 2⟩, cellOf h2 0, cellOf h2 1, cellOf h2 2, cellOf h2 3, cellOf h2 4, cellOf h2 5, cellOf h2 6, cellOf h2 7, cellOf h2 8, cellOf h2 9⟩
  have HUA : Hid (∀ w', Below ((w.alloc (.cells #[.int .i64 sn, .int .i64 st, .slice a sl sc] 55)).alloc (.cells #[.int .i64 x.k.k, .int .i64 x.k.i, .int .i64 x.k.s, .string x.k.t, .slice x.k.la x.k.ll x.k.lc, .slice x.k.fa x.k.fl x.k.fc, .int .i64 x.n, .int .i64 x.t, .slice x.ia x.il x.ic, .slice x.va x.vl x.vc] 58)).heap.size ((w.alloc (.cells #[.int .i64 sn, .int .i64 st, .slice a sl sc] 55)).alloc (.cells #[.int .i64 x.k.k, .int .i64 x.k.i, .int .i64 x.k.s, .string x.k.t, .slice x.k.la x.k.ll x.k.lc, .slice x.k.fa x.k.fl x.k.fc, .int .i64 x.n, .int .i64 x.t, .slice x.ia x.il x.ic, .slice x.va x.vl x.vc] 58)) w' → Below w.heap.size w w' ∧ IsSta (· < w'.heap.size) w' ⟨sn, st, a, sl, sc⟩ d ∧ IsSl (· < w'.heap.size) w' x dx) := hid fun w' h => by
    have hw := HA.out.trans (h.mono HA.out.size)
    have hs := hw.size
    exact ⟨hw, HD.out.same fun b q => ⟨by omega, hw.block b q⟩, HXD.out.same fun b q => ⟨by omega, hw.block b q⟩⟩
  obtain ⟨cs0, hcl0, hc0, hel0⟩ := IsRow.cl hd.l
  have HCL := hid hcl0
  have HEL0 := hid hel0
  have HC00 := hid hc0
  have HCS : Hid (∀ w', Below ((w.alloc (.cells #[.int .i64 sn, .int .i64 st, .slice a sl sc] 55)).alloc (.cells #[.int .i64 x.k.k, .int .i64 x.k.i, .int .i64 x.k.s, .string x.k.t, .slice x.k.la x.k.ll x.k.lc, .slice x.k.fa x.k.fl x.k.fc, .int .i64 x.n, .int .i64 x.t, .slice x.ia x.il x.ic, .slice x.va x.vl x.vc] 58)).heap.size ((w.alloc (.cells #[.int .i64 sn, .int .i64 st, .slice a sl sc] 55)).alloc (.cells #[.int .i64 x.k.k, .int .i64 x.k.i, .int .i64 x.k.s, .string x.k.t, .slice x.k.la x.k.ll x.k.lc, .slice x.k.fa x.k.fl x.k.fc, .int .i64 x.n, .int .i64 x.t, .slice x.ia x.il x.ic, .slice x.va x.vl x.vc] 58)) w' → Cl slK w' a sl cs0) := hid fun w' h => HC00.out.ext (HUA.out w' h).1
  have HCD : Hid (∀ w', Below ((w.alloc (.cells #[.int .i64 sn, .int .i64 st, .slice a sl sc] 55)).alloc (.cells #[.int .i64 x.k.k, .int .i64 x.k.i, .int .i64 x.k.s, .string x.k.t, .slice x.k.la x.k.ll x.k.lc, .slice x.k.fa x.k.fl x.k.fc, .int .i64 x.n, .int .i64 x.t, .slice x.ia x.il x.ic, .slice x.va x.vl x.vc] 58)).heap.size ((w.alloc (.cells #[.int .i64 sn, .int .i64 st, .slice a sl sc] 55)).alloc (.cells #[.int .i64 x.k.k, .int .i64 x.k.i, .int .i64 x.k.s, .string x.k.t, .slice x.k.la x.k.ll x.k.lc, .slice x.k.fa x.k.fl x.k.fc, .int .i64 x.n, .int .i64 x.t, .slice x.ia x.il x.ic, .slice x.va x.vl x.vc] 58)) w' → ∀ j (h1 : j < cs0.length) (h2 : j < d.l.length), IsSl (· < w.heap.size) w' cs0[j] d.l[j]) := hid fun w' h j h1 h2 => (HEL0.out j h1 h2).same fun b q => ⟨q, (HUA.out w' h).1.block b q⟩
  have HK : Hid (∀ w', Below ((w.alloc (.cells #[.int .i64 sn, .int .i64 st, .slice a sl sc] 55)).alloc (.cells #[.int .i64 x.k.k, .int .i64 x.k.i, .int .i64 x.k.s, .string x.k.t, .slice x.k.la x.k.ll x.k.lc, .slice x.k.fa x.k.fl x.k.fc, .int .i64 x.n, .int .i64 x.t, .slice x.ia x.il x.ic, .slice x.va x.vl x.vc] 58)).heap.size ((w.alloc (.cells #[.int .i64 sn, .int .i64 st, .slice a sl sc] 55)).alloc (.cells #[.int .i64 x.k.k, .int .i64 x.k.i, .int .i64 x.k.s, .string x.k.t, .slice x.k.la x.k.ll x.k.lc, .slice x.k.fa x.k.fl x.k.fc, .int .i64 x.n, .int .i64 x.t, .slice x.ia x.il x.ic, .slice x.va x.vl x.vc] 58)) w' → Calls Tryz.prog 29 #[] w' fun e w2 => e = .returned (.bool true) ∧ Below w'.heap.size w' w2) := hid fun w' h => knownS_call w' (HT.out.below (HUA.out w' h).1)
  have HSM : Hid (∀ w', Below ((w.alloc (.cells #[.int .i64 sn, .int .i64 st, .slice a sl sc] 55)).alloc (.cells #[.int .i64 x.k.k, .int .i64 x.k.i, .int .i64 x.k.s, .string x.k.t, .slice x.k.la x.k.ll x.k.lc, .slice x.k.fa x.k.fl x.k.fc, .int .i64 x.n, .int .i64 x.t, .slice x.ia x.il x.ic, .slice x.va x.vl x.vc] 58)).heap.size ((w.alloc (.cells #[.int .i64 sn, .int .i64 st, .slice a sl sc] 55)).alloc (.cells #[.int .i64 x.k.k, .int .i64 x.k.i, .int .i64 x.k.s, .string x.k.t, .slice x.k.la x.k.ll x.k.lc, .slice x.k.fa x.k.fl x.k.fc, .int .i64 x.n, .int .i64 x.t, .slice x.ia x.il x.ic, .slice x.va x.vl x.vc] 58)) w' → Calls Tryz.prog 30 #[.agg #[.int .i64 sn, .int .i64 st, .slice a sl sc]] w' (SmStPost d w')) := hid fun w' h => smallSta_call ⟨sn, st, a, sl, sc⟩ d w' (HUA.out w' h).2.1
  have HSV : Hid (∀ w', Below ((w.alloc (.cells #[.int .i64 sn, .int .i64 st, .slice a sl sc] 55)).alloc (.cells #[.int .i64 x.k.k, .int .i64 x.k.i, .int .i64 x.k.s, .string x.k.t, .slice x.k.la x.k.ll x.k.lc, .slice x.k.fa x.k.fl x.k.fc, .int .i64 x.n, .int .i64 x.t, .slice x.ia x.il x.ic, .slice x.va x.vl x.vc] 58)).heap.size ((w.alloc (.cells #[.int .i64 sn, .int .i64 st, .slice a sl sc] 55)).alloc (.cells #[.int .i64 x.k.k, .int .i64 x.k.i, .int .i64 x.k.s, .string x.k.t, .slice x.k.la x.k.ll x.k.lc, .slice x.k.fa x.k.fl x.k.fc, .int .i64 x.n, .int .i64 x.t, .slice x.ia x.il x.ic, .slice x.va x.vl x.vc] 58)) w' → Calls Tryz.prog 50 #[.agg #[.int .i64 x.k.k, .int .i64 x.k.i, .int .i64 x.k.s, .string x.k.t, .slice x.k.la x.k.ll x.k.lc, .slice x.k.fa x.k.fl x.k.fc, .int .i64 x.n, .int .i64 x.t, .slice x.ia x.il x.ic, .slice x.va x.vl x.vc]] w' (SmSlPost dx w')) := hid fun w' h => smallSlot_call x dx w' (HUA.out w' h).2.2
  have HSO : Hid (∀ w', Below ((w.alloc (.cells #[.int .i64 sn, .int .i64 st, .slice a sl sc] 55)).alloc (.cells #[.int .i64 x.k.k, .int .i64 x.k.i, .int .i64 x.k.s, .string x.k.t, .slice x.k.la x.k.ll x.k.lc, .slice x.k.fa x.k.fl x.k.fc, .int .i64 x.n, .int .i64 x.t, .slice x.ia x.il x.ic, .slice x.va x.vl x.vc] 58)).heap.size ((w.alloc (.cells #[.int .i64 sn, .int .i64 st, .slice a sl sc] 55)).alloc (.cells #[.int .i64 x.k.k, .int .i64 x.k.i, .int .i64 x.k.s, .string x.k.t, .slice x.k.la x.k.ll x.k.lc, .slice x.k.fa x.k.fl x.k.fc, .int .i64 x.n, .int .i64 x.t, .slice x.ia x.il x.ic, .slice x.va x.vl x.vc] 58)) w' → Calls Tryz.prog 34 #[.agg #[.int .i64 sn, .int .i64 st, .slice a sl sc]] w' (SrtPost w' d.l)) := hid fun w' h => sorted_call ⟨sn, st, a, sl, sc⟩ d w' (HUA.out w' h).2.1
  clear hd hx hT hcl0 hc0 hel0
  obtain ⟨⟨k0, k1, k2⟩, ⟨x0, x1, x2, x3, x4, x5, x6, x7, x8, x9⟩⟩ := HBX.out _ (Below.refl _ _)
  dsimp only [StC.v, SlC.v]
  go_enter Tryz.func10, Tryz.ntmps10
  go_upto_region 3 with (first
    | (go_at_call 29; refine (HK.out _ hb5).mono ?_; rintro e w9 ⟨rfl, hb9⟩; have hbz := hb5.trans (hb9.mono hb5.size))
    | (go_at_call 29; refine (HK.out _ hb4).mono ?_; rintro e w9 ⟨rfl, hb9⟩; have hbz := hb4.trans (hb9.mono hb4.size))
    | (go_at_call 29; refine (HK.out _ hb3).mono ?_; rintro e w9 ⟨rfl, hb9⟩; have hbz := hb3.trans (hb9.mono hb3.size))
    | (go_at_call 34; refine (HSO.out _ hb4).mono ?_; rintro e w5 ⟨⟨b3, rfl, hs3, _⟩, hb5'⟩; have hb5 := hb4.trans (hb5'.mono hb4.size); clear k0 k1 k2 x0 x1 x2 x3 x4 x5 x6 x7 x8 x9; obtain ⟨⟨k0, k1, k2⟩, ⟨x0, x1, x2, x3, x4, x5, x6, x7, x8, x9⟩⟩ := HBX.out _ (hb5); cases b3)
    | (go_at_call 50; refine (HSV.out _ hb3).mono ?_; rintro e w4 ⟨⟨b2, rfl, _⟩, hb4'⟩; have hb4 := hb3.trans (hb4'.mono hb3.size); clear k0 k1 k2 x0 x1 x2 x3 x4 x5 x6 x7 x8 x9; obtain ⟨⟨k0, k1, k2⟩, ⟨x0, x1, x2, x3, x4, x5, x6, x7, x8, x9⟩⟩ := HBX.out _ (hb4); cases b2)
    | (go_at_call 30; refine (HSM.out _ hb2).mono ?_; rintro e w3 ⟨⟨b1, rfl, hs1⟩, hb3'⟩; have hb3 := hb2.trans (hb3'.mono hb2.size); clear k0 k1 k2 x0 x1 x2 x3 x4 x5 x6 x7 x8 x9; obtain ⟨⟨k0, k1, k2⟩, ⟨x0, x1, x2, x3, x4, x5, x6, x7, x8, x9⟩⟩ := HBX.out _ (hb3); cases b1)
    | (go_at_call 29; refine (HK.out _ (Below.refl _ _)).mono ?_; rintro e w2 ⟨rfl, hb2⟩; clear k0 k1 k2 x0 x1 x2 x3 x4 x5 x6 x7 x8 x9; obtain ⟨⟨k0, k1, k2⟩, ⟨x0, x1, x2, x3, x4, x5, x6, x7, x8, x9⟩⟩ := HBX.out _ (hb2)))
  · go_ret
    exact ⟨rfl, HA.out.trans (hbz.mono HA.out.size)⟩
  · go_ret
    exact ⟨rfl, HA.out.trans (hbz.mono HA.out.size)⟩
  · go_ret
    exact ⟨rfl, HA.out.trans (hbz.mono HA.out.size)⟩
  have hsrt : Srt d.l := by first | exact hs3 rfl | exact hs3 trivial | exact hs3
  have hsm : SmSta d := by first | exact hs1 rfl | exact hs1 trivial | exact hs1
  have hsl10 : sl ≤ 10 := by have h1 := hsm.1; have h2 := HL.out; omega
  have HSRT := hid hsrt
  clear HK HSM HSV HSO hs1 hb3' hb4' hb5' hb2 hb3 hb4 hs3 hsm hsrt
  obtain ⟨pi, hpi⟩ : ∃ p, p = placeI d.l dx.k := ⟨_, rfl⟩
  obtain ⟨pb, hpb⟩ : ∃ p, p = placeB d.l dx.k := ⟨_, rfl⟩
  have HPI := hid hpi
  have HPB := hid hpb
  have HPLC : Hid (∀ w', Below ((w.alloc (.cells #[.int .i64 sn, .int .i64 st, .slice a sl sc] 55)).alloc (.cells #[.int .i64 x.k.k, .int .i64 x.k.i, .int .i64 x.k.s, .string x.k.t, .slice x.k.la x.k.ll x.k.lc, .slice x.k.fa x.k.fl x.k.fc, .int .i64 x.n, .int .i64 x.t, .slice x.ia x.il x.ic, .slice x.va x.vl x.vc] 58)).heap.size ((w.alloc (.cells #[.int .i64 sn, .int .i64 st, .slice a sl sc] 55)).alloc (.cells #[.int .i64 x.k.k, .int .i64 x.k.i, .int .i64 x.k.s, .string x.k.t, .slice x.k.la x.k.ll x.k.lc, .slice x.k.fa x.k.fl x.k.fc, .int .i64 x.n, .int .i64 x.t, .slice x.ia x.il x.ic, .slice x.va x.vl x.vc] 58)) w' → Calls Tryz.prog 37 #[.agg #[.int .i64 sn, .int .i64 st, .slice a sl sc], .agg #[.int .i64 x.k.k, .int .i64 x.k.i, .int .i64 x.k.s, .string x.k.t, .slice x.k.la x.k.ll x.k.lc, .slice x.k.fa x.k.fl x.k.fc]] w' fun e w2 => e = .returned (.tuple #[.int .i64 (pi : Nat), .bool pb]) ∧ Below w'.heap.size w' w2) := hid fun w' h => by
    have hc := place_call ⟨sn, st, a, sl, sc⟩ d x.k dx.k w' (HUA.out w' h).2.1 (HUA.out w' h).2.2.k
    exact hc.mono fun e w2 h => ⟨h.1.trans (by rw [← hpi, ← hpb]), h.2⟩
  have HPL := hid (show pi ≤ sl by have := placeI_le d.l dx.k; have := HL.out; omega)
  have hplz : (pi : Int) ≤ (sl : Int) := by have := HPL.out; omega
  have hplc : (pi : Int) ≤ (sc : Int) := by have := HPL.out; have := HCAP.out; omega
  have hpl0 : (0 : Int) ≤ (pi : Int) := by omega
  clear hpi hpb
  go_upto_region 5 with (go_at_call 37; refine (HPLC.out _ hb5).mono ?_; rintro e w6 ⟨rfl, hb6'⟩; have hb6 := hb5.trans (hb6'.mono hb5.size); clear k0 k1 k2 x0 x1 x2 x3 x4 x5 x6 x7 x8 x9; obtain ⟨⟨k0, k1, k2⟩, ⟨x0, x1, x2, x3, x4, x5, x6, x7, x8, x9⟩⟩ := HBX.out _ (hb6))
  clear k0 k1 k2 x0 x1 x2 x3 x4 x5 x6 x7 x8 x9 HPLC hb6'
  obtain ⟨wv, hwv⟩ : ∃ wv, wv = w6.alloc (.cells #[.int .i64 sn, .int .i64 st, .slice none 0 0] 55) := ⟨_, rfl⟩
  rw [← hwv]
  have HNB := hid (show wv.heap[w6.heap.size]? = some (.cells #[.int .i64 sn, .int .i64 st, .slice none 0 0] 55) by rw [hwv]; exact heap_alloc_new w6 _)
  have HBA := hid (show Below ((w.alloc (.cells #[.int .i64 sn, .int .i64 st, .slice a sl sc] 55)).alloc (.cells #[.int .i64 x.k.k, .int .i64 x.k.i, .int .i64 x.k.s, .string x.k.t, .slice x.k.la x.k.ll x.k.lc, .slice x.k.fa x.k.fl x.k.fc, .int .i64 x.n, .int .i64 x.t, .slice x.ia x.il x.ic, .slice x.va x.vl x.vc] 58)).heap.size ((w.alloc (.cells #[.int .i64 sn, .int .i64 st, .slice a sl sc] 55)).alloc (.cells #[.int .i64 x.k.k, .int .i64 x.k.i, .int .i64 x.k.s, .string x.k.t, .slice x.k.la x.k.ll x.k.lc, .slice x.k.fa x.k.fl x.k.fc, .int .i64 x.n, .int .i64 x.t, .slice x.ia x.il x.ic, .slice x.va x.vl x.vc] 58)) wv by rw [hwv]; exact hb6.alloc hb6.size _)
  have HSV := hid (show wv.heap.size = w6.heap.size + 1 by rw [hwv]; simp)
  have HCT : Hid (∀ w', Below wv.heap.size wv w' → w.heap.size ≤ w'.heap.size ∧ IsSl (· < w.heap.size) w' x dx ∧ Cl slK w' a sl cs0 ∧ ∀ j (h1 : j < cs0.length) (h2 : j < d.l.length), IsSl (· < w.heap.size) w' cs0[j] d.l[j]) := hid fun w' h => by
    have h1 := HBA.out.trans (h.mono HBA.out.size)
    have h2 := (HUA.out w' h1).1
    exact ⟨h2.size, HXD.out.same (fun b q => ⟨q, h2.block b q⟩), HCS.out w' h1, HCD.out w' h1⟩
  have HDR := hid (show Below wv.heap.size wv wv.drew from (Below.refl _ _).drew)
  clear hwv
  cases pb with
  | true =>
    have hplt : pi < sl := by have := placeB_lt HPB.out.symm; have := HPI.out; have := HL.out; omega
    have hpq0 : (0 : Int) ≤ (pi : Int) + 1 := by omega
    have hpq1 : (pi : Int) + 1 ≤ (sl : Int) := by omega
    have hpqt : ((pi : Int) + 1).toNat = pi + 1 := by omega
    obtain ⟨b, o, hab, hb, _⟩ := HD.out.l.slot (show 0 < sl by omega)
    subst hab
    have HC5 : Hid (∀ w', Below wv.heap.size wv w' → w'.cell? ⟨w6.heap.size, 2, none⟩ = some (.slice none 0 0) ∧ w'.cell? ⟨w.heap.size, 2, none⟩ = some (.slice (some ⟨b, o, none⟩) sl sc) ∧ (w'.cell? ⟨w.heap.size + 1, 0, none⟩ = some (.int .i64 x.k.k) ∧ w'.cell? ⟨w.heap.size + 1, 1, none⟩ = some (.int .i64 x.k.i) ∧ w'.cell? ⟨w.heap.size + 1, 2, none⟩ = some (.int .i64 x.k.s) ∧ w'.cell? ⟨w.heap.size + 1, 3, none⟩ = some (.string x.k.t) ∧ w'.cell? ⟨w.heap.size + 1, 4, none⟩ = some (.slice x.k.la x.k.ll x.k.lc) ∧ w'.cell? ⟨w.heap.size + 1, 5, none⟩ = some (.slice x.k.fa x.k.fl x.k.fc) ∧ w'.cell? ⟨w.heap.size + 1, 6, none⟩ = some (.int .i64 x.n) ∧ w'.cell? ⟨w.heap.size + 1, 7, none⟩ = some (.int .i64 x.t) ∧ w'.cell? ⟨w.heap.size + 1, 8, none⟩ = some (.slice x.ia x.il x.ic) ∧ w'.cell? ⟨w.heap.size + 1, 9, none⟩ = some (.slice x.va x.vl x.vc))) := hid fun w' h => by
      have h1 := heapExt h HNB.out
      have h2 := HBX.out _ (HBA.out.trans (h.mono HBA.out.size))
      exact ⟨cellOf h1 2, h2.1.2.2, h2.2⟩
    refine wp_region_split 10 (fun w' => Below wv.heap.size wv w') (by kernel_rfl) (by kernel_rfl) (by kernel_rfl) (by decide) ((Below.refl _ _).drew) (fun hS => ?_)
    simp only [List.take_succ_cons, List.take_zero, List.drop_succ_cons, List.drop_zero]
    refine wpAnyH_take (i := 0) (oi := _) (v := ?_) rfl (by kernel_rfl) (by kernel_rfl) (by kernel_rfl) (fun _ _ _ h => h) (Or.inl ⟨by rfl, ?_⟩) hS ?_
    rotate_left
    · intro w' hw'
      have hcells := HC5.out w' hw'
      go_simp
      (try with_reducible rfl)
    simp only [Act.put, List.getElem_toArray, List.getElem_cons_succ, List.getElem_cons_zero, List.setIfInBounds_toArray, List.set_cons_zero, List.set_cons_succ]
    refine wpAnyH_take (i := 1) (oi := _) (v := ?_) rfl (by kernel_rfl) (by kernel_rfl) (by kernel_rfl) (fun _ _ _ h => h) (Or.inl ⟨by rfl, ?_⟩) hS ?_
    rotate_left
    · intro w' hw'
      have hcells := HC5.out w' hw'
      go_simp
      (try with_reducible rfl)
    simp only [Act.put, List.getElem_toArray, List.getElem_cons_succ, List.getElem_cons_zero, List.setIfInBounds_toArray, List.set_cons_zero, List.set_cons_succ]
    refine wpAnyH_take (i := 2) (oi := _) (v := ?_) rfl (by kernel_rfl) (by kernel_rfl) (by kernel_rfl) (fun _ _ _ h => h) (Or.inl ⟨by rfl, ?_⟩) hS ?_
    rotate_left
    · intro w' hw'
      have hcells := HC5.out w' hw'
      go_simp
      (try with_reducible rfl)
    simp only [Act.put, List.getElem_toArray, List.getElem_cons_succ, List.getElem_cons_zero, List.setIfInBounds_toArray, List.set_cons_zero, List.set_cons_succ]
    refine wpAnyH_take (i := 3) (oi := _) (v := ?_) rfl (by kernel_rfl) (by kernel_rfl) (by kernel_rfl) (fun _ _ _ h => h) (Or.inl ⟨by rfl, ?_⟩) hS ?_
    rotate_left
    · intro w' hw'
      have hcells := HC5.out w' hw'
      go_simp
      (try with_reducible rfl)
    simp only [Act.put, List.getElem_toArray, List.getElem_cons_succ, List.getElem_cons_zero, List.setIfInBounds_toArray, List.set_cons_zero, List.set_cons_succ]
    refine wpAnyH_take (i := 4) (oi := _) (v := ?_) rfl (by kernel_rfl) (by kernel_rfl) (by kernel_rfl) (fun _ _ _ h => h) (Or.inl ⟨by rfl, ?_⟩) hS ?_
    rotate_left
    · intro w' hw'
      have hcells := HC5.out w' hw'
      go_simp
      (try with_reducible rfl)
    simp only [Act.put, List.getElem_toArray, List.getElem_cons_succ, List.getElem_cons_zero, List.setIfInBounds_toArray, List.set_cons_zero, List.set_cons_succ]
    refine wpAnyH_take (i := 5) (oi := _) (v := ?_) rfl (by kernel_rfl) (by kernel_rfl) (by kernel_rfl) (fun _ _ _ h => h) (Or.inl ⟨by rfl, ?_⟩) hS ?_
    rotate_left
    · intro w' hw'
      have hcells := HC5.out w' hw'
      go_simp
      (try with_reducible rfl)
    simp only [Act.put, List.getElem_toArray, List.getElem_cons_succ, List.getElem_cons_zero, List.setIfInBounds_toArray, List.set_cons_zero, List.set_cons_succ]
    refine wpAnyH_take (i := 7) (oi := _) (v := ?_) rfl (by kernel_rfl) (by kernel_rfl) (by kernel_rfl) (fun _ _ _ h => h) (Or.inl ⟨by rfl, ?_⟩) hS ?_
    rotate_left
    · intro w' hw'
      have hcells := HC5.out w' hw'
      go_simp
      (try with_reducible rfl)
    simp only [Act.put, List.getElem_toArray, List.getElem_cons_succ, List.getElem_cons_zero, List.setIfInBounds_toArray, List.set_cons_zero, List.set_cons_succ]
    refine wpAnyH_ready (rs := [6, 8]) (by kernel_rfl) (by simp) ?_
    refine AllReadyH.cons (o := _) rfl (fun K hK => ?_) ?_
    · have hk0 := Kept.nil (K := slK) 58 w.heap.size wv.drew
      have hct := HCT.out wv.drew HDR.out
      obtain ⟨a1, cap1, w1, hr1, hk1, hg1, hat1⟩ := run_append_kept (K := slK) (P := Tryz.prog) (w := wv.drew) (ty := 53) Tryz.underlying53 hi hz0 (by rw [hz1]) (by rw [hz2]; omega) rfl one_sl hk0 sc (cl_take hct.2.2.1 pi HPL.out) (l2 := d.l.take pi) (by rw [List.length_take]; have := HL.out; have := HPL.out; omega) (take_els hct.2.2.2 pi) hct.1 (by omega)
      rw [Nat.zero_add] at hr1 hk1 hat1
      rw [List.nil_append] at hk1
      refine step_append_run (by rfl) _ _ _ (by rfl) _ _ _ _ (by rfl) (by rfl) hr1 ?_
      clear hr1
      have HK1 := hid hk1
      have HAT1 := hid (show ∀ r, (Value.slice a1 pi cap1).ownBlock = some r → wv.heap.size ≤ r from fun r hr => (hat1 r hr).elim (fun e => by cases e) (fun e => by rw [e]; exact (HDR.out).size))
      have hb1 : Below wv.drew.heap.size wv.drew w1 := grown_below hg1 (fun r e => by cases e) (Nat.le_refl _)
      have hbv1 : Below wv.heap.size wv w1 := (HDR.out).trans (hb1.mono (HDR.out).size)
      have HB1 := hid hbv1
      clear hb1
      refine hK.out _ _ (hbv1) (fun hS => ?_)
      clear hK K
      (try simp only [Act.put, List.getElem_toArray, List.getElem_cons_succ, List.getElem_cons_zero, List.setIfInBounds_toArray, List.set_cons_zero, List.set_cons_succ])
      refine wpAnyH_ready (rs := [8]) (by kernel_rfl) (by simp) ?_
      refine AllReadyH.cons (o := _) rfl (fun K hK => ?_) AllReadyH.nil
      go_simp
      obtain ⟨wX, hwX⟩ : ∃ u, u = w1.alloc (.cells #[.int .i64 x.k.k, .int .i64 x.k.i, .int .i64 x.k.s, .string x.k.t, .slice x.k.la x.k.ll x.k.lc, .slice x.k.fa x.k.fl x.k.fc, .int .i64 x.n, .int .i64 x.t, .slice x.ia x.il x.ic, .slice x.va x.vl x.vc] 58) := ⟨_, rfl⟩
      rw [← hwX]
      have hbx1 : Below w1.heap.size w1 wX := by rw [hwX]; exact (Below.refl _ _).alloc (Nat.le_refl _) _
      have HXB := hid (HB1.out.trans (hbx1.mono HB1.out.size))
      have HCX1 := hid (show wX.heap[w1.heap.size]? = some (.cells #[.int .i64 x.k.k, .int .i64 x.k.i, .int .i64 x.k.s, .string x.k.t, .slice x.k.la x.k.ll x.k.lc, .slice x.k.fa x.k.fl x.k.fc, .int .i64 x.n, .int .i64 x.t, .slice x.ia x.il x.ic, .slice x.va x.vl x.vc] 58) by rw [hwX]; exact heap_alloc_new w1 _)
      have HKW := hid (HK1.out.ext (HUA.out _ (HBA.out.trans (HB1.out.mono HBA.out.size))).1.size hbx1)
      have HBW := HXB
      clear hwX hbx1
      refine hK.out _ _ (HXB.out) (fun hS => ?_)
      clear hK K
      (try simp only [Act.put, List.getElem_toArray, List.getElem_cons_succ, List.getElem_cons_zero, List.setIfInBounds_toArray, List.set_cons_zero, List.set_cons_succ])
      refine wpAnyH_ready (rs := [9]) (by kernel_rfl) (by simp) ?_
      refine AllReadyH.cons (o := _) rfl (fun K hK => ?_) AllReadyH.nil
      have hct := HCT.out wX HBW.out
      have hcx : Cl slK wX (some ⟨w1.heap.size, 0, none⟩) 1 [x] := ⟨rfl, .inr ⟨_, rfl, fun t u hu => (by simp only [List.flatMap_cons, List.flatMap_nil, List.append_nil] at hu; exact World.news_of_block HCX1.out t u hu)⟩⟩
      obtain ⟨a2, cap2, w2', hr2, hk2, hg2, hat2⟩ := run_append_kept (K := slK) (P := Tryz.prog) (w := wX) (ty := 53) Tryz.underlying53 hi hz0 (by rw [hz1]) (by rw [hz2]; omega) rfl one_sl HKW.out 1 hcx (l2 := [dx]) rfl (one_els hct.2.1) hct.1 (by omega)
      refine step_append_run (by rfl) _ _ _ (by rfl) _ _ _ _ (by rfl) (by rfl) hr2 ?_
      clear hr2 hcx
      have hbg2 : Below wv.heap.size wX w2' := grown_below hg2 HAT1.out HBW.out.size
      have HB2 := hid (HBW.out.trans hbg2)
      have HK2 := hid hk2
      have HAT2 := hid (show ∀ r, (Value.slice a2 (pi + 1) cap2).ownBlock = some r → wv.heap.size ≤ r from fun r hr => (hat2 r hr).elim (fun e => HAT1.out r e) (fun e => by rw [e]; exact HBW.out.size))
      clear hbg2 hk2 hat2 hg2 hct
      refine hK.out _ _ (HB2.out) (fun hS => ?_)
      clear hK K
      (try simp only [Act.put, List.getElem_toArray, List.getElem_cons_succ, List.getElem_cons_zero, List.setIfInBounds_toArray, List.set_cons_zero, List.set_cons_succ])
      refine wpAnyH_done (by kernel_rfl) ?_ _
      (try dsimp only)
      clear hS
      have HN2 := hid (show w2'.heap[w6.heap.size]? = some (.cells #[.int .i64 sn, .int .i64 st, .slice none 0 0] 55) from heapExt HB2.out HNB.out)
      have n2 := cellOf HN2.out 2
      have nf2 := freeOf HN2.out 2
      (try dsimp only at n2)
      
      go_upto_region 8 with (fail)
      clear n2 nf2
      obtain ⟨w3', hw3⟩ : ∃ u, u = w2'.setCell ⟨w6.heap.size, 2, none⟩ (.slice a2 (pi + 1) cap2) := ⟨_, rfl⟩
      rw [← hw3]
      have HN3 := hid (show w3'.heap[w6.heap.size]? = some (.cells #[.int .i64 sn, .int .i64 st, .slice a2 (pi + 1) cap2] 55) by
        rw [hw3]
        have h := heapSet (o := 2) (.slice a2 (pi + 1) cap2) HN2.out
        simpa only [List.setIfInBounds_toArray, List.set_cons_zero, List.set_cons_succ] using h)
      have hs2 := HB2.out.size
      have HB3' := hid (show Below ((w.alloc (.cells #[.int .i64 sn, .int .i64 st, .slice (some ⟨b, o, none⟩) sl sc] 55)).alloc (.cells #[.int .i64 x.k.k, .int .i64 x.k.i, .int .i64 x.k.s, .string x.k.t, .slice x.k.la x.k.ll x.k.lc, .slice x.k.fa x.k.fl x.k.fc, .int .i64 x.n, .int .i64 x.t, .slice x.ia x.il x.ic, .slice x.va x.vl x.vc] 58)).heap.size ((w.alloc (.cells #[.int .i64 sn, .int .i64 st, .slice (some ⟨b, o, none⟩) sl sc] 55)).alloc (.cells #[.int .i64 x.k.k, .int .i64 x.k.i, .int .i64 x.k.s, .string x.k.t, .slice x.k.la x.k.ll x.k.lc, .slice x.k.fa x.k.fl x.k.fc, .int .i64 x.n, .int .i64 x.t, .slice x.ia x.il x.ic, .slice x.va x.vl x.vc] 58)) w3' by rw [hw3]; exact (HBA.out.trans (HB2.out.mono HBA.out.size)).setCell (p := ⟨w6.heap.size, 2, none⟩) (by have := hb6.size; dsimp only; exact this) _)
      have HS3 := hid (show wv.heap.size ≤ w3'.heap.size by rw [hw3]; simpa [World.setCell] using hs2)
      have HK3 := hid (show Kept slK 58 w.heap.size w3' (.slice a2 (pi + 1) cap2) (pi + 1) (d.l.take pi ++ [dx]) by
        rw [hw3]
        have h := HK2.out
        
        exact h.set (⟨w6.heap.size, 2, none⟩ : Addr) _ (by have := hb6.size; have h2 := HA.out.size; dsimp only; omega) (fun e => by have := HAT2.out _ e; have := HSV.out; dsimp only at *; omega))
      clear hw3 hs2
      obtain ⟨A, hA, hAc⟩ : ∃ A : Addr, (if sc = (pi + 1) then (some (⟨b, o, none⟩ : Addr)) else some ⟨b, o + (pi + 1) * 10, none⟩) = some A ∧ Hid (∀ w', Below ((w.alloc (.cells #[.int .i64 sn, .int .i64 st, .slice (some ⟨b, o, none⟩) sl sc] 55)).alloc (.cells #[.int .i64 x.k.k, .int .i64 x.k.i, .int .i64 x.k.s, .string x.k.t, .slice x.k.la x.k.ll x.k.lc, .slice x.k.fa x.k.fl x.k.fc, .int .i64 x.n, .int .i64 x.t, .slice x.ia x.il x.ic, .slice x.va x.vl x.vc] 58)).heap.size ((w.alloc (.cells #[.int .i64 sn, .int .i64 st, .slice (some ⟨b, o, none⟩) sl sc] 55)).alloc (.cells #[.int .i64 x.k.k, .int .i64 x.k.i, .int .i64 x.k.s, .string x.k.t, .slice x.k.la x.k.ll x.k.lc, .slice x.k.fa x.k.fl x.k.fc, .int .i64 x.n, .int .i64 x.t, .slice x.ia x.il x.ic, .slice x.va x.vl x.vc] 58)) w' → Cl slK w' (some A) (sl - (pi + 1)) (cs0.drop (pi + 1))) := by
        by_cases h : sc = (pi + 1)
        · refine ⟨⟨b, o, none⟩, by rw [if_pos h], fun w' hw => ⟨by rw [List.length_drop, HCL.out], .inl (by have := HCAP.out; omega)⟩⟩
        · refine ⟨⟨b, o + (pi + 1) * 10, none⟩, by rw [if_neg h], fun w' hw => cl_drop (HCS.out w' hw) (pi + 1) (by have := HPL.out; omega)⟩
      have HC8 : Hid (∀ w', (Below ((w.alloc (.cells #[.int .i64 sn, .int .i64 st, .slice (some ⟨b, o, none⟩) sl sc] 55)).alloc (.cells #[.int .i64 x.k.k, .int .i64 x.k.i, .int .i64 x.k.s, .string x.k.t, .slice x.k.la x.k.ll x.k.lc, .slice x.k.fa x.k.fl x.k.fc, .int .i64 x.n, .int .i64 x.t, .slice x.ia x.il x.ic, .slice x.va x.vl x.vc] 58)).heap.size ((w.alloc (.cells #[.int .i64 sn, .int .i64 st, .slice (some ⟨b, o, none⟩) sl sc] 55)).alloc (.cells #[.int .i64 x.k.k, .int .i64 x.k.i, .int .i64 x.k.s, .string x.k.t, .slice x.k.la x.k.ll x.k.lc, .slice x.k.fa x.k.fl x.k.fc, .int .i64 x.n, .int .i64 x.t, .slice x.ia x.il x.ic, .slice x.va x.vl x.vc] 58)) w' ∧ w'.heap[w6.heap.size]? = some (.cells #[.int .i64 sn, .int .i64 st, .slice a2 (pi + 1) cap2] 55)) → w'.cell? ⟨w6.heap.size, 2, none⟩ = some (.slice a2 (pi + 1) cap2) ∧ w'.cell? ⟨w.heap.size, 2, none⟩ = some (.slice (some ⟨b, o, none⟩) sl sc)) := hid fun w' h => ⟨cellOf h.2 2, (HBX.out w' h.1).1.2.2⟩
      refine wp_region_split 7 (fun w' => Below ((w.alloc (.cells #[.int .i64 sn, .int .i64 st, .slice (some ⟨b, o, none⟩) sl sc] 55)).alloc (.cells #[.int .i64 x.k.k, .int .i64 x.k.i, .int .i64 x.k.s, .string x.k.t, .slice x.k.la x.k.ll x.k.lc, .slice x.k.fa x.k.fl x.k.fc, .int .i64 x.n, .int .i64 x.t, .slice x.ia x.il x.ic, .slice x.va x.vl x.vc] 58)).heap.size ((w.alloc (.cells #[.int .i64 sn, .int .i64 st, .slice (some ⟨b, o, none⟩) sl sc] 55)).alloc (.cells #[.int .i64 x.k.k, .int .i64 x.k.i, .int .i64 x.k.s, .string x.k.t, .slice x.k.la x.k.ll x.k.lc, .slice x.k.fa x.k.fl x.k.fc, .int .i64 x.n, .int .i64 x.t, .slice x.ia x.il x.ic, .slice x.va x.vl x.vc] 58)) w' ∧ w'.heap[w6.heap.size]? = some (.cells #[.int .i64 sn, .int .i64 st, .slice a2 (pi + 1) cap2] 55)) (by kernel_rfl) (by kernel_rfl) (by kernel_rfl) (by decide) (⟨HB3'.out.drew, HN3.out⟩) (fun hS => ?_)
      simp only [List.take_succ_cons, List.take_zero, List.drop_succ_cons, List.drop_zero]
      refine wpAnyH_take (i := 0) (oi := _) (v := ?_) rfl (by kernel_rfl) (by kernel_rfl) (by kernel_rfl) (fun _ _ _ h => h) (Or.inl ⟨by rfl, ?_⟩) hS ?_
      rotate_left
      · intro w' hw'
        have hcells := HC8.out w' hw'
        go_simp
        (try with_reducible rfl)
      simp only [Act.put, List.getElem_toArray, List.getElem_cons_succ, List.getElem_cons_zero, List.setIfInBounds_toArray, List.set_cons_zero, List.set_cons_succ]
      refine wpAnyH_take (i := 1) (oi := _) (v := ?_) rfl (by kernel_rfl) (by kernel_rfl) (by kernel_rfl) (fun _ _ _ h => h) (Or.inl ⟨by rfl, ?_⟩) hS ?_
      rotate_left
      · intro w' hw'
        have hcells := HC8.out w' hw'
        go_simp
        (try with_reducible rfl)
      simp only [Act.put, List.getElem_toArray, List.getElem_cons_succ, List.getElem_cons_zero, List.setIfInBounds_toArray, List.set_cons_zero, List.set_cons_succ]
      refine wpAnyH_take (i := 2) (oi := _) (v := ?_) rfl (by kernel_rfl) (by kernel_rfl) (by kernel_rfl) (fun _ _ _ h => h) (Or.inl ⟨by rfl, ?_⟩) hS ?_
      rotate_left
      · intro w' hw'
        have hcells := HC8.out w' hw'
        go_simp
        (try with_reducible rfl)
      simp only [Act.put, List.getElem_toArray, List.getElem_cons_succ, List.getElem_cons_zero, List.setIfInBounds_toArray, List.set_cons_zero, List.set_cons_succ]
      refine wpAnyH_take (i := 3) (oi := _) (v := ?_) rfl (by kernel_rfl) (by kernel_rfl) (by kernel_rfl) (fun _ _ _ h => h) (Or.inl ⟨by rfl, ?_⟩) hS ?_
      rotate_left
      · intro w' hw'
        have hcells := HC8.out w' hw'
        go_simp
        (try with_reducible rfl)
      simp only [Act.put, List.getElem_toArray, List.getElem_cons_succ, List.getElem_cons_zero, List.setIfInBounds_toArray, List.set_cons_zero, List.set_cons_succ]
      refine wpAnyH_take (i := 4) (oi := _) (v := ?_) rfl (by kernel_rfl) (by kernel_rfl) (by kernel_rfl) (fun _ _ _ h => h) (Or.inl ⟨by rfl, ?_⟩) hS ?_
      rotate_left
      · intro w' hw'
        have hcells := HC8.out w' hw'
        go_simp
        (try with_reducible rfl)
      simp only [Act.put, List.getElem_toArray, List.getElem_cons_succ, List.getElem_cons_zero, List.setIfInBounds_toArray, List.set_cons_zero, List.set_cons_succ]
      refine wpAnyH_take (i := 5) (oi := _) (v := ?_) rfl (by kernel_rfl) (by kernel_rfl) (by kernel_rfl) (fun _ _ _ h => h) (Or.inl ⟨by rfl, ?_⟩) hS ?_
      rotate_left
      · intro w' hw'
        have hcells := HC8.out w' hw'
        go_simp
        (try with_reducible rfl)
      simp only [Act.put, List.getElem_toArray, List.getElem_cons_succ, List.getElem_cons_zero, List.setIfInBounds_toArray, List.set_cons_zero, List.set_cons_succ]
      refine wpAnyH_ready (rs := [6]) (by kernel_rfl) (by simp) ?_
      refine AllReadyH.cons (o := _) rfl (fun K hK => ?_) AllReadyH.nil
      have hct := HCD.out w3'.drew (HB3'.out.drew)
      obtain ⟨a3, cap3, w4', hr3, hk3, hg3, hat3⟩ := run_append_kept (K := slK) (P := Tryz.prog) (w := w3'.drew) (ty := 53) Tryz.underlying53 hi hz0 (by rw [hz1]) (by rw [hz2]; omega) rfl one_sl (HK3.out.ext (HUA.out _ HB3'.out).1.size ((Below.refl _ _).drew)) (sc - (pi + 1)) (hAc.out w3'.drew (HB3'.out.drew)) (l2 := d.l.drop (pi + 1)) (by rw [List.length_drop]; have := HL.out; omega) (drop_els hct (pi + 1)) (HUA.out _ HB3'.out).1.size (by omega)
      refine step_append_run (by rfl) _ _ _ (by rfl) _ _ _ _ (by rfl) (by rfl) hr3 ?_
      clear hr3 hct
      have hbg3 : Below wv.heap.size w3'.drew w4' := grown_below hg3 HAT2.out HS3.out
      have HK4 := hid hk3
      have HAT3 := hid (show ∀ r, (Value.slice a3 ((pi + 1) + (sl - (pi + 1))) cap3).ownBlock = some r → wv.heap.size ≤ r from fun r hr => (hat3 r hr).elim (fun e => HAT2.out r e) (fun e => by rw [e]; exact HS3.out))
      have hkeep : Below ((w.alloc (.cells #[.int .i64 sn, .int .i64 st, .slice (some ⟨b, o, none⟩) sl sc] 55)).alloc (.cells #[.int .i64 x.k.k, .int .i64 x.k.i, .int .i64 x.k.s, .string x.k.t, .slice x.k.la x.k.ll x.k.lc, .slice x.k.fa x.k.fl x.k.fc, .int .i64 x.n, .int .i64 x.t, .slice x.ia x.il x.ic, .slice x.va x.vl x.vc] 58)).heap.size ((w.alloc (.cells #[.int .i64 sn, .int .i64 st, .slice (some ⟨b, o, none⟩) sl sc] 55)).alloc (.cells #[.int .i64 x.k.k, .int .i64 x.k.i, .int .i64 x.k.s, .string x.k.t, .slice x.k.la x.k.ll x.k.lc, .slice x.k.fa x.k.fl x.k.fc, .int .i64 x.n, .int .i64 x.t, .slice x.ia x.il x.ic, .slice x.va x.vl x.vc] 58)) w4' ∧ w4'.heap[w6.heap.size]? = some (.cells #[.int .i64 sn, .int .i64 st, .slice a2 (pi + 1) cap2] 55) := ⟨HB3'.out.drew.trans (hbg3.mono HBA.out.size), (hbg3.block _ (by rw [HSV.out]; exact Nat.lt_succ_self _)).trans HN3.out⟩
      clear hk3 hg3 hat3
      refine hK.out _ _ (hkeep) (fun hS => ?_)
      clear hK K
      (try simp only [Act.put, List.getElem_toArray, List.getElem_cons_succ, List.getElem_cons_zero, List.setIfInBounds_toArray, List.set_cons_zero, List.set_cons_succ])
      refine wpAnyH_done (by kernel_rfl) ?_ _
      (try dsimp only)
      have HE8 := hid hS
      clear hS
      have n0 := cellOf HE8.out.2 2
      have nf0 := freeOf HE8.out.2 2
      (try dsimp only at n0)
      go_upto_region 9 with (fail)
      clear n0 nf0
      obtain ⟨w5', hw5⟩ : ∃ u, u = w4'.setCell ⟨w6.heap.size, 2, none⟩ (.slice a3 ((pi + 1) + (sl - (pi + 1))) cap3) := ⟨_, rfl⟩
      rw [← hw5]
      have HN5 := hid (show w5'.heap[w6.heap.size]? = some (.cells #[.int .i64 sn, .int .i64 st, .slice a3 ((pi + 1) + (sl - (pi + 1))) cap3] 55) by
        rw [hw5]
        have h := heapSet (o := 2) (.slice a3 ((pi + 1) + (sl - (pi + 1))) cap3) HE8.out.2
        simpa only [List.setIfInBounds_toArray, List.set_cons_zero, List.set_cons_succ] using h)
      have HB5' := hid (show Below ((w.alloc (.cells #[.int .i64 sn, .int .i64 st, .slice (some ⟨b, o, none⟩) sl sc] 55)).alloc (.cells #[.int .i64 x.k.k, .int .i64 x.k.i, .int .i64 x.k.s, .string x.k.t, .slice x.k.la x.k.ll x.k.lc, .slice x.k.fa x.k.fl x.k.fc, .int .i64 x.n, .int .i64 x.t, .slice x.ia x.il x.ic, .slice x.va x.vl x.vc] 58)).heap.size ((w.alloc (.cells #[.int .i64 sn, .int .i64 st, .slice (some ⟨b, o, none⟩) sl sc] 55)).alloc (.cells #[.int .i64 x.k.k, .int .i64 x.k.i, .int .i64 x.k.s, .string x.k.t, .slice x.k.la x.k.ll x.k.lc, .slice x.k.fa x.k.fl x.k.fc, .int .i64 x.n, .int .i64 x.t, .slice x.ia x.il x.ic, .slice x.va x.vl x.vc] 58)) w5' by rw [hw5]; exact HE8.out.1.setCell (p := ⟨w6.heap.size, 2, none⟩) (by have := hb6.size; dsimp only; exact this) _)
      have HST5 := hid (show IsSta (· < w5'.heap.size) w5' ⟨sn, st, a3, ((pi + 1) + (sl - (pi + 1))), cap3⟩ ⟨d.n, d.t, putL d.l dx⟩ by
        have hk5 : Kept slK 58 w.heap.size w5' (.slice a3 ((pi + 1) + (sl - (pi + 1))) cap3) ((pi + 1) + (sl - (pi + 1))) (putL d.l dx) := by
          rw [hw5]
          have h := HK4.out.set (⟨w6.heap.size, 2, none⟩ : Addr) (.slice a3 ((pi + 1) + (sl - (pi + 1))) cap3) (by have := hb6.size; have h2 := HA.out.size; dsimp only; omega) (fun e => by have := HAT3.out _ e; have := HSV.out; dsimp only at *; omega)
          have e : putL d.l dx = (d.l.take pi ++ [dx]) ++ d.l.drop (pi + 1) := by rw [putL, putAt, putQ, ← HPI.out, ← HPB.out]; simp
          rw [e]
          exact h
        refine ⟨HD.out.n, HD.out.rn, HD.out.t, HD.out.rt, ?_⟩
        exact hk5.row (HUA.out _ HB5'.out).1.size (by dsimp only; omega))
      clear hw5
      have HU5 : Hid (∀ w', Below w5'.heap.size w5' w' → Below ((w.alloc (.cells #[.int .i64 sn, .int .i64 st, .slice (some ⟨b, o, none⟩) sl sc] 55)).alloc (.cells #[.int .i64 x.k.k, .int .i64 x.k.i, .int .i64 x.k.s, .string x.k.t, .slice x.k.la x.k.ll x.k.lc, .slice x.k.fa x.k.fl x.k.fc, .int .i64 x.n, .int .i64 x.t, .slice x.ia x.il x.ic, .slice x.va x.vl x.vc] 58)).heap.size ((w.alloc (.cells #[.int .i64 sn, .int .i64 st, .slice (some ⟨b, o, none⟩) sl sc] 55)).alloc (.cells #[.int .i64 x.k.k, .int .i64 x.k.i, .int .i64 x.k.s, .string x.k.t, .slice x.k.la x.k.ll x.k.lc, .slice x.k.fa x.k.fl x.k.fc, .int .i64 x.n, .int .i64 x.t, .slice x.ia x.il x.ic, .slice x.va x.vl x.vc] 58)) w') := hid fun w' h => HB5'.out.trans (h.mono HB5'.out.size)
      have HPU : Hid (∀ w', Below w5'.heap.size w5' w' → Calls Tryz.prog 51 #[.agg #[.int .i64 sn, .int .i64 st, .slice (some ⟨b, o, none⟩) sl sc], .agg #[.int .i64 x.k.k, .int .i64 x.k.i, .int .i64 x.k.s, .string x.k.t, .slice x.k.la x.k.ll x.k.lc, .slice x.k.fa x.k.fl x.k.fc, .int .i64 x.n, .int .i64 x.t, .slice x.ia x.il x.ic, .slice x.va x.vl x.vc]] w' (PutPost w' d dx)) := hid fun w' h => by
        obtain ⟨h1, h2, h3⟩ := HUA.out w' (HU5.out w' h)
        exact putT_call ⟨sn, st, some ⟨b, o, none⟩, sl, sc⟩ d x dx w' HSRT.out h2 h3 HPB.out.symm
      have HSV5 : Hid (∀ w', Below w5'.heap.size w5' w' → IsSta (· < w'.heap.size) w' ⟨sn, st, a3, ((pi + 1) + (sl - (pi + 1))), cap3⟩ ⟨d.n, d.t, putL d.l dx⟩) := hid fun w' h => HST5.out.same fun b q => ⟨Nat.lt_of_lt_of_le q h.size, h.block b q⟩
      have HIW : Hid (∀ w', Below w5'.heap.size w5' w' → w'.heap[w6.heap.size]? = some (.cells #[.int .i64 sn, .int .i64 st, .slice a3 ((pi + 1) + (sl - (pi + 1))) cap3] 55)) := hid fun w' h => heapExt h HN5.out
      obtain ⟨⟨k0, k1, k2⟩, ⟨x0, x1, x2, x3, x4, x5, x6, x7, x8, x9⟩⟩ := HBX.out _ HB5'.out
      go_upto_region 10 with (go_at_call 51; refine (HPU.out _ (Below.refl _ _)).mono ?_; rintro e w7 ⟨c8, rfl, hb7, hi8⟩; have HI8 := hid hi8; clear hi8)
      clear k0 k1 k2 x0 x1 x2 x3 x4 x5 x6 x7 x8 x9
      obtain ⟨w8, hw8⟩ : ∃ u, u = w7.alloc (.cells #[.int .i64 c8.n, .int .i64 c8.t, .slice c8.a c8.l c8.c] 55) := ⟨_, rfl⟩
      rw [← hw8]
      have HB7 := hid hb7
      have HB78 := hid (show Below w7.heap.size w7 w8 by rw [hw8]; exact (Below.refl _ _).alloc (Nat.le_refl _) _)
      have HB8 := hid (show Below w5'.heap.size w5' w8 from hb7.trans (HB78.out.mono hb7.size))
      have H8 := hid (show w8.heap[w7.heap.size]? = some (.cells #[.int .i64 c8.n, .int .i64 c8.t, .slice c8.a c8.l c8.c] 55) by rw [hw8]; exact heap_alloc_new w7 _)
      have HST8 : Hid (∀ w', Below w8.heap.size w8 w' → IsSta (· < w'.heap.size) w' c8 ⟨d.n, d.t, putL d.l dx⟩) := hid fun w' h => HI8.out.same fun b q => ⟨by have := HB78.out.size; have := h.size; omega, (h.block b (by have := HB78.out.size; omega)).trans (HB78.out.block b q)⟩
      have HC8 : Hid (∀ w', Below w8.heap.size w8 w' → (w'.cell? ⟨w7.heap.size, 0, none⟩ = some (.int .i64 c8.n) ∧ w'.cell? ⟨w7.heap.size, 1, none⟩ = some (.int .i64 c8.t) ∧ w'.cell? ⟨w7.heap.size, 2, none⟩ = some (.slice c8.a c8.l c8.c)) ∧ (w'.cell? ⟨w6.heap.size, 0, none⟩ = some (.int .i64 sn) ∧ w'.cell? ⟨w6.heap.size, 1, none⟩ = some (.int .i64 st) ∧ w'.cell? ⟨w6.heap.size, 2, none⟩ = some (.slice a3 ((pi + 1) + (sl - (pi + 1))) cap3)) ∧ (w'.cell? ⟨w.heap.size + 1, 0, none⟩ = some (.int .i64 x.k.k) ∧ w'.cell? ⟨w.heap.size + 1, 1, none⟩ = some (.int .i64 x.k.i) ∧ w'.cell? ⟨w.heap.size + 1, 2, none⟩ = some (.int .i64 x.k.s) ∧ w'.cell? ⟨w.heap.size + 1, 3, none⟩ = some (.string x.k.t) ∧ w'.cell? ⟨w.heap.size + 1, 4, none⟩ = some (.slice x.k.la x.k.ll x.k.lc) ∧ w'.cell? ⟨w.heap.size + 1, 5, none⟩ = some (.slice x.k.fa x.k.fl x.k.fc) ∧ w'.cell? ⟨w.heap.size + 1, 6, none⟩ = some (.int .i64 x.n) ∧ w'.cell? ⟨w.heap.size + 1, 7, none⟩ = some (.int .i64 x.t) ∧ w'.cell? ⟨w.heap.size + 1, 8, none⟩ = some (.slice x.ia x.il x.ic) ∧ w'.cell? ⟨w.heap.size + 1, 9, none⟩ = some (.slice x.va x.vl x.vc))) := hid fun w' h => by
        have h1 := heapExt h H8.out
        have h5 := HB8.out.trans (h.mono HB8.out.size)
        have h2 := HIW.out w' h5
        exact ⟨⟨cellOf h1 0, cellOf h1 1, cellOf h1 2⟩, ⟨cellOf h2 0, cellOf h2 1, cellOf h2 2⟩, (HBX.out _ (HU5.out _ h5)).2⟩
      have HGE : Hid (∀ w', Below w8.heap.size w8 w' → Calls Tryz.prog 36 #[.agg #[.int .i64 c8.n, .int .i64 c8.t, .slice c8.a c8.l c8.c], .agg #[.int .i64 x.k.k, .int .i64 x.k.i, .int .i64 x.k.s, .string x.k.t, .slice x.k.la x.k.ll x.k.lc, .slice x.k.fa x.k.fl x.k.fc]] w' fun e w2 => ∃ y : SlC, e = .returned (.tuple #[.agg #[.int .i64 y.k.k, .int .i64 y.k.i, .int .i64 y.k.s, .string y.k.t, .slice y.k.la y.k.ll y.k.lc, .slice y.k.fa y.k.fl y.k.fc, .int .i64 y.n, .int .i64 y.t, .slice y.ia y.il y.ic, .slice y.va y.vl y.vc], .bool true]) ∧ Below w'.heap.size w' w2 ∧ IsSl (fun b => w'.heap.size ≤ b ∧ b < w2.heap.size) w2 y dx) := hid fun w' h => by
        have h5 := HU5.out _ (HB8.out.trans (h.mono HB8.out.size))
        have hc := get_call c8 ⟨d.n, d.t, putL d.l dx⟩ x.k dx.k w' (HST8.out w' h) (HUA.out w' h5).2.2.k
        have hs := putL_srt HSRT.out dx
        refine hc.mono fun e w2 hh => ?_
        obtain ⟨y, dy, q1, q2, q3, q4, q5⟩ := hh
        have e1 : findB (putL d.l dx) dx.k = true := by rw [findB_place hs, putL_found]
        dsimp only at q1 q4
        rw [e1] at q1
        have q6 := q4 e1
        rw [findI_place hs, putL_place, putL_at] at q6
        obtain rfl : dx = dy := Option.some.inj q6
        exact ⟨y, q1, q2, q3⟩
      clear hw8 hb7
      obtain ⟨⟨k0, k1, k2⟩, ⟨m0, m1, m2⟩, ⟨x0, x1, x2, x3, x4, x5, x6, x7, x8, x9⟩⟩ := HC8.out _ (Below.refl _ _)
      go_upto_region 11 with (go_at_call 36; refine (HGE.out _ (Below.refl _ _)).mono ?_; rintro e w9 ⟨y, rfl, hb9, hi9⟩; have HI9 := hid hi9; have HB9 := hid hb9; clear hi9 hb9)
      clear k0 k1 k2 x0 x1 x2 x3 x4 x5 x6 x7 x8 x9 m0 m1 m2
      obtain ⟨wa, hwa⟩ : ∃ u, u = w9.alloc (.cells #[.int .i64 y.k.k, .int .i64 y.k.i, .int .i64 y.k.s, .string y.k.t, .slice y.k.la y.k.ll y.k.lc, .slice y.k.fa y.k.fl y.k.fc, .int .i64 y.n, .int .i64 y.t, .slice y.ia y.il y.ic, .slice y.va y.vl y.vc] 58) := ⟨_, rfl⟩
      rw [← hwa]
      have HB9A := hid (show Below w9.heap.size w9 wa by rw [hwa]; exact (Below.refl _ _).alloc (Nat.le_refl _) _)
      have HBA8 := hid (show Below w8.heap.size w8 wa from HB9.out.trans (HB9A.out.mono HB9.out.size))
      have HAA := hid (show wa.heap[w9.heap.size]? = some (.cells #[.int .i64 y.k.k, .int .i64 y.k.i, .int .i64 y.k.s, .string y.k.t, .slice y.k.la y.k.ll y.k.lc, .slice y.k.fa y.k.fl y.k.fc, .int .i64 y.n, .int .i64 y.t, .slice y.ia y.il y.ic, .slice y.va y.vl y.vc] 58) by rw [hwa]; exact heap_alloc_new w9 _)
      have HCA : Hid (∀ w', Below wa.heap.size wa w' → ((w'.cell? ⟨w7.heap.size, 0, none⟩ = some (.int .i64 c8.n) ∧ w'.cell? ⟨w7.heap.size, 1, none⟩ = some (.int .i64 c8.t) ∧ w'.cell? ⟨w7.heap.size, 2, none⟩ = some (.slice c8.a c8.l c8.c)) ∧ (w'.cell? ⟨w6.heap.size, 0, none⟩ = some (.int .i64 sn) ∧ w'.cell? ⟨w6.heap.size, 1, none⟩ = some (.int .i64 st) ∧ w'.cell? ⟨w6.heap.size, 2, none⟩ = some (.slice a3 ((pi + 1) + (sl - (pi + 1))) cap3)) ∧ (w'.cell? ⟨w.heap.size + 1, 0, none⟩ = some (.int .i64 x.k.k) ∧ w'.cell? ⟨w.heap.size + 1, 1, none⟩ = some (.int .i64 x.k.i) ∧ w'.cell? ⟨w.heap.size + 1, 2, none⟩ = some (.int .i64 x.k.s) ∧ w'.cell? ⟨w.heap.size + 1, 3, none⟩ = some (.string x.k.t) ∧ w'.cell? ⟨w.heap.size + 1, 4, none⟩ = some (.slice x.k.la x.k.ll x.k.lc) ∧ w'.cell? ⟨w.heap.size + 1, 5, none⟩ = some (.slice x.k.fa x.k.fl x.k.fc) ∧ w'.cell? ⟨w.heap.size + 1, 6, none⟩ = some (.int .i64 x.n) ∧ w'.cell? ⟨w.heap.size + 1, 7, none⟩ = some (.int .i64 x.t) ∧ w'.cell? ⟨w.heap.size + 1, 8, none⟩ = some (.slice x.ia x.il x.ic) ∧ w'.cell? ⟨w.heap.size + 1, 9, none⟩ = some (.slice x.va x.vl x.vc))) ∧ (w'.cell? ⟨w9.heap.size, 0, none⟩ = some (.int .i64 y.k.k) ∧ w'.cell? ⟨w9.heap.size, 1, none⟩ = some (.int .i64 y.k.i) ∧ w'.cell? ⟨w9.heap.size, 2, none⟩ = some (.int .i64 y.k.s) ∧ w'.cell? ⟨w9.heap.size, 3, none⟩ = some (.string y.k.t) ∧ w'.cell? ⟨w9.heap.size, 4, none⟩ = some (.slice y.k.la y.k.ll y.k.lc) ∧ w'.cell? ⟨w9.heap.size, 5, none⟩ = some (.slice y.k.fa y.k.fl y.k.fc) ∧ w'.cell? ⟨w9.heap.size, 6, none⟩ = some (.int .i64 y.n) ∧ w'.cell? ⟨w9.heap.size, 7, none⟩ = some (.int .i64 y.t) ∧ w'.cell? ⟨w9.heap.size, 8, none⟩ = some (.slice y.ia y.il y.ic) ∧ w'.cell? ⟨w9.heap.size, 9, none⟩ = some (.slice y.va y.vl y.vc))) := hid fun w' h => by
        have h1 := heapExt h HAA.out
        exact ⟨HC8.out w' (HBA8.out.trans (h.mono HBA8.out.size)), cellOf h1 0, cellOf h1 1, cellOf h1 2, cellOf h1 3, cellOf h1 4, cellOf h1 5, cellOf h1 6, cellOf h1 7, cellOf h1 8, cellOf h1 9⟩
      have HSA : Hid (∀ w', Below wa.heap.size wa w' → Calls Tryz.prog 41 #[.agg #[.int .i64 c8.n, .int .i64 c8.t, .slice c8.a c8.l c8.c], .agg #[.int .i64 sn, .int .i64 st, .slice a3 ((pi + 1) + (sl - (pi + 1))) cap3]] w' fun e w2 => e = .returned (.bool true) ∧ Below w'.heap.size w' w2) := hid fun w' h => by
        have h8 := HBA8.out.trans (h.mono HBA8.out.size)
        have hc := sameSta_call c8 ⟨sn, st, a3, ((pi + 1) + (sl - (pi + 1))), cap3⟩ _ _ w' (HST8.out w' h8) (HSV5.out w' (HB8.out.trans (h8.mono HB8.out.size)))
        rw [staEqB_refl] at hc
        exact hc
      have HSO : Hid (∀ w', Below wa.heap.size wa w' → Calls Tryz.prog 34 #[.agg #[.int .i64 c8.n, .int .i64 c8.t, .slice c8.a c8.l c8.c]] w' fun e w2 => e = .returned (.bool true) ∧ Below w'.heap.size w' w2) := hid fun w' h => by
        have h8 := HBA8.out.trans (h.mono HBA8.out.size)
        have hc := sorted_call c8 _ w' (HST8.out w' h8)
        refine hc.mono fun e w2 hh => ?_
        obtain ⟨⟨b', rfl, _, q⟩, hb⟩ := hh
        obtain rfl : b' = true := q (putL_srt HSRT.out dx)
        exact ⟨rfl, hb⟩
      have HSS : Hid (∀ w', Below wa.heap.size wa w' → Calls Tryz.prog 38 #[.agg #[.int .i64 x.k.k, .int .i64 x.k.i, .int .i64 x.k.s, .string x.k.t, .slice x.k.la x.k.ll x.k.lc, .slice x.k.fa x.k.fl x.k.fc, .int .i64 x.n, .int .i64 x.t, .slice x.ia x.il x.ic, .slice x.va x.vl x.vc], .agg #[.int .i64 y.k.k, .int .i64 y.k.i, .int .i64 y.k.s, .string y.k.t, .slice y.k.la y.k.ll y.k.lc, .slice y.k.fa y.k.fl y.k.fc, .int .i64 y.n, .int .i64 y.t, .slice y.ia y.il y.ic, .slice y.va y.vl y.vc]] w' fun e w2 => e = .returned (.bool true) ∧ Below w'.heap.size w' w2) := hid fun w' h => by
        have h8 := HBA8.out.trans (h.mono HBA8.out.size)
        have h5 := HU5.out _ (HB8.out.trans (h8.mono HB8.out.size))
        have h9 := HB9A.out.trans (h.mono HB9A.out.size)
        have hc := sameSlot_call x y dx dx w' (HUA.out w' h5).2.2 (HI9.out.same fun b q => ⟨Nat.lt_of_lt_of_le q.2 h9.size, h9.block b q.2⟩)
        rw [slEqB_refl] at hc
        exact hc
      have HUF : Hid (∀ w', Below wa.heap.size wa w' → Below w.heap.size w w') := hid fun w' h => by
        have h8 := HBA8.out.trans (h.mono HBA8.out.size)
        exact (HUA.out _ (HU5.out _ (HB8.out.trans (h8.mono HB8.out.size)))).1
      clear hwa
      obtain ⟨⟨⟨k0, k1, k2⟩, ⟨m0, m1, m2⟩, ⟨x0, x1, x2, x3, x4, x5, x6, x7, x8, x9⟩⟩, ⟨y0, y1, y2, y3, y4, y5, y6, y7, y8, y9⟩⟩ := HCA.out _ (Below.refl _ _)
      go_wp2_with (first
        | (go_at_call 38; refine (HSS.out _ hbc).mono ?_; rintro e wd ⟨rfl, hbd⟩; have hbe := hbc.trans (hbd.mono hbc.size))
        | (go_at_call 34; refine (HSO.out _ hbb).mono ?_; rintro e wc ⟨rfl, hbc'⟩; have hbc := hbb.trans (hbc'.mono hbb.size); clear k0 k1 k2 x0 x1 x2 x3 x4 x5 x6 x7 x8 x9 m0 m1 m2 y0 y1 y2 y3 y4 y5 y6 y7 y8 y9; obtain ⟨⟨⟨k0, k1, k2⟩, ⟨m0, m1, m2⟩, ⟨x0, x1, x2, x3, x4, x5, x6, x7, x8, x9⟩⟩, ⟨y0, y1, y2, y3, y4, y5, y6, y7, y8, y9⟩⟩ := HCA.out _ hbc)
        | (go_at_call 41; refine (HSA.out _ (Below.refl _ _)).mono ?_; rintro e wb ⟨rfl, hbb⟩; clear k0 k1 k2 x0 x1 x2 x3 x4 x5 x6 x7 x8 x9 m0 m1 m2 y0 y1 y2 y3 y4 y5 y6 y7 y8 y9; obtain ⟨⟨⟨k0, k1, k2⟩, ⟨m0, m1, m2⟩, ⟨x0, x1, x2, x3, x4, x5, x6, x7, x8, x9⟩⟩, ⟨y0, y1, y2, y3, y4, y5, y6, y7, y8, y9⟩⟩ := HCA.out _ hbb))
      go_ret
      exact ⟨rfl, HUF.out _ hbe⟩
    refine AllReadyH.cons (o := _) rfl (fun K hK => ?_) AllReadyH.nil
    go_simp
    obtain ⟨wX, hwX⟩ : ∃ u, u = (wv.alloc (.cells #[.int .i64 x.k.k, .int .i64 x.k.i, .int .i64 x.k.s, .string x.k.t, .slice x.k.la x.k.ll x.k.lc, .slice x.k.fa x.k.fl x.k.fc, .int .i64 x.n, .int .i64 x.t, .slice x.ia x.il x.ic, .slice x.va x.vl x.vc] 58)).drew := ⟨_, rfl⟩
    rw [← hwX]
    have HXB := hid (show Below wv.heap.size wv wX by rw [hwX]; exact ((Below.refl _ _).alloc (Nat.le_refl _) _).drew)
    have HCX := hid (show wX.heap[wv.heap.size]? = some (.cells #[.int .i64 x.k.k, .int .i64 x.k.i, .int .i64 x.k.s, .string x.k.t, .slice x.k.la x.k.ll x.k.lc, .slice x.k.fa x.k.fl x.k.fc, .int .i64 x.n, .int .i64 x.t, .slice x.ia x.il x.ic, .slice x.va x.vl x.vc] 58) by rw [hwX]; exact heap_alloc_new wv _)
    clear hwX
    refine hK.out _ _ (HXB.out) (fun hS => ?_)
    clear hK K
    (try simp only [Act.put, List.getElem_toArray, List.getElem_cons_succ, List.getElem_cons_zero, List.setIfInBounds_toArray, List.set_cons_zero, List.set_cons_succ])
    refine wpAnyH_ready (rs := [6]) (by kernel_rfl) (by simp) ?_
    refine AllReadyH.cons (o := _) rfl (fun K hK => ?_) AllReadyH.nil
    have hk0 := Kept.nil (K := slK) 58 w.heap.size wX
    have hct := HCT.out wX HXB.out
    obtain ⟨a1, cap1, w1, hr1, hk1, hg1, hat1⟩ := run_append_kept (K := slK) (P := Tryz.prog) (w := wX) (ty := 53) Tryz.underlying53 hi hz0 (by rw [hz1]) (by rw [hz2]; omega) rfl one_sl hk0 sc (cl_take hct.2.2.1 pi HPL.out) (l2 := d.l.take pi) (by rw [List.length_take]; have := HL.out; have := HPL.out; omega) (take_els hct.2.2.2 pi) hct.1 (by omega)
    rw [Nat.zero_add] at hr1 hk1 hat1
    rw [List.nil_append] at hk1
    refine step_append_run (by rfl) _ _ _ (by rfl) _ _ _ _ (by rfl) (by rfl) hr1 ?_
    clear hr1
    have HK1 := hid hk1
    have HAT1 := hid (show ∀ r, (Value.slice a1 pi cap1).ownBlock = some r → wv.heap.size ≤ r from fun r hr => (hat1 r hr).elim (fun e => by cases e) (fun e => by rw [e]; exact (HXB.out).size))
    have hb1 : Below wX.heap.size wX w1 := grown_below hg1 (fun r e => by cases e) (Nat.le_refl _)
    have hbv1 : Below wv.heap.size wv w1 := (HXB.out).trans (hb1.mono (HXB.out).size)
    have HB1 := hid hbv1
    have HCX1 := hid (heapExt hb1 HCX.out)
    have HBW := HB1
    have HKW := HK1
    clear hb1
    refine hK.out _ _ (hbv1) (fun hS => ?_)
    clear hK K
    (try simp only [Act.put, List.getElem_toArray, List.getElem_cons_succ, List.getElem_cons_zero, List.setIfInBounds_toArray, List.set_cons_zero, List.set_cons_succ])
    refine wpAnyH_ready (rs := [9]) (by kernel_rfl) (by simp) ?_
    refine AllReadyH.cons (o := _) rfl (fun K hK => ?_) AllReadyH.nil
    have hct := HCT.out w1 HBW.out
    have hcx : Cl slK w1 (some ⟨wv.heap.size, 0, none⟩) 1 [x] := ⟨rfl, .inr ⟨_, rfl, fun t u hu => (by simp only [List.flatMap_cons, List.flatMap_nil, List.append_nil] at hu; exact World.news_of_block HCX1.out t u hu)⟩⟩
    obtain ⟨a2, cap2, w2', hr2, hk2, hg2, hat2⟩ := run_append_kept (K := slK) (P := Tryz.prog) (w := w1) (ty := 53) Tryz.underlying53 hi hz0 (by rw [hz1]) (by rw [hz2]; omega) rfl one_sl HKW.out 1 hcx (l2 := [dx]) rfl (one_els hct.2.1) hct.1 (by omega)
    refine step_append_run (by rfl) _ _ _ (by rfl) _ _ _ _ (by rfl) (by rfl) hr2 ?_
    clear hr2 hcx
    have hbg2 : Below wv.heap.size w1 w2' := grown_below hg2 HAT1.out HBW.out.size
    have HB2 := hid (HBW.out.trans hbg2)
    have HK2 := hid hk2
    have HAT2 := hid (show ∀ r, (Value.slice a2 (pi + 1) cap2).ownBlock = some r → wv.heap.size ≤ r from fun r hr => (hat2 r hr).elim (fun e => HAT1.out r e) (fun e => by rw [e]; exact HBW.out.size))
    clear hbg2 hk2 hat2 hg2 hct
    refine hK.out _ _ (HB2.out) (fun hS => ?_)
    clear hK K
    (try simp only [Act.put, List.getElem_toArray, List.getElem_cons_succ, List.getElem_cons_zero, List.setIfInBounds_toArray, List.set_cons_zero, List.set_cons_succ])
    refine wpAnyH_done (by kernel_rfl) ?_ _
    (try dsimp only)
    clear hS
    have HN2 := hid (show w2'.heap[w6.heap.size]? = some (.cells #[.int .i64 sn, .int .i64 st, .slice none 0 0] 55) from heapExt HB2.out HNB.out)
    have n2 := cellOf HN2.out 2
    have nf2 := freeOf HN2.out 2
    (try dsimp only at n2)

    go_upto_region 8 with (fail)
    clear n2 nf2
    obtain ⟨w3', hw3⟩ : ∃ u, u = w2'.setCell ⟨w6.heap.size, 2, none⟩ (.slice a2 (pi + 1) cap2) := ⟨_, rfl⟩
    rw [← hw3]
    have HN3 := hid (show w3'.heap[w6.heap.size]? = some (.cells #[.int .i64 sn, .int .i64 st, .slice a2 (pi + 1) cap2] 55) by
      rw [hw3]
      have h := heapSet (o := 2) (.slice a2 (pi + 1) cap2) HN2.out
      simpa only [List.setIfInBounds_toArray, List.set_cons_zero, List.set_cons_succ] using h)
    have hs2 := HB2.out.size
    have HB3' := hid (show Below ((w.alloc (.cells #[.int .i64 sn, .int .i64 st, .slice (some ⟨b, o, none⟩) sl sc] 55)).alloc (.cells #[.int .i64 x.k.k, .int .i64 x.k.i, .int .i64 x.k.s, .string x.k.t, .slice x.k.la x.k.ll x.k.lc, .slice x.k.fa x.k.fl x.k.fc, .int .i64 x.n, .int .i64 x.t, .slice x.ia x.il x.ic, .slice x.va x.vl x.vc] 58)).heap.size ((w.alloc (.cells #[.int .i64 sn, .int .i64 st, .slice (some ⟨b, o, none⟩) sl sc] 55)).alloc (.cells #[.int .i64 x.k.k, .int .i64 x.k.i, .int .i64 x.k.s, .string x.k.t, .slice x.k.la x.k.ll x.k.lc, .slice x.k.fa x.k.fl x.k.fc, .int .i64 x.n, .int .i64 x.t, .slice x.ia x.il x.ic, .slice x.va x.vl x.vc] 58)) w3' by rw [hw3]; exact (HBA.out.trans (HB2.out.mono HBA.out.size)).setCell (p := ⟨w6.heap.size, 2, none⟩) (by have := hb6.size; dsimp only; exact this) _)
    have HS3 := hid (show wv.heap.size ≤ w3'.heap.size by rw [hw3]; simpa [World.setCell] using hs2)
    have HK3 := hid (show Kept slK 58 w.heap.size w3' (.slice a2 (pi + 1) cap2) (pi + 1) (d.l.take pi ++ [dx]) by
      rw [hw3]
      have h := HK2.out
      
      exact h.set (⟨w6.heap.size, 2, none⟩ : Addr) _ (by have := hb6.size; have h2 := HA.out.size; dsimp only; omega) (fun e => by have := HAT2.out _ e; have := HSV.out; dsimp only at *; omega))
    clear hw3 hs2
    obtain ⟨A, hA, hAc⟩ : ∃ A : Addr, (if sc = (pi + 1) then (some (⟨b, o, none⟩ : Addr)) else some ⟨b, o + (pi + 1) * 10, none⟩) = some A ∧ Hid (∀ w', Below ((w.alloc (.cells #[.int .i64 sn, .int .i64 st, .slice (some ⟨b, o, none⟩) sl sc] 55)).alloc (.cells #[.int .i64 x.k.k, .int .i64 x.k.i, .int .i64 x.k.s, .string x.k.t, .slice x.k.la x.k.ll x.k.lc, .slice x.k.fa x.k.fl x.k.fc, .int .i64 x.n, .int .i64 x.t, .slice x.ia x.il x.ic, .slice x.va x.vl x.vc] 58)).heap.size ((w.alloc (.cells #[.int .i64 sn, .int .i64 st, .slice (some ⟨b, o, none⟩) sl sc] 55)).alloc (.cells #[.int .i64 x.k.k, .int .i64 x.k.i, .int .i64 x.k.s, .string x.k.t, .slice x.k.la x.k.ll x.k.lc, .slice x.k.fa x.k.fl x.k.fc, .int .i64 x.n, .int .i64 x.t, .slice x.ia x.il x.ic, .slice x.va x.vl x.vc] 58)) w' → Cl slK w' (some A) (sl - (pi + 1)) (cs0.drop (pi + 1))) := by
      by_cases h : sc = (pi + 1)
      · refine ⟨⟨b, o, none⟩, by rw [if_pos h], fun w' hw => ⟨by rw [List.length_drop, HCL.out], .inl (by have := HCAP.out; omega)⟩⟩
      · refine ⟨⟨b, o + (pi + 1) * 10, none⟩, by rw [if_neg h], fun w' hw => cl_drop (HCS.out w' hw) (pi + 1) (by have := HPL.out; omega)⟩
    have HC8 : Hid (∀ w', (Below ((w.alloc (.cells #[.int .i64 sn, .int .i64 st, .slice (some ⟨b, o, none⟩) sl sc] 55)).alloc (.cells #[.int .i64 x.k.k, .int .i64 x.k.i, .int .i64 x.k.s, .string x.k.t, .slice x.k.la x.k.ll x.k.lc, .slice x.k.fa x.k.fl x.k.fc, .int .i64 x.n, .int .i64 x.t, .slice x.ia x.il x.ic, .slice x.va x.vl x.vc] 58)).heap.size ((w.alloc (.cells #[.int .i64 sn, .int .i64 st, .slice (some ⟨b, o, none⟩) sl sc] 55)).alloc (.cells #[.int .i64 x.k.k, .int .i64 x.k.i, .int .i64 x.k.s, .string x.k.t, .slice x.k.la x.k.ll x.k.lc, .slice x.k.fa x.k.fl x.k.fc, .int .i64 x.n, .int .i64 x.t, .slice x.ia x.il x.ic, .slice x.va x.vl x.vc] 58)) w' ∧ w'.heap[w6.heap.size]? = some (.cells #[.int .i64 sn, .int .i64 st, .slice a2 (pi + 1) cap2] 55)) → w'.cell? ⟨w6.heap.size, 2, none⟩ = some (.slice a2 (pi + 1) cap2) ∧ w'.cell? ⟨w.heap.size, 2, none⟩ = some (.slice (some ⟨b, o, none⟩) sl sc)) := hid fun w' h => ⟨cellOf h.2 2, (HBX.out w' h.1).1.2.2⟩
    refine wp_region_split 7 (fun w' => Below ((w.alloc (.cells #[.int .i64 sn, .int .i64 st, .slice (some ⟨b, o, none⟩) sl sc] 55)).alloc (.cells #[.int .i64 x.k.k, .int .i64 x.k.i, .int .i64 x.k.s, .string x.k.t, .slice x.k.la x.k.ll x.k.lc, .slice x.k.fa x.k.fl x.k.fc, .int .i64 x.n, .int .i64 x.t, .slice x.ia x.il x.ic, .slice x.va x.vl x.vc] 58)).heap.size ((w.alloc (.cells #[.int .i64 sn, .int .i64 st, .slice (some ⟨b, o, none⟩) sl sc] 55)).alloc (.cells #[.int .i64 x.k.k, .int .i64 x.k.i, .int .i64 x.k.s, .string x.k.t, .slice x.k.la x.k.ll x.k.lc, .slice x.k.fa x.k.fl x.k.fc, .int .i64 x.n, .int .i64 x.t, .slice x.ia x.il x.ic, .slice x.va x.vl x.vc] 58)) w' ∧ w'.heap[w6.heap.size]? = some (.cells #[.int .i64 sn, .int .i64 st, .slice a2 (pi + 1) cap2] 55)) (by kernel_rfl) (by kernel_rfl) (by kernel_rfl) (by decide) (⟨HB3'.out.drew, HN3.out⟩) (fun hS => ?_)
    simp only [List.take_succ_cons, List.take_zero, List.drop_succ_cons, List.drop_zero]
    refine wpAnyH_take (i := 0) (oi := _) (v := ?_) rfl (by kernel_rfl) (by kernel_rfl) (by kernel_rfl) (fun _ _ _ h => h) (Or.inl ⟨by rfl, ?_⟩) hS ?_
    rotate_left
    · intro w' hw'
      have hcells := HC8.out w' hw'
      go_simp
      (try with_reducible rfl)
    simp only [Act.put, List.getElem_toArray, List.getElem_cons_succ, List.getElem_cons_zero, List.setIfInBounds_toArray, List.set_cons_zero, List.set_cons_succ]
    refine wpAnyH_take (i := 1) (oi := _) (v := ?_) rfl (by kernel_rfl) (by kernel_rfl) (by kernel_rfl) (fun _ _ _ h => h) (Or.inl ⟨by rfl, ?_⟩) hS ?_
    rotate_left
    · intro w' hw'
      have hcells := HC8.out w' hw'
      go_simp
      (try with_reducible rfl)
    simp only [Act.put, List.getElem_toArray, List.getElem_cons_succ, List.getElem_cons_zero, List.setIfInBounds_toArray, List.set_cons_zero, List.set_cons_succ]
    refine wpAnyH_take (i := 2) (oi := _) (v := ?_) rfl (by kernel_rfl) (by kernel_rfl) (by kernel_rfl) (fun _ _ _ h => h) (Or.inl ⟨by rfl, ?_⟩) hS ?_
    rotate_left
    · intro w' hw'
      have hcells := HC8.out w' hw'
      go_simp
      (try with_reducible rfl)
    simp only [Act.put, List.getElem_toArray, List.getElem_cons_succ, List.getElem_cons_zero, List.setIfInBounds_toArray, List.set_cons_zero, List.set_cons_succ]
    refine wpAnyH_take (i := 3) (oi := _) (v := ?_) rfl (by kernel_rfl) (by kernel_rfl) (by kernel_rfl) (fun _ _ _ h => h) (Or.inl ⟨by rfl, ?_⟩) hS ?_
    rotate_left
    · intro w' hw'
      have hcells := HC8.out w' hw'
      go_simp
      (try with_reducible rfl)
    simp only [Act.put, List.getElem_toArray, List.getElem_cons_succ, List.getElem_cons_zero, List.setIfInBounds_toArray, List.set_cons_zero, List.set_cons_succ]
    refine wpAnyH_take (i := 4) (oi := _) (v := ?_) rfl (by kernel_rfl) (by kernel_rfl) (by kernel_rfl) (fun _ _ _ h => h) (Or.inl ⟨by rfl, ?_⟩) hS ?_
    rotate_left
    · intro w' hw'
      have hcells := HC8.out w' hw'
      go_simp
      (try with_reducible rfl)
    simp only [Act.put, List.getElem_toArray, List.getElem_cons_succ, List.getElem_cons_zero, List.setIfInBounds_toArray, List.set_cons_zero, List.set_cons_succ]
    refine wpAnyH_take (i := 5) (oi := _) (v := ?_) rfl (by kernel_rfl) (by kernel_rfl) (by kernel_rfl) (fun _ _ _ h => h) (Or.inl ⟨by rfl, ?_⟩) hS ?_
    rotate_left
    · intro w' hw'
      have hcells := HC8.out w' hw'
      go_simp
      (try with_reducible rfl)
    simp only [Act.put, List.getElem_toArray, List.getElem_cons_succ, List.getElem_cons_zero, List.setIfInBounds_toArray, List.set_cons_zero, List.set_cons_succ]
    refine wpAnyH_ready (rs := [6]) (by kernel_rfl) (by simp) ?_
    refine AllReadyH.cons (o := _) rfl (fun K hK => ?_) AllReadyH.nil
    have hct := HCD.out w3'.drew (HB3'.out.drew)
    obtain ⟨a3, cap3, w4', hr3, hk3, hg3, hat3⟩ := run_append_kept (K := slK) (P := Tryz.prog) (w := w3'.drew) (ty := 53) Tryz.underlying53 hi hz0 (by rw [hz1]) (by rw [hz2]; omega) rfl one_sl (HK3.out.ext (HUA.out _ HB3'.out).1.size ((Below.refl _ _).drew)) (sc - (pi + 1)) (hAc.out w3'.drew (HB3'.out.drew)) (l2 := d.l.drop (pi + 1)) (by rw [List.length_drop]; have := HL.out; omega) (drop_els hct (pi + 1)) (HUA.out _ HB3'.out).1.size (by omega)
    refine step_append_run (by rfl) _ _ _ (by rfl) _ _ _ _ (by rfl) (by rfl) hr3 ?_
    clear hr3 hct
    have hbg3 : Below wv.heap.size w3'.drew w4' := grown_below hg3 HAT2.out HS3.out
    have HK4 := hid hk3
    have HAT3 := hid (show ∀ r, (Value.slice a3 ((pi + 1) + (sl - (pi + 1))) cap3).ownBlock = some r → wv.heap.size ≤ r from fun r hr => (hat3 r hr).elim (fun e => HAT2.out r e) (fun e => by rw [e]; exact HS3.out))
    have hkeep : Below ((w.alloc (.cells #[.int .i64 sn, .int .i64 st, .slice (some ⟨b, o, none⟩) sl sc] 55)).alloc (.cells #[.int .i64 x.k.k, .int .i64 x.k.i, .int .i64 x.k.s, .string x.k.t, .slice x.k.la x.k.ll x.k.lc, .slice x.k.fa x.k.fl x.k.fc, .int .i64 x.n, .int .i64 x.t, .slice x.ia x.il x.ic, .slice x.va x.vl x.vc] 58)).heap.size ((w.alloc (.cells #[.int .i64 sn, .int .i64 st, .slice (some ⟨b, o, none⟩) sl sc] 55)).alloc (.cells #[.int .i64 x.k.k, .int .i64 x.k.i, .int .i64 x.k.s, .string x.k.t, .slice x.k.la x.k.ll x.k.lc, .slice x.k.fa x.k.fl x.k.fc, .int .i64 x.n, .int .i64 x.t, .slice x.ia x.il x.ic, .slice x.va x.vl x.vc] 58)) w4' ∧ w4'.heap[w6.heap.size]? = some (.cells #[.int .i64 sn, .int .i64 st, .slice a2 (pi + 1) cap2] 55) := ⟨HB3'.out.drew.trans (hbg3.mono HBA.out.size), (hbg3.block _ (by rw [HSV.out]; exact Nat.lt_succ_self _)).trans HN3.out⟩
    clear hk3 hg3 hat3
    refine hK.out _ _ (hkeep) (fun hS => ?_)
    clear hK K
    (try simp only [Act.put, List.getElem_toArray, List.getElem_cons_succ, List.getElem_cons_zero, List.setIfInBounds_toArray, List.set_cons_zero, List.set_cons_succ])
    refine wpAnyH_done (by kernel_rfl) ?_ _
    (try dsimp only)
    have HE8 := hid hS
    clear hS
    have n0 := cellOf HE8.out.2 2
    have nf0 := freeOf HE8.out.2 2
    (try dsimp only at n0)
    go_upto_region 9 with (fail)
    clear n0 nf0
    obtain ⟨w5', hw5⟩ : ∃ u, u = w4'.setCell ⟨w6.heap.size, 2, none⟩ (.slice a3 ((pi + 1) + (sl - (pi + 1))) cap3) := ⟨_, rfl⟩
    rw [← hw5]
    have HN5 := hid (show w5'.heap[w6.heap.size]? = some (.cells #[.int .i64 sn, .int .i64 st, .slice a3 ((pi + 1) + (sl - (pi + 1))) cap3] 55) by
      rw [hw5]
      have h := heapSet (o := 2) (.slice a3 ((pi + 1) + (sl - (pi + 1))) cap3) HE8.out.2
      simpa only [List.setIfInBounds_toArray, List.set_cons_zero, List.set_cons_succ] using h)
    have HB5' := hid (show Below ((w.alloc (.cells #[.int .i64 sn, .int .i64 st, .slice (some ⟨b, o, none⟩) sl sc] 55)).alloc (.cells #[.int .i64 x.k.k, .int .i64 x.k.i, .int .i64 x.k.s, .string x.k.t, .slice x.k.la x.k.ll x.k.lc, .slice x.k.fa x.k.fl x.k.fc, .int .i64 x.n, .int .i64 x.t, .slice x.ia x.il x.ic, .slice x.va x.vl x.vc] 58)).heap.size ((w.alloc (.cells #[.int .i64 sn, .int .i64 st, .slice (some ⟨b, o, none⟩) sl sc] 55)).alloc (.cells #[.int .i64 x.k.k, .int .i64 x.k.i, .int .i64 x.k.s, .string x.k.t, .slice x.k.la x.k.ll x.k.lc, .slice x.k.fa x.k.fl x.k.fc, .int .i64 x.n, .int .i64 x.t, .slice x.ia x.il x.ic, .slice x.va x.vl x.vc] 58)) w5' by rw [hw5]; exact HE8.out.1.setCell (p := ⟨w6.heap.size, 2, none⟩) (by have := hb6.size; dsimp only; exact this) _)
    have HST5 := hid (show IsSta (· < w5'.heap.size) w5' ⟨sn, st, a3, ((pi + 1) + (sl - (pi + 1))), cap3⟩ ⟨d.n, d.t, putL d.l dx⟩ by
      have hk5 : Kept slK 58 w.heap.size w5' (.slice a3 ((pi + 1) + (sl - (pi + 1))) cap3) ((pi + 1) + (sl - (pi + 1))) (putL d.l dx) := by
        rw [hw5]
        have h := HK4.out.set (⟨w6.heap.size, 2, none⟩ : Addr) (.slice a3 ((pi + 1) + (sl - (pi + 1))) cap3) (by have := hb6.size; have h2 := HA.out.size; dsimp only; omega) (fun e => by have := HAT3.out _ e; have := HSV.out; dsimp only at *; omega)
        have e : putL d.l dx = (d.l.take pi ++ [dx]) ++ d.l.drop (pi + 1) := by rw [putL, putAt, putQ, ← HPI.out, ← HPB.out]; simp
        rw [e]
        exact h
      refine ⟨HD.out.n, HD.out.rn, HD.out.t, HD.out.rt, ?_⟩
      exact hk5.row (HUA.out _ HB5'.out).1.size (by dsimp only; omega))
    clear hw5
    have HU5 : Hid (∀ w', Below w5'.heap.size w5' w' → Below ((w.alloc (.cells #[.int .i64 sn, .int .i64 st, .slice (some ⟨b, o, none⟩) sl sc] 55)).alloc (.cells #[.int .i64 x.k.k, .int .i64 x.k.i, .int .i64 x.k.s, .string x.k.t, .slice x.k.la x.k.ll x.k.lc, .slice x.k.fa x.k.fl x.k.fc, .int .i64 x.n, .int .i64 x.t, .slice x.ia x.il x.ic, .slice x.va x.vl x.vc] 58)).heap.size ((w.alloc (.cells #[.int .i64 sn, .int .i64 st, .slice (some ⟨b, o, none⟩) sl sc] 55)).alloc (.cells #[.int .i64 x.k.k, .int .i64 x.k.i, .int .i64 x.k.s, .string x.k.t, .slice x.k.la x.k.ll x.k.lc, .slice x.k.fa x.k.fl x.k.fc, .int .i64 x.n, .int .i64 x.t, .slice x.ia x.il x.ic, .slice x.va x.vl x.vc] 58)) w') := hid fun w' h => HB5'.out.trans (h.mono HB5'.out.size)
    have HPU : Hid (∀ w', Below w5'.heap.size w5' w' → Calls Tryz.prog 51 #[.agg #[.int .i64 sn, .int .i64 st, .slice (some ⟨b, o, none⟩) sl sc], .agg #[.int .i64 x.k.k, .int .i64 x.k.i, .int .i64 x.k.s, .string x.k.t, .slice x.k.la x.k.ll x.k.lc, .slice x.k.fa x.k.fl x.k.fc, .int .i64 x.n, .int .i64 x.t, .slice x.ia x.il x.ic, .slice x.va x.vl x.vc]] w' (PutPost w' d dx)) := hid fun w' h => by
      obtain ⟨h1, h2, h3⟩ := HUA.out w' (HU5.out w' h)
      exact putT_call ⟨sn, st, some ⟨b, o, none⟩, sl, sc⟩ d x dx w' HSRT.out h2 h3 HPB.out.symm
    have HSV5 : Hid (∀ w', Below w5'.heap.size w5' w' → IsSta (· < w'.heap.size) w' ⟨sn, st, a3, ((pi + 1) + (sl - (pi + 1))), cap3⟩ ⟨d.n, d.t, putL d.l dx⟩) := hid fun w' h => HST5.out.same fun b q => ⟨Nat.lt_of_lt_of_le q h.size, h.block b q⟩
    have HIW : Hid (∀ w', Below w5'.heap.size w5' w' → w'.heap[w6.heap.size]? = some (.cells #[.int .i64 sn, .int .i64 st, .slice a3 ((pi + 1) + (sl - (pi + 1))) cap3] 55)) := hid fun w' h => heapExt h HN5.out
    obtain ⟨⟨k0, k1, k2⟩, ⟨x0, x1, x2, x3, x4, x5, x6, x7, x8, x9⟩⟩ := HBX.out _ HB5'.out
    go_upto_region 10 with (go_at_call 51; refine (HPU.out _ (Below.refl _ _)).mono ?_; rintro e w7 ⟨c8, rfl, hb7, hi8⟩; have HI8 := hid hi8; clear hi8)
    clear k0 k1 k2 x0 x1 x2 x3 x4 x5 x6 x7 x8 x9
    obtain ⟨w8, hw8⟩ : ∃ u, u = w7.alloc (.cells #[.int .i64 c8.n, .int .i64 c8.t, .slice c8.a c8.l c8.c] 55) := ⟨_, rfl⟩
    rw [← hw8]
    have HB7 := hid hb7
    have HB78 := hid (show Below w7.heap.size w7 w8 by rw [hw8]; exact (Below.refl _ _).alloc (Nat.le_refl _) _)
    have HB8 := hid (show Below w5'.heap.size w5' w8 from hb7.trans (HB78.out.mono hb7.size))
    have H8 := hid (show w8.heap[w7.heap.size]? = some (.cells #[.int .i64 c8.n, .int .i64 c8.t, .slice c8.a c8.l c8.c] 55) by rw [hw8]; exact heap_alloc_new w7 _)
    have HST8 : Hid (∀ w', Below w8.heap.size w8 w' → IsSta (· < w'.heap.size) w' c8 ⟨d.n, d.t, putL d.l dx⟩) := hid fun w' h => HI8.out.same fun b q => ⟨by have := HB78.out.size; have := h.size; omega, (h.block b (by have := HB78.out.size; omega)).trans (HB78.out.block b q)⟩
    have HC8 : Hid (∀ w', Below w8.heap.size w8 w' → (w'.cell? ⟨w7.heap.size, 0, none⟩ = some (.int .i64 c8.n) ∧ w'.cell? ⟨w7.heap.size, 1, none⟩ = some (.int .i64 c8.t) ∧ w'.cell? ⟨w7.heap.size, 2, none⟩ = some (.slice c8.a c8.l c8.c)) ∧ (w'.cell? ⟨w6.heap.size, 0, none⟩ = some (.int .i64 sn) ∧ w'.cell? ⟨w6.heap.size, 1, none⟩ = some (.int .i64 st) ∧ w'.cell? ⟨w6.heap.size, 2, none⟩ = some (.slice a3 ((pi + 1) + (sl - (pi + 1))) cap3)) ∧ (w'.cell? ⟨w.heap.size + 1, 0, none⟩ = some (.int .i64 x.k.k) ∧ w'.cell? ⟨w.heap.size + 1, 1, none⟩ = some (.int .i64 x.k.i) ∧ w'.cell? ⟨w.heap.size + 1, 2, none⟩ = some (.int .i64 x.k.s) ∧ w'.cell? ⟨w.heap.size + 1, 3, none⟩ = some (.string x.k.t) ∧ w'.cell? ⟨w.heap.size + 1, 4, none⟩ = some (.slice x.k.la x.k.ll x.k.lc) ∧ w'.cell? ⟨w.heap.size + 1, 5, none⟩ = some (.slice x.k.fa x.k.fl x.k.fc) ∧ w'.cell? ⟨w.heap.size + 1, 6, none⟩ = some (.int .i64 x.n) ∧ w'.cell? ⟨w.heap.size + 1, 7, none⟩ = some (.int .i64 x.t) ∧ w'.cell? ⟨w.heap.size + 1, 8, none⟩ = some (.slice x.ia x.il x.ic) ∧ w'.cell? ⟨w.heap.size + 1, 9, none⟩ = some (.slice x.va x.vl x.vc))) := hid fun w' h => by
      have h1 := heapExt h H8.out
      have h5 := HB8.out.trans (h.mono HB8.out.size)
      have h2 := HIW.out w' h5
      exact ⟨⟨cellOf h1 0, cellOf h1 1, cellOf h1 2⟩, ⟨cellOf h2 0, cellOf h2 1, cellOf h2 2⟩, (HBX.out _ (HU5.out _ h5)).2⟩
    have HGE : Hid (∀ w', Below w8.heap.size w8 w' → Calls Tryz.prog 36 #[.agg #[.int .i64 c8.n, .int .i64 c8.t, .slice c8.a c8.l c8.c], .agg #[.int .i64 x.k.k, .int .i64 x.k.i, .int .i64 x.k.s, .string x.k.t, .slice x.k.la x.k.ll x.k.lc, .slice x.k.fa x.k.fl x.k.fc]] w' fun e w2 => ∃ y : SlC, e = .returned (.tuple #[.agg #[.int .i64 y.k.k, .int .i64 y.k.i, .int .i64 y.k.s, .string y.k.t, .slice y.k.la y.k.ll y.k.lc, .slice y.k.fa y.k.fl y.k.fc, .int .i64 y.n, .int .i64 y.t, .slice y.ia y.il y.ic, .slice y.va y.vl y.vc], .bool true]) ∧ Below w'.heap.size w' w2 ∧ IsSl (fun b => w'.heap.size ≤ b ∧ b < w2.heap.size) w2 y dx) := hid fun w' h => by
      have h5 := HU5.out _ (HB8.out.trans (h.mono HB8.out.size))
      have hc := get_call c8 ⟨d.n, d.t, putL d.l dx⟩ x.k dx.k w' (HST8.out w' h) (HUA.out w' h5).2.2.k
      have hs := putL_srt HSRT.out dx
      refine hc.mono fun e w2 hh => ?_
      obtain ⟨y, dy, q1, q2, q3, q4, q5⟩ := hh
      have e1 : findB (putL d.l dx) dx.k = true := by rw [findB_place hs, putL_found]
      dsimp only at q1 q4
      rw [e1] at q1
      have q6 := q4 e1
      rw [findI_place hs, putL_place, putL_at] at q6
      obtain rfl : dx = dy := Option.some.inj q6
      exact ⟨y, q1, q2, q3⟩
    clear hw8 hb7
    obtain ⟨⟨k0, k1, k2⟩, ⟨m0, m1, m2⟩, ⟨x0, x1, x2, x3, x4, x5, x6, x7, x8, x9⟩⟩ := HC8.out _ (Below.refl _ _)
    go_upto_region 11 with (go_at_call 36; refine (HGE.out _ (Below.refl _ _)).mono ?_; rintro e w9 ⟨y, rfl, hb9, hi9⟩; have HI9 := hid hi9; have HB9 := hid hb9; clear hi9 hb9)
    clear k0 k1 k2 x0 x1 x2 x3 x4 x5 x6 x7 x8 x9 m0 m1 m2
    obtain ⟨wa, hwa⟩ : ∃ u, u = w9.alloc (.cells #[.int .i64 y.k.k, .int .i64 y.k.i, .int .i64 y.k.s, .string y.k.t, .slice y.k.la y.k.ll y.k.lc, .slice y.k.fa y.k.fl y.k.fc, .int .i64 y.n, .int .i64 y.t, .slice y.ia y.il y.ic, .slice y.va y.vl y.vc] 58) := ⟨_, rfl⟩
    rw [← hwa]
    have HB9A := hid (show Below w9.heap.size w9 wa by rw [hwa]; exact (Below.refl _ _).alloc (Nat.le_refl _) _)
    have HBA8 := hid (show Below w8.heap.size w8 wa from HB9.out.trans (HB9A.out.mono HB9.out.size))
    have HAA := hid (show wa.heap[w9.heap.size]? = some (.cells #[.int .i64 y.k.k, .int .i64 y.k.i, .int .i64 y.k.s, .string y.k.t, .slice y.k.la y.k.ll y.k.lc, .slice y.k.fa y.k.fl y.k.fc, .int .i64 y.n, .int .i64 y.t, .slice y.ia y.il y.ic, .slice y.va y.vl y.vc] 58) by rw [hwa]; exact heap_alloc_new w9 _)
    have HCA : Hid (∀ w', Below wa.heap.size wa w' → ((w'.cell? ⟨w7.heap.size, 0, none⟩ = some (.int .i64 c8.n) ∧ w'.cell? ⟨w7.heap.size, 1, none⟩ = some (.int .i64 c8.t) ∧ w'.cell? ⟨w7.heap.size, 2, none⟩ = some (.slice c8.a c8.l c8.c)) ∧ (w'.cell? ⟨w6.heap.size, 0, none⟩ = some (.int .i64 sn) ∧ w'.cell? ⟨w6.heap.size, 1, none⟩ = some (.int .i64 st) ∧ w'.cell? ⟨w6.heap.size, 2, none⟩ = some (.slice a3 ((pi + 1) + (sl - (pi + 1))) cap3)) ∧ (w'.cell? ⟨w.heap.size + 1, 0, none⟩ = some (.int .i64 x.k.k) ∧ w'.cell? ⟨w.heap.size + 1, 1, none⟩ = some (.int .i64 x.k.i) ∧ w'.cell? ⟨w.heap.size + 1, 2, none⟩ = some (.int .i64 x.k.s) ∧ w'.cell? ⟨w.heap.size + 1, 3, none⟩ = some (.string x.k.t) ∧ w'.cell? ⟨w.heap.size + 1, 4, none⟩ = some (.slice x.k.la x.k.ll x.k.lc) ∧ w'.cell? ⟨w.heap.size + 1, 5, none⟩ = some (.slice x.k.fa x.k.fl x.k.fc) ∧ w'.cell? ⟨w.heap.size + 1, 6, none⟩ = some (.int .i64 x.n) ∧ w'.cell? ⟨w.heap.size + 1, 7, none⟩ = some (.int .i64 x.t) ∧ w'.cell? ⟨w.heap.size + 1, 8, none⟩ = some (.slice x.ia x.il x.ic) ∧ w'.cell? ⟨w.heap.size + 1, 9, none⟩ = some (.slice x.va x.vl x.vc))) ∧ (w'.cell? ⟨w9.heap.size, 0, none⟩ = some (.int .i64 y.k.k) ∧ w'.cell? ⟨w9.heap.size, 1, none⟩ = some (.int .i64 y.k.i) ∧ w'.cell? ⟨w9.heap.size, 2, none⟩ = some (.int .i64 y.k.s) ∧ w'.cell? ⟨w9.heap.size, 3, none⟩ = some (.string y.k.t) ∧ w'.cell? ⟨w9.heap.size, 4, none⟩ = some (.slice y.k.la y.k.ll y.k.lc) ∧ w'.cell? ⟨w9.heap.size, 5, none⟩ = some (.slice y.k.fa y.k.fl y.k.fc) ∧ w'.cell? ⟨w9.heap.size, 6, none⟩ = some (.int .i64 y.n) ∧ w'.cell? ⟨w9.heap.size, 7, none⟩ = some (.int .i64 y.t) ∧ w'.cell? ⟨w9.heap.size, 8, none⟩ = some (.slice y.ia y.il y.ic) ∧ w'.cell? ⟨w9.heap.size, 9, none⟩ = some (.slice y.va y.vl y.vc))) := hid fun w' h => by
      have h1 := heapExt h HAA.out
      exact ⟨HC8.out w' (HBA8.out.trans (h.mono HBA8.out.size)), cellOf h1 0, cellOf h1 1, cellOf h1 2, cellOf h1 3, cellOf h1 4, cellOf h1 5, cellOf h1 6, cellOf h1 7, cellOf h1 8, cellOf h1 9⟩
    have HSA : Hid (∀ w', Below wa.heap.size wa w' → Calls Tryz.prog 41 #[.agg #[.int .i64 c8.n, .int .i64 c8.t, .slice c8.a c8.l c8.c], .agg #[.int .i64 sn, .int .i64 st, .slice a3 ((pi + 1) + (sl - (pi + 1))) cap3]] w' fun e w2 => e = .returned (.bool true) ∧ Below w'.heap.size w' w2) := hid fun w' h => by
      have h8 := HBA8.out.trans (h.mono HBA8.out.size)
      have hc := sameSta_call c8 ⟨sn, st, a3, ((pi + 1) + (sl - (pi + 1))), cap3⟩ _ _ w' (HST8.out w' h8) (HSV5.out w' (HB8.out.trans (h8.mono HB8.out.size)))
      rw [staEqB_refl] at hc
      exact hc
    have HSO : Hid (∀ w', Below wa.heap.size wa w' → Calls Tryz.prog 34 #[.agg #[.int .i64 c8.n, .int .i64 c8.t, .slice c8.a c8.l c8.c]] w' fun e w2 => e = .returned (.bool true) ∧ Below w'.heap.size w' w2) := hid fun w' h => by
      have h8 := HBA8.out.trans (h.mono HBA8.out.size)
      have hc := sorted_call c8 _ w' (HST8.out w' h8)
      refine hc.mono fun e w2 hh => ?_
      obtain ⟨⟨b', rfl, _, q⟩, hb⟩ := hh
      obtain rfl : b' = true := q (putL_srt HSRT.out dx)
      exact ⟨rfl, hb⟩
    have HSS : Hid (∀ w', Below wa.heap.size wa w' → Calls Tryz.prog 38 #[.agg #[.int .i64 x.k.k, .int .i64 x.k.i, .int .i64 x.k.s, .string x.k.t, .slice x.k.la x.k.ll x.k.lc, .slice x.k.fa x.k.fl x.k.fc, .int .i64 x.n, .int .i64 x.t, .slice x.ia x.il x.ic, .slice x.va x.vl x.vc], .agg #[.int .i64 y.k.k, .int .i64 y.k.i, .int .i64 y.k.s, .string y.k.t, .slice y.k.la y.k.ll y.k.lc, .slice y.k.fa y.k.fl y.k.fc, .int .i64 y.n, .int .i64 y.t, .slice y.ia y.il y.ic, .slice y.va y.vl y.vc]] w' fun e w2 => e = .returned (.bool true) ∧ Below w'.heap.size w' w2) := hid fun w' h => by
      have h8 := HBA8.out.trans (h.mono HBA8.out.size)
      have h5 := HU5.out _ (HB8.out.trans (h8.mono HB8.out.size))
      have h9 := HB9A.out.trans (h.mono HB9A.out.size)
      have hc := sameSlot_call x y dx dx w' (HUA.out w' h5).2.2 (HI9.out.same fun b q => ⟨Nat.lt_of_lt_of_le q.2 h9.size, h9.block b q.2⟩)
      rw [slEqB_refl] at hc
      exact hc
    have HUF : Hid (∀ w', Below wa.heap.size wa w' → Below w.heap.size w w') := hid fun w' h => by
      have h8 := HBA8.out.trans (h.mono HBA8.out.size)
      exact (HUA.out _ (HU5.out _ (HB8.out.trans (h8.mono HB8.out.size)))).1
    clear hwa
    obtain ⟨⟨⟨k0, k1, k2⟩, ⟨m0, m1, m2⟩, ⟨x0, x1, x2, x3, x4, x5, x6, x7, x8, x9⟩⟩, ⟨y0, y1, y2, y3, y4, y5, y6, y7, y8, y9⟩⟩ := HCA.out _ (Below.refl _ _)
    go_wp2_with (first
      | (go_at_call 38; refine (HSS.out _ hbc).mono ?_; rintro e wd ⟨rfl, hbd⟩; have hbe := hbc.trans (hbd.mono hbc.size))
      | (go_at_call 34; refine (HSO.out _ hbb).mono ?_; rintro e wc ⟨rfl, hbc'⟩; have hbc := hbb.trans (hbc'.mono hbb.size); clear k0 k1 k2 x0 x1 x2 x3 x4 x5 x6 x7 x8 x9 m0 m1 m2 y0 y1 y2 y3 y4 y5 y6 y7 y8 y9; obtain ⟨⟨⟨k0, k1, k2⟩, ⟨m0, m1, m2⟩, ⟨x0, x1, x2, x3, x4, x5, x6, x7, x8, x9⟩⟩, ⟨y0, y1, y2, y3, y4, y5, y6, y7, y8, y9⟩⟩ := HCA.out _ hbc)
      | (go_at_call 41; refine (HSA.out _ (Below.refl _ _)).mono ?_; rintro e wb ⟨rfl, hbb⟩; clear k0 k1 k2 x0 x1 x2 x3 x4 x5 x6 x7 x8 x9 m0 m1 m2 y0 y1 y2 y3 y4 y5 y6 y7 y8 y9; obtain ⟨⟨⟨k0, k1, k2⟩, ⟨m0, m1, m2⟩, ⟨x0, x1, x2, x3, x4, x5, x6, x7, x8, x9⟩⟩, ⟨y0, y1, y2, y3, y4, y5, y6, y7, y8, y9⟩⟩ := HCA.out _ hbb))
    go_ret
    exact ⟨rfl, HUF.out _ hbe⟩
  | false =>
    by_cases h0 : sl = 0
    · obtain rfl : pi = 0 := by have := HPL.out; omega
      subst h0
      have HC5 : Hid (∀ w', Below wv.heap.size wv w' → w'.cell? ⟨w6.heap.size, 2, none⟩ = some (.slice none 0 0) ∧ w'.cell? ⟨w.heap.size, 2, none⟩ = some (.slice a 0 sc) ∧ (w'.cell? ⟨w.heap.size + 1, 0, none⟩ = some (.int .i64 x.k.k) ∧ w'.cell? ⟨w.heap.size + 1, 1, none⟩ = some (.int .i64 x.k.i) ∧ w'.cell? ⟨w.heap.size + 1, 2, none⟩ = some (.int .i64 x.k.s) ∧ w'.cell? ⟨w.heap.size + 1, 3, none⟩ = some (.string x.k.t) ∧ w'.cell? ⟨w.heap.size + 1, 4, none⟩ = some (.slice x.k.la x.k.ll x.k.lc) ∧ w'.cell? ⟨w.heap.size + 1, 5, none⟩ = some (.slice x.k.fa x.k.fl x.k.fc) ∧ w'.cell? ⟨w.heap.size + 1, 6, none⟩ = some (.int .i64 x.n) ∧ w'.cell? ⟨w.heap.size + 1, 7, none⟩ = some (.int .i64 x.t) ∧ w'.cell? ⟨w.heap.size + 1, 8, none⟩ = some (.slice x.ia x.il x.ic) ∧ w'.cell? ⟨w.heap.size + 1, 9, none⟩ = some (.slice x.va x.vl x.vc))) := hid fun w' h => by
        have h1 := heapExt h HNB.out
        have h2 := HBX.out _ (HBA.out.trans (h.mono HBA.out.size))
        exact ⟨cellOf h1 2, h2.1.2.2, h2.2⟩
      refine wp_region_split 10 (fun w' => Below wv.heap.size wv w') (by kernel_rfl) (by kernel_rfl) (by kernel_rfl) (by decide) ((Below.refl _ _).drew) (fun hS => ?_)
      simp only [List.take_succ_cons, List.take_zero, List.drop_succ_cons, List.drop_zero]
      refine wpAnyH_take (i := 0) (oi := _) (v := ?_) rfl (by kernel_rfl) (by kernel_rfl) (by kernel_rfl) (fun _ _ _ h => h) (Or.inl ⟨by rfl, ?_⟩) hS ?_
      rotate_left
      · intro w' hw'
        have hcells := HC5.out w' hw'
        go_simp
        (try with_reducible rfl)
      simp only [Act.put, List.getElem_toArray, List.getElem_cons_succ, List.getElem_cons_zero, List.setIfInBounds_toArray, List.set_cons_zero, List.set_cons_succ]
      refine wpAnyH_take (i := 1) (oi := _) (v := ?_) rfl (by kernel_rfl) (by kernel_rfl) (by kernel_rfl) (fun _ _ _ h => h) (Or.inl ⟨by rfl, ?_⟩) hS ?_
      rotate_left
      · intro w' hw'
        have hcells := HC5.out w' hw'
        go_simp
        (try with_reducible rfl)
      simp only [Act.put, List.getElem_toArray, List.getElem_cons_succ, List.getElem_cons_zero, List.setIfInBounds_toArray, List.set_cons_zero, List.set_cons_succ]
      refine wpAnyH_take (i := 2) (oi := _) (v := ?_) rfl (by kernel_rfl) (by kernel_rfl) (by kernel_rfl) (fun _ _ _ h => h) (Or.inl ⟨by rfl, ?_⟩) hS ?_
      rotate_left
      · intro w' hw'
        have hcells := HC5.out w' hw'
        go_simp
        (try with_reducible rfl)
      simp only [Act.put, List.getElem_toArray, List.getElem_cons_succ, List.getElem_cons_zero, List.setIfInBounds_toArray, List.set_cons_zero, List.set_cons_succ]
      refine wpAnyH_take (i := 3) (oi := _) (v := ?_) rfl (by kernel_rfl) (by kernel_rfl) (by kernel_rfl) (fun _ _ _ h => h) (Or.inl ⟨by rfl, ?_⟩) hS ?_
      rotate_left
      · intro w' hw'
        have hcells := HC5.out w' hw'
        go_simp
        (try with_reducible rfl)
      simp only [Act.put, List.getElem_toArray, List.getElem_cons_succ, List.getElem_cons_zero, List.setIfInBounds_toArray, List.set_cons_zero, List.set_cons_succ]
      refine wpAnyH_take (i := 4) (oi := _) (v := ?_) rfl (by kernel_rfl) (by kernel_rfl) (by kernel_rfl) (fun _ _ _ h => h) (Or.inl ⟨by rfl, ?_⟩) hS ?_
      rotate_left
      · intro w' hw'
        have hcells := HC5.out w' hw'
        go_simp
        (try with_reducible rfl)
      simp only [Act.put, List.getElem_toArray, List.getElem_cons_succ, List.getElem_cons_zero, List.setIfInBounds_toArray, List.set_cons_zero, List.set_cons_succ]
      refine wpAnyH_take (i := 5) (oi := _) (v := ?_) rfl (by kernel_rfl) (by kernel_rfl) (by kernel_rfl) (fun _ _ _ h => h) (Or.inl ⟨by rfl, ?_⟩) hS ?_
      rotate_left
      · intro w' hw'
        have hcells := HC5.out w' hw'
        go_simp
        (try with_reducible rfl)
      simp only [Act.put, List.getElem_toArray, List.getElem_cons_succ, List.getElem_cons_zero, List.setIfInBounds_toArray, List.set_cons_zero, List.set_cons_succ]
      refine wpAnyH_take (i := 7) (oi := _) (v := ?_) rfl (by kernel_rfl) (by kernel_rfl) (by kernel_rfl) (fun _ _ _ h => h) (Or.inl ⟨by rfl, ?_⟩) hS ?_
      rotate_left
      · intro w' hw'
        have hcells := HC5.out w' hw'
        go_simp
        (try with_reducible rfl)
      simp only [Act.put, List.getElem_toArray, List.getElem_cons_succ, List.getElem_cons_zero, List.setIfInBounds_toArray, List.set_cons_zero, List.set_cons_succ]
      refine wpAnyH_ready (rs := [6, 8]) (by kernel_rfl) (by simp) ?_
      refine AllReadyH.cons (o := _) rfl (fun K hK => ?_) ?_
      · refine step_append_run (by rfl) _ _ _ (by rfl) (.slice none 0 0) _ (.slice none 0 0) wv.drew (by rfl) (by rfl) (run_append_nothing (P := Tryz.prog) wv.drew _ _ _ _ ti Tryz.underlying53 hi _ 0 0 (Nat.le_refl 0) _ (src00 Tryz.underlying53 _ _)) ?_
        obtain ⟨w1, hw1⟩ : ∃ u, u = wv.drew := ⟨_, rfl⟩
        rw [← hw1]
        have hbv1 : Below wv.heap.size wv w1 := by rw [hw1]; exact HDR.out
        have hb1 : Below wv.drew.heap.size wv.drew w1 := by rw [hw1]; exact Below.refl _ _
        have HB1 := hid hbv1
        have HK1 := hid (show Kept slK 58 w.heap.size w1 (.slice none 0 0) 0 (d.l.take 0) from Kept.nil _ _ _)
        have HAT1 := hid (show ∀ r, (Value.slice none 0 0).ownBlock = some r → wv.heap.size ≤ r from fun r hr => by cases hr)
        clear hw1
        clear hb1
        refine hK.out _ _ (hbv1) (fun hS => ?_)
        clear hK K
        (try simp only [Act.put, List.getElem_toArray, List.getElem_cons_succ, List.getElem_cons_zero, List.setIfInBounds_toArray, List.set_cons_zero, List.set_cons_succ])
        refine wpAnyH_ready (rs := [8]) (by kernel_rfl) (by simp) ?_
        refine AllReadyH.cons (o := _) rfl (fun K hK => ?_) AllReadyH.nil
        go_simp
        obtain ⟨wX, hwX⟩ : ∃ u, u = w1.alloc (.cells #[.int .i64 x.k.k, .int .i64 x.k.i, .int .i64 x.k.s, .string x.k.t, .slice x.k.la x.k.ll x.k.lc, .slice x.k.fa x.k.fl x.k.fc, .int .i64 x.n, .int .i64 x.t, .slice x.ia x.il x.ic, .slice x.va x.vl x.vc] 58) := ⟨_, rfl⟩
        rw [← hwX]
        have hbx1 : Below w1.heap.size w1 wX := by rw [hwX]; exact (Below.refl _ _).alloc (Nat.le_refl _) _
        have HXB := hid (HB1.out.trans (hbx1.mono HB1.out.size))
        have HCX1 := hid (show wX.heap[w1.heap.size]? = some (.cells #[.int .i64 x.k.k, .int .i64 x.k.i, .int .i64 x.k.s, .string x.k.t, .slice x.k.la x.k.ll x.k.lc, .slice x.k.fa x.k.fl x.k.fc, .int .i64 x.n, .int .i64 x.t, .slice x.ia x.il x.ic, .slice x.va x.vl x.vc] 58) by rw [hwX]; exact heap_alloc_new w1 _)
        have HKW := hid (HK1.out.ext (HUA.out _ (HBA.out.trans (HB1.out.mono HBA.out.size))).1.size hbx1)
        have HBW := HXB
        clear hwX hbx1
        refine hK.out _ _ (HXB.out) (fun hS => ?_)
        clear hK K
        (try simp only [Act.put, List.getElem_toArray, List.getElem_cons_succ, List.getElem_cons_zero, List.setIfInBounds_toArray, List.set_cons_zero, List.set_cons_succ])
        refine wpAnyH_ready (rs := [9]) (by kernel_rfl) (by simp) ?_
        refine AllReadyH.cons (o := _) rfl (fun K hK => ?_) AllReadyH.nil
        have hct := HCT.out wX HBW.out
        have hcx : Cl slK wX (some ⟨w1.heap.size, 0, none⟩) 1 [x] := ⟨rfl, .inr ⟨_, rfl, fun t u hu => (by simp only [List.flatMap_cons, List.flatMap_nil, List.append_nil] at hu; exact World.news_of_block HCX1.out t u hu)⟩⟩
        obtain ⟨a2, cap2, w2', hr2, hk2, hg2, hat2⟩ := run_append_kept (K := slK) (P := Tryz.prog) (w := wX) (ty := 53) Tryz.underlying53 hi hz0 (by rw [hz1]) (by rw [hz2]; omega) rfl one_sl HKW.out 1 hcx (l2 := [dx]) rfl (one_els hct.2.1) hct.1 (by omega)
        refine step_append_run (by rfl) _ _ _ (by rfl) _ _ _ _ (by rfl) (by rfl) hr2 ?_
        clear hr2 hcx
        have hbg2 : Below wv.heap.size wX w2' := grown_below hg2 HAT1.out HBW.out.size
        have HB2 := hid (HBW.out.trans hbg2)
        have HK2 := hid hk2
        have HAT2 := hid (show ∀ r, (Value.slice a2 (0 + 1) cap2).ownBlock = some r → wv.heap.size ≤ r from fun r hr => (hat2 r hr).elim (fun e => HAT1.out r e) (fun e => by rw [e]; exact HBW.out.size))
        clear hbg2 hk2 hat2 hg2 hct
        refine hK.out _ _ (HB2.out) (fun hS => ?_)
        clear hK K
        (try simp only [Act.put, List.getElem_toArray, List.getElem_cons_succ, List.getElem_cons_zero, List.setIfInBounds_toArray, List.set_cons_zero, List.set_cons_succ])
        refine wpAnyH_done (by kernel_rfl) ?_ _
        (try dsimp only)
        clear hS
        have HN2 := hid (show w2'.heap[w6.heap.size]? = some (.cells #[.int .i64 sn, .int .i64 st, .slice none 0 0] 55) from heapExt HB2.out HNB.out)
        have n2 := cellOf HN2.out 2
        have nf2 := freeOf HN2.out 2
        (try dsimp only at n2)
        (try simp only [Nat.zero_add])
        go_upto_region 8 with (fail)
        clear n2 nf2
        obtain ⟨w3', hw3⟩ : ∃ u, u = w2'.setCell ⟨w6.heap.size, 2, none⟩ (.slice a2 1 cap2) := ⟨_, rfl⟩
        rw [← hw3]
        have HN3 := hid (show w3'.heap[w6.heap.size]? = some (.cells #[.int .i64 sn, .int .i64 st, .slice a2 1 cap2] 55) by
          rw [hw3]
          have h := heapSet (o := 2) (.slice a2 1 cap2) HN2.out
          simpa only [List.setIfInBounds_toArray, List.set_cons_zero, List.set_cons_succ] using h)
        have hs2 := HB2.out.size
        have HB3' := hid (show Below ((w.alloc (.cells #[.int .i64 sn, .int .i64 st, .slice a 0 sc] 55)).alloc (.cells #[.int .i64 x.k.k, .int .i64 x.k.i, .int .i64 x.k.s, .string x.k.t, .slice x.k.la x.k.ll x.k.lc, .slice x.k.fa x.k.fl x.k.fc, .int .i64 x.n, .int .i64 x.t, .slice x.ia x.il x.ic, .slice x.va x.vl x.vc] 58)).heap.size ((w.alloc (.cells #[.int .i64 sn, .int .i64 st, .slice a 0 sc] 55)).alloc (.cells #[.int .i64 x.k.k, .int .i64 x.k.i, .int .i64 x.k.s, .string x.k.t, .slice x.k.la x.k.ll x.k.lc, .slice x.k.fa x.k.fl x.k.fc, .int .i64 x.n, .int .i64 x.t, .slice x.ia x.il x.ic, .slice x.va x.vl x.vc] 58)) w3' by rw [hw3]; exact (HBA.out.trans (HB2.out.mono HBA.out.size)).setCell (p := ⟨w6.heap.size, 2, none⟩) (by have := hb6.size; dsimp only; exact this) _)
        have HS3 := hid (show wv.heap.size ≤ w3'.heap.size by rw [hw3]; simpa [World.setCell] using hs2)
        have HK3 := hid (show Kept slK 58 w.heap.size w3' (.slice a2 1 cap2) 1 (d.l.take 0 ++ [dx]) by
          rw [hw3]
          have h := HK2.out
          (try simp only [Nat.zero_add] at h)
          exact h.set (⟨w6.heap.size, 2, none⟩ : Addr) _ (by have := hb6.size; have h2 := HA.out.size; dsimp only; omega) (fun e => by have := HAT2.out _ e; have := HSV.out; dsimp only at *; omega))
        clear hw3 hs2

        have HC8 : Hid (∀ w', (Below ((w.alloc (.cells #[.int .i64 sn, .int .i64 st, .slice a 0 sc] 55)).alloc (.cells #[.int .i64 x.k.k, .int .i64 x.k.i, .int .i64 x.k.s, .string x.k.t, .slice x.k.la x.k.ll x.k.lc, .slice x.k.fa x.k.fl x.k.fc, .int .i64 x.n, .int .i64 x.t, .slice x.ia x.il x.ic, .slice x.va x.vl x.vc] 58)).heap.size ((w.alloc (.cells #[.int .i64 sn, .int .i64 st, .slice a 0 sc] 55)).alloc (.cells #[.int .i64 x.k.k, .int .i64 x.k.i, .int .i64 x.k.s, .string x.k.t, .slice x.k.la x.k.ll x.k.lc, .slice x.k.fa x.k.fl x.k.fc, .int .i64 x.n, .int .i64 x.t, .slice x.ia x.il x.ic, .slice x.va x.vl x.vc] 58)) w' ∧ w'.heap[w6.heap.size]? = some (.cells #[.int .i64 sn, .int .i64 st, .slice a2 1 cap2] 55)) → w'.cell? ⟨w6.heap.size, 2, none⟩ = some (.slice a2 1 cap2) ∧ w'.cell? ⟨w.heap.size, 2, none⟩ = some (.slice a 0 sc)) := hid fun w' h => ⟨cellOf h.2 2, (HBX.out w' h.1).1.2.2⟩
        have HCC := hid (show 1 ≤ cap2 from by obtain ⟨a', c', e, h⟩ := HK3.out.shape; injection e with e1 e2 e3; omega)
        refine wp_region_split 7 (fun w' => Below ((w.alloc (.cells #[.int .i64 sn, .int .i64 st, .slice a 0 sc] 55)).alloc (.cells #[.int .i64 x.k.k, .int .i64 x.k.i, .int .i64 x.k.s, .string x.k.t, .slice x.k.la x.k.ll x.k.lc, .slice x.k.fa x.k.fl x.k.fc, .int .i64 x.n, .int .i64 x.t, .slice x.ia x.il x.ic, .slice x.va x.vl x.vc] 58)).heap.size ((w.alloc (.cells #[.int .i64 sn, .int .i64 st, .slice a 0 sc] 55)).alloc (.cells #[.int .i64 x.k.k, .int .i64 x.k.i, .int .i64 x.k.s, .string x.k.t, .slice x.k.la x.k.ll x.k.lc, .slice x.k.fa x.k.fl x.k.fc, .int .i64 x.n, .int .i64 x.t, .slice x.ia x.il x.ic, .slice x.va x.vl x.vc] 58)) w' ∧ w'.heap[w6.heap.size]? = some (.cells #[.int .i64 sn, .int .i64 st, .slice a2 1 cap2] 55)) (by kernel_rfl) (by kernel_rfl) (by kernel_rfl) (by decide) (⟨HB3'.out.drew, HN3.out⟩) (fun hS => ?_)
        simp only [List.take_succ_cons, List.take_zero, List.drop_succ_cons, List.drop_zero]
        refine wpAnyH_take (i := 0) (oi := _) (v := ?_) rfl (by kernel_rfl) (by kernel_rfl) (by kernel_rfl) (fun _ _ _ h => h) (Or.inl ⟨by rfl, ?_⟩) hS ?_
        rotate_left
        · intro w' hw'
          have hcells := HC8.out w' hw'
          go_simp
          (try with_reducible rfl)
        simp only [Act.put, List.getElem_toArray, List.getElem_cons_succ, List.getElem_cons_zero, List.setIfInBounds_toArray, List.set_cons_zero, List.set_cons_succ]
        refine wpAnyH_take (i := 1) (oi := _) (v := ?_) rfl (by kernel_rfl) (by kernel_rfl) (by kernel_rfl) (fun _ _ _ h => h) (Or.inl ⟨by rfl, ?_⟩) hS ?_
        rotate_left
        · intro w' hw'
          have hcells := HC8.out w' hw'
          go_simp
          (try with_reducible rfl)
        simp only [Act.put, List.getElem_toArray, List.getElem_cons_succ, List.getElem_cons_zero, List.setIfInBounds_toArray, List.set_cons_zero, List.set_cons_succ]
        refine wpAnyH_take (i := 2) (oi := _) (v := ?_) rfl (by kernel_rfl) (by kernel_rfl) (by kernel_rfl) (fun _ _ _ h => h) (Or.inl ⟨by rfl, ?_⟩) hS ?_
        rotate_left
        · intro w' hw'
          have hcells := HC8.out w' hw'
          go_simp
          (try with_reducible rfl)
        simp only [Act.put, List.getElem_toArray, List.getElem_cons_succ, List.getElem_cons_zero, List.setIfInBounds_toArray, List.set_cons_zero, List.set_cons_succ]
        refine wpAnyH_take (i := 3) (oi := _) (v := ?_) rfl (by kernel_rfl) (by kernel_rfl) (by kernel_rfl) (fun _ _ _ h => h) (Or.inl ⟨by rfl, ?_⟩) hS ?_
        rotate_left
        · intro w' hw'
          have hcells := HC8.out w' hw'
          go_simp
          (try with_reducible rfl)
        simp only [Act.put, List.getElem_toArray, List.getElem_cons_succ, List.getElem_cons_zero, List.setIfInBounds_toArray, List.set_cons_zero, List.set_cons_succ]
        refine wpAnyH_take (i := 4) (oi := _) (v := ?_) rfl (by kernel_rfl) (by kernel_rfl) (by kernel_rfl) (fun _ _ _ h => h) (Or.inl ⟨by rfl, ?_⟩) hS ?_
        rotate_left
        · intro w' hw'
          have hcells := HC8.out w' hw'
          go_simp
          (try with_reducible rfl)
        simp only [Act.put, List.getElem_toArray, List.getElem_cons_succ, List.getElem_cons_zero, List.setIfInBounds_toArray, List.set_cons_zero, List.set_cons_succ]
        refine wpAnyH_take (i := 5) (oi := _) (v := ?_) rfl (by kernel_rfl) (by kernel_rfl) (by kernel_rfl) (fun _ _ _ h => h) (Or.inl ⟨by rfl, ?_⟩) hS ?_
        rotate_left
        · intro w' hw'
          have hcells := HC8.out w' hw'
          go_simp
          (try with_reducible rfl)
        simp only [Act.put, List.getElem_toArray, List.getElem_cons_succ, List.getElem_cons_zero, List.setIfInBounds_toArray, List.set_cons_zero, List.set_cons_succ]
        refine wpAnyH_ready (rs := [6]) (by kernel_rfl) (by simp) ?_
        refine AllReadyH.cons (o := _) rfl (fun K hK => ?_) AllReadyH.nil
        refine step_append_run (by rfl) _ _ _ (by rfl) (.slice a2 1 cap2) _ (.slice a2 1 cap2) w3'.drew (by rfl) (by rfl) (run_append_nothing (P := Tryz.prog) w3'.drew _ _ _ _ ti Tryz.underlying53 hi _ 1 cap2 HCC.out _ (src00 Tryz.underlying53 _ _)) ?_
        obtain ⟨w4', hw4⟩ : ∃ u, u = w3'.drew := ⟨_, rfl⟩
        rw [← hw4]
        have HK4 := hid (show Kept slK 58 w.heap.size w4' (.slice a2 1 cap2) 1 (d.l.take 0 ++ [dx]) by rw [hw4]; exact HK3.out.ext (HUA.out _ HB3'.out).1.size ((Below.refl _ _).drew))
        have HAT3 := HAT2
        have hkeep : Below ((w.alloc (.cells #[.int .i64 sn, .int .i64 st, .slice a 0 sc] 55)).alloc (.cells #[.int .i64 x.k.k, .int .i64 x.k.i, .int .i64 x.k.s, .string x.k.t, .slice x.k.la x.k.ll x.k.lc, .slice x.k.fa x.k.fl x.k.fc, .int .i64 x.n, .int .i64 x.t, .slice x.ia x.il x.ic, .slice x.va x.vl x.vc] 58)).heap.size ((w.alloc (.cells #[.int .i64 sn, .int .i64 st, .slice a 0 sc] 55)).alloc (.cells #[.int .i64 x.k.k, .int .i64 x.k.i, .int .i64 x.k.s, .string x.k.t, .slice x.k.la x.k.ll x.k.lc, .slice x.k.fa x.k.fl x.k.fc, .int .i64 x.n, .int .i64 x.t, .slice x.ia x.il x.ic, .slice x.va x.vl x.vc] 58)) w4' ∧ w4'.heap[w6.heap.size]? = some (.cells #[.int .i64 sn, .int .i64 st, .slice a2 1 cap2] 55) := by rw [hw4]; exact ⟨HB3'.out.drew, HN3.out⟩
        clear hw4
        refine hK.out _ _ (hkeep) (fun hS => ?_)
        clear hK K
        (try simp only [Act.put, List.getElem_toArray, List.getElem_cons_succ, List.getElem_cons_zero, List.setIfInBounds_toArray, List.set_cons_zero, List.set_cons_succ])
        refine wpAnyH_done (by kernel_rfl) ?_ _
        (try dsimp only)
        have HE8 := hid hS
        clear hS
        have n0 := cellOf HE8.out.2 2
        have nf0 := freeOf HE8.out.2 2
        (try dsimp only at n0)
        go_upto_region 9 with (fail)
        clear n0 nf0
        obtain ⟨w5', hw5⟩ : ∃ u, u = w4'.setCell ⟨w6.heap.size, 2, none⟩ (.slice a2 1 cap2) := ⟨_, rfl⟩
        rw [← hw5]
        have HN5 := hid (show w5'.heap[w6.heap.size]? = some (.cells #[.int .i64 sn, .int .i64 st, .slice a2 1 cap2] 55) by
          rw [hw5]
          have h := heapSet (o := 2) (.slice a2 1 cap2) HE8.out.2
          simpa only [List.setIfInBounds_toArray, List.set_cons_zero, List.set_cons_succ] using h)
        have HB5' := hid (show Below ((w.alloc (.cells #[.int .i64 sn, .int .i64 st, .slice a 0 sc] 55)).alloc (.cells #[.int .i64 x.k.k, .int .i64 x.k.i, .int .i64 x.k.s, .string x.k.t, .slice x.k.la x.k.ll x.k.lc, .slice x.k.fa x.k.fl x.k.fc, .int .i64 x.n, .int .i64 x.t, .slice x.ia x.il x.ic, .slice x.va x.vl x.vc] 58)).heap.size ((w.alloc (.cells #[.int .i64 sn, .int .i64 st, .slice a 0 sc] 55)).alloc (.cells #[.int .i64 x.k.k, .int .i64 x.k.i, .int .i64 x.k.s, .string x.k.t, .slice x.k.la x.k.ll x.k.lc, .slice x.k.fa x.k.fl x.k.fc, .int .i64 x.n, .int .i64 x.t, .slice x.ia x.il x.ic, .slice x.va x.vl x.vc] 58)) w5' by rw [hw5]; exact HE8.out.1.setCell (p := ⟨w6.heap.size, 2, none⟩) (by have := hb6.size; dsimp only; exact this) _)
        have HST5 := hid (show IsSta (· < w5'.heap.size) w5' ⟨sn, st, a2, 1, cap2⟩ ⟨d.n, d.t, putL d.l dx⟩ by
          have hk5 : Kept slK 58 w.heap.size w5' (.slice a2 1 cap2) 1 (putL d.l dx) := by
            rw [hw5]
            have h := HK4.out.set (⟨w6.heap.size, 2, none⟩ : Addr) (.slice a2 1 cap2) (by have := hb6.size; have h2 := HA.out.size; dsimp only; omega) (fun e => by have := HAT3.out _ e; have := HSV.out; dsimp only at *; omega)
            have e : putL d.l dx = d.l.take 0 ++ [dx] := by rw [putL, putAt, putQ, ← HPI.out, ← HPB.out]; have h := HL.out; have h0 : d.l = [] := List.eq_nil_of_length_eq_zero h.symm; rw [h0]; rfl
            rw [e]
            exact h
          refine ⟨HD.out.n, HD.out.rn, HD.out.t, HD.out.rt, ?_⟩
          exact hk5.row (HUA.out _ HB5'.out).1.size (by dsimp only; omega))
        clear hw5
        have HU5 : Hid (∀ w', Below w5'.heap.size w5' w' → Below ((w.alloc (.cells #[.int .i64 sn, .int .i64 st, .slice a 0 sc] 55)).alloc (.cells #[.int .i64 x.k.k, .int .i64 x.k.i, .int .i64 x.k.s, .string x.k.t, .slice x.k.la x.k.ll x.k.lc, .slice x.k.fa x.k.fl x.k.fc, .int .i64 x.n, .int .i64 x.t, .slice x.ia x.il x.ic, .slice x.va x.vl x.vc] 58)).heap.size ((w.alloc (.cells #[.int .i64 sn, .int .i64 st, .slice a 0 sc] 55)).alloc (.cells #[.int .i64 x.k.k, .int .i64 x.k.i, .int .i64 x.k.s, .string x.k.t, .slice x.k.la x.k.ll x.k.lc, .slice x.k.fa x.k.fl x.k.fc, .int .i64 x.n, .int .i64 x.t, .slice x.ia x.il x.ic, .slice x.va x.vl x.vc] 58)) w') := hid fun w' h => HB5'.out.trans (h.mono HB5'.out.size)
        have HPU : Hid (∀ w', Below w5'.heap.size w5' w' → Calls Tryz.prog 51 #[.agg #[.int .i64 sn, .int .i64 st, .slice a 0 sc], .agg #[.int .i64 x.k.k, .int .i64 x.k.i, .int .i64 x.k.s, .string x.k.t, .slice x.k.la x.k.ll x.k.lc, .slice x.k.fa x.k.fl x.k.fc, .int .i64 x.n, .int .i64 x.t, .slice x.ia x.il x.ic, .slice x.va x.vl x.vc]] w' (PutPost w' d dx)) := hid fun w' h => by
          obtain ⟨h1, h2, h3⟩ := HUA.out w' (HU5.out w' h)
          exact putF_call ⟨sn, st, a, 0, sc⟩ d x dx w' HSRT.out h2 h3 HPB.out.symm (by have := HL.out; omega)
        have HSV5 : Hid (∀ w', Below w5'.heap.size w5' w' → IsSta (· < w'.heap.size) w' ⟨sn, st, a2, 1, cap2⟩ ⟨d.n, d.t, putL d.l dx⟩) := hid fun w' h => HST5.out.same fun b q => ⟨Nat.lt_of_lt_of_le q h.size, h.block b q⟩
        have HIW : Hid (∀ w', Below w5'.heap.size w5' w' → w'.heap[w6.heap.size]? = some (.cells #[.int .i64 sn, .int .i64 st, .slice a2 1 cap2] 55)) := hid fun w' h => heapExt h HN5.out
        obtain ⟨⟨k0, k1, k2⟩, ⟨x0, x1, x2, x3, x4, x5, x6, x7, x8, x9⟩⟩ := HBX.out _ HB5'.out
        go_upto_region 10 with (go_at_call 51; refine (HPU.out _ (Below.refl _ _)).mono ?_; rintro e w7 ⟨c8, rfl, hb7, hi8⟩; have HI8 := hid hi8; clear hi8)
        clear k0 k1 k2 x0 x1 x2 x3 x4 x5 x6 x7 x8 x9
        obtain ⟨w8, hw8⟩ : ∃ u, u = w7.alloc (.cells #[.int .i64 c8.n, .int .i64 c8.t, .slice c8.a c8.l c8.c] 55) := ⟨_, rfl⟩
        rw [← hw8]
        have HB7 := hid hb7
        have HB78 := hid (show Below w7.heap.size w7 w8 by rw [hw8]; exact (Below.refl _ _).alloc (Nat.le_refl _) _)
        have HB8 := hid (show Below w5'.heap.size w5' w8 from hb7.trans (HB78.out.mono hb7.size))
        have H8 := hid (show w8.heap[w7.heap.size]? = some (.cells #[.int .i64 c8.n, .int .i64 c8.t, .slice c8.a c8.l c8.c] 55) by rw [hw8]; exact heap_alloc_new w7 _)
        have HST8 : Hid (∀ w', Below w8.heap.size w8 w' → IsSta (· < w'.heap.size) w' c8 ⟨d.n, d.t, putL d.l dx⟩) := hid fun w' h => HI8.out.same fun b q => ⟨by have := HB78.out.size; have := h.size; omega, (h.block b (by have := HB78.out.size; omega)).trans (HB78.out.block b q)⟩
        have HC8 : Hid (∀ w', Below w8.heap.size w8 w' → (w'.cell? ⟨w7.heap.size, 0, none⟩ = some (.int .i64 c8.n) ∧ w'.cell? ⟨w7.heap.size, 1, none⟩ = some (.int .i64 c8.t) ∧ w'.cell? ⟨w7.heap.size, 2, none⟩ = some (.slice c8.a c8.l c8.c)) ∧ (w'.cell? ⟨w6.heap.size, 0, none⟩ = some (.int .i64 sn) ∧ w'.cell? ⟨w6.heap.size, 1, none⟩ = some (.int .i64 st) ∧ w'.cell? ⟨w6.heap.size, 2, none⟩ = some (.slice a2 1 cap2)) ∧ (w'.cell? ⟨w.heap.size + 1, 0, none⟩ = some (.int .i64 x.k.k) ∧ w'.cell? ⟨w.heap.size + 1, 1, none⟩ = some (.int .i64 x.k.i) ∧ w'.cell? ⟨w.heap.size + 1, 2, none⟩ = some (.int .i64 x.k.s) ∧ w'.cell? ⟨w.heap.size + 1, 3, none⟩ = some (.string x.k.t) ∧ w'.cell? ⟨w.heap.size + 1, 4, none⟩ = some (.slice x.k.la x.k.ll x.k.lc) ∧ w'.cell? ⟨w.heap.size + 1, 5, none⟩ = some (.slice x.k.fa x.k.fl x.k.fc) ∧ w'.cell? ⟨w.heap.size + 1, 6, none⟩ = some (.int .i64 x.n) ∧ w'.cell? ⟨w.heap.size + 1, 7, none⟩ = some (.int .i64 x.t) ∧ w'.cell? ⟨w.heap.size + 1, 8, none⟩ = some (.slice x.ia x.il x.ic) ∧ w'.cell? ⟨w.heap.size + 1, 9, none⟩ = some (.slice x.va x.vl x.vc))) := hid fun w' h => by
          have h1 := heapExt h H8.out
          have h5 := HB8.out.trans (h.mono HB8.out.size)
          have h2 := HIW.out w' h5
          exact ⟨⟨cellOf h1 0, cellOf h1 1, cellOf h1 2⟩, ⟨cellOf h2 0, cellOf h2 1, cellOf h2 2⟩, (HBX.out _ (HU5.out _ h5)).2⟩
        have HGE : Hid (∀ w', Below w8.heap.size w8 w' → Calls Tryz.prog 36 #[.agg #[.int .i64 c8.n, .int .i64 c8.t, .slice c8.a c8.l c8.c], .agg #[.int .i64 x.k.k, .int .i64 x.k.i, .int .i64 x.k.s, .string x.k.t, .slice x.k.la x.k.ll x.k.lc, .slice x.k.fa x.k.fl x.k.fc]] w' fun e w2 => ∃ y : SlC, e = .returned (.tuple #[.agg #[.int .i64 y.k.k, .int .i64 y.k.i, .int .i64 y.k.s, .string y.k.t, .slice y.k.la y.k.ll y.k.lc, .slice y.k.fa y.k.fl y.k.fc, .int .i64 y.n, .int .i64 y.t, .slice y.ia y.il y.ic, .slice y.va y.vl y.vc], .bool true]) ∧ Below w'.heap.size w' w2 ∧ IsSl (fun b => w'.heap.size ≤ b ∧ b < w2.heap.size) w2 y dx) := hid fun w' h => by
          have h5 := HU5.out _ (HB8.out.trans (h.mono HB8.out.size))
          have hc := get_call c8 ⟨d.n, d.t, putL d.l dx⟩ x.k dx.k w' (HST8.out w' h) (HUA.out w' h5).2.2.k
          have hs := putL_srt HSRT.out dx
          refine hc.mono fun e w2 hh => ?_
          obtain ⟨y, dy, q1, q2, q3, q4, q5⟩ := hh
          have e1 : findB (putL d.l dx) dx.k = true := by rw [findB_place hs, putL_found]
          dsimp only at q1 q4
          rw [e1] at q1
          have q6 := q4 e1
          rw [findI_place hs, putL_place, putL_at] at q6
          obtain rfl : dx = dy := Option.some.inj q6
          exact ⟨y, q1, q2, q3⟩
        clear hw8 hb7
        obtain ⟨⟨k0, k1, k2⟩, ⟨m0, m1, m2⟩, ⟨x0, x1, x2, x3, x4, x5, x6, x7, x8, x9⟩⟩ := HC8.out _ (Below.refl _ _)
        go_upto_region 11 with (go_at_call 36; refine (HGE.out _ (Below.refl _ _)).mono ?_; rintro e w9 ⟨y, rfl, hb9, hi9⟩; have HI9 := hid hi9; have HB9 := hid hb9; clear hi9 hb9)
        clear k0 k1 k2 x0 x1 x2 x3 x4 x5 x6 x7 x8 x9 m0 m1 m2
        obtain ⟨wa, hwa⟩ : ∃ u, u = w9.alloc (.cells #[.int .i64 y.k.k, .int .i64 y.k.i, .int .i64 y.k.s, .string y.k.t, .slice y.k.la y.k.ll y.k.lc, .slice y.k.fa y.k.fl y.k.fc, .int .i64 y.n, .int .i64 y.t, .slice y.ia y.il y.ic, .slice y.va y.vl y.vc] 58) := ⟨_, rfl⟩
        rw [← hwa]
        have HB9A := hid (show Below w9.heap.size w9 wa by rw [hwa]; exact (Below.refl _ _).alloc (Nat.le_refl _) _)
        have HBA8 := hid (show Below w8.heap.size w8 wa from HB9.out.trans (HB9A.out.mono HB9.out.size))
        have HAA := hid (show wa.heap[w9.heap.size]? = some (.cells #[.int .i64 y.k.k, .int .i64 y.k.i, .int .i64 y.k.s, .string y.k.t, .slice y.k.la y.k.ll y.k.lc, .slice y.k.fa y.k.fl y.k.fc, .int .i64 y.n, .int .i64 y.t, .slice y.ia y.il y.ic, .slice y.va y.vl y.vc] 58) by rw [hwa]; exact heap_alloc_new w9 _)
        have HCA : Hid (∀ w', Below wa.heap.size wa w' → ((w'.cell? ⟨w7.heap.size, 0, none⟩ = some (.int .i64 c8.n) ∧ w'.cell? ⟨w7.heap.size, 1, none⟩ = some (.int .i64 c8.t) ∧ w'.cell? ⟨w7.heap.size, 2, none⟩ = some (.slice c8.a c8.l c8.c)) ∧ (w'.cell? ⟨w6.heap.size, 0, none⟩ = some (.int .i64 sn) ∧ w'.cell? ⟨w6.heap.size, 1, none⟩ = some (.int .i64 st) ∧ w'.cell? ⟨w6.heap.size, 2, none⟩ = some (.slice a2 1 cap2)) ∧ (w'.cell? ⟨w.heap.size + 1, 0, none⟩ = some (.int .i64 x.k.k) ∧ w'.cell? ⟨w.heap.size + 1, 1, none⟩ = some (.int .i64 x.k.i) ∧ w'.cell? ⟨w.heap.size + 1, 2, none⟩ = some (.int .i64 x.k.s) ∧ w'.cell? ⟨w.heap.size + 1, 3, none⟩ = some (.string x.k.t) ∧ w'.cell? ⟨w.heap.size + 1, 4, none⟩ = some (.slice x.k.la x.k.ll x.k.lc) ∧ w'.cell? ⟨w.heap.size + 1, 5, none⟩ = some (.slice x.k.fa x.k.fl x.k.fc) ∧ w'.cell? ⟨w.heap.size + 1, 6, none⟩ = some (.int .i64 x.n) ∧ w'.cell? ⟨w.heap.size + 1, 7, none⟩ = some (.int .i64 x.t) ∧ w'.cell? ⟨w.heap.size + 1, 8, none⟩ = some (.slice x.ia x.il x.ic) ∧ w'.cell? ⟨w.heap.size + 1, 9, none⟩ = some (.slice x.va x.vl x.vc))) ∧ (w'.cell? ⟨w9.heap.size, 0, none⟩ = some (.int .i64 y.k.k) ∧ w'.cell? ⟨w9.heap.size, 1, none⟩ = some (.int .i64 y.k.i) ∧ w'.cell? ⟨w9.heap.size, 2, none⟩ = some (.int .i64 y.k.s) ∧ w'.cell? ⟨w9.heap.size, 3, none⟩ = some (.string y.k.t) ∧ w'.cell? ⟨w9.heap.size, 4, none⟩ = some (.slice y.k.la y.k.ll y.k.lc) ∧ w'.cell? ⟨w9.heap.size, 5, none⟩ = some (.slice y.k.fa y.k.fl y.k.fc) ∧ w'.cell? ⟨w9.heap.size, 6, none⟩ = some (.int .i64 y.n) ∧ w'.cell? ⟨w9.heap.size, 7, none⟩ = some (.int .i64 y.t) ∧ w'.cell? ⟨w9.heap.size, 8, none⟩ = some (.slice y.ia y.il y.ic) ∧ w'.cell? ⟨w9.heap.size, 9, none⟩ = some (.slice y.va y.vl y.vc))) := hid fun w' h => by
          have h1 := heapExt h HAA.out
          exact ⟨HC8.out w' (HBA8.out.trans (h.mono HBA8.out.size)), cellOf h1 0, cellOf h1 1, cellOf h1 2, cellOf h1 3, cellOf h1 4, cellOf h1 5, cellOf h1 6, cellOf h1 7, cellOf h1 8, cellOf h1 9⟩
        have HSA : Hid (∀ w', Below wa.heap.size wa w' → Calls Tryz.prog 41 #[.agg #[.int .i64 c8.n, .int .i64 c8.t, .slice c8.a c8.l c8.c], .agg #[.int .i64 sn, .int .i64 st, .slice a2 1 cap2]] w' fun e w2 => e = .returned (.bool true) ∧ Below w'.heap.size w' w2) := hid fun w' h => by
          have h8 := HBA8.out.trans (h.mono HBA8.out.size)
          have hc := sameSta_call c8 ⟨sn, st, a2, 1, cap2⟩ _ _ w' (HST8.out w' h8) (HSV5.out w' (HB8.out.trans (h8.mono HB8.out.size)))
          rw [staEqB_refl] at hc
          exact hc
        have HSO : Hid (∀ w', Below wa.heap.size wa w' → Calls Tryz.prog 34 #[.agg #[.int .i64 c8.n, .int .i64 c8.t, .slice c8.a c8.l c8.c]] w' fun e w2 => e = .returned (.bool true) ∧ Below w'.heap.size w' w2) := hid fun w' h => by
          have h8 := HBA8.out.trans (h.mono HBA8.out.size)
          have hc := sorted_call c8 _ w' (HST8.out w' h8)
          refine hc.mono fun e w2 hh => ?_
          obtain ⟨⟨b', rfl, _, q⟩, hb⟩ := hh
          obtain rfl : b' = true := q (putL_srt HSRT.out dx)
          exact ⟨rfl, hb⟩
        have HSS : Hid (∀ w', Below wa.heap.size wa w' → Calls Tryz.prog 38 #[.agg #[.int .i64 x.k.k, .int .i64 x.k.i, .int .i64 x.k.s, .string x.k.t, .slice x.k.la x.k.ll x.k.lc, .slice x.k.fa x.k.fl x.k.fc, .int .i64 x.n, .int .i64 x.t, .slice x.ia x.il x.ic, .slice x.va x.vl x.vc], .agg #[.int .i64 y.k.k, .int .i64 y.k.i, .int .i64 y.k.s, .string y.k.t, .slice y.k.la y.k.ll y.k.lc, .slice y.k.fa y.k.fl y.k.fc, .int .i64 y.n, .int .i64 y.t, .slice y.ia y.il y.ic, .slice y.va y.vl y.vc]] w' fun e w2 => e = .returned (.bool true) ∧ Below w'.heap.size w' w2) := hid fun w' h => by
          have h8 := HBA8.out.trans (h.mono HBA8.out.size)
          have h5 := HU5.out _ (HB8.out.trans (h8.mono HB8.out.size))
          have h9 := HB9A.out.trans (h.mono HB9A.out.size)
          have hc := sameSlot_call x y dx dx w' (HUA.out w' h5).2.2 (HI9.out.same fun b q => ⟨Nat.lt_of_lt_of_le q.2 h9.size, h9.block b q.2⟩)
          rw [slEqB_refl] at hc
          exact hc
        have HUF : Hid (∀ w', Below wa.heap.size wa w' → Below w.heap.size w w') := hid fun w' h => by
          have h8 := HBA8.out.trans (h.mono HBA8.out.size)
          exact (HUA.out _ (HU5.out _ (HB8.out.trans (h8.mono HB8.out.size)))).1
        clear hwa
        obtain ⟨⟨⟨k0, k1, k2⟩, ⟨m0, m1, m2⟩, ⟨x0, x1, x2, x3, x4, x5, x6, x7, x8, x9⟩⟩, ⟨y0, y1, y2, y3, y4, y5, y6, y7, y8, y9⟩⟩ := HCA.out _ (Below.refl _ _)
        go_wp2_with (first
          | (go_at_call 38; refine (HSS.out _ hbc).mono ?_; rintro e wd ⟨rfl, hbd⟩; have hbe := hbc.trans (hbd.mono hbc.size))
          | (go_at_call 34; refine (HSO.out _ hbb).mono ?_; rintro e wc ⟨rfl, hbc'⟩; have hbc := hbb.trans (hbc'.mono hbb.size); clear k0 k1 k2 x0 x1 x2 x3 x4 x5 x6 x7 x8 x9 m0 m1 m2 y0 y1 y2 y3 y4 y5 y6 y7 y8 y9; obtain ⟨⟨⟨k0, k1, k2⟩, ⟨m0, m1, m2⟩, ⟨x0, x1, x2, x3, x4, x5, x6, x7, x8, x9⟩⟩, ⟨y0, y1, y2, y3, y4, y5, y6, y7, y8, y9⟩⟩ := HCA.out _ hbc)
          | (go_at_call 41; refine (HSA.out _ (Below.refl _ _)).mono ?_; rintro e wb ⟨rfl, hbb⟩; clear k0 k1 k2 x0 x1 x2 x3 x4 x5 x6 x7 x8 x9 m0 m1 m2 y0 y1 y2 y3 y4 y5 y6 y7 y8 y9; obtain ⟨⟨⟨k0, k1, k2⟩, ⟨m0, m1, m2⟩, ⟨x0, x1, x2, x3, x4, x5, x6, x7, x8, x9⟩⟩, ⟨y0, y1, y2, y3, y4, y5, y6, y7, y8, y9⟩⟩ := HCA.out _ hbb))
        go_ret
        exact ⟨rfl, HUF.out _ hbe⟩
      refine AllReadyH.cons (o := _) rfl (fun K hK => ?_) AllReadyH.nil
      go_simp
      obtain ⟨wX, hwX⟩ : ∃ u, u = (wv.alloc (.cells #[.int .i64 x.k.k, .int .i64 x.k.i, .int .i64 x.k.s, .string x.k.t, .slice x.k.la x.k.ll x.k.lc, .slice x.k.fa x.k.fl x.k.fc, .int .i64 x.n, .int .i64 x.t, .slice x.ia x.il x.ic, .slice x.va x.vl x.vc] 58)).drew := ⟨_, rfl⟩
      rw [← hwX]
      have HXB := hid (show Below wv.heap.size wv wX by rw [hwX]; exact ((Below.refl _ _).alloc (Nat.le_refl _) _).drew)
      have HCX := hid (show wX.heap[wv.heap.size]? = some (.cells #[.int .i64 x.k.k, .int .i64 x.k.i, .int .i64 x.k.s, .string x.k.t, .slice x.k.la x.k.ll x.k.lc, .slice x.k.fa x.k.fl x.k.fc, .int .i64 x.n, .int .i64 x.t, .slice x.ia x.il x.ic, .slice x.va x.vl x.vc] 58) by rw [hwX]; exact heap_alloc_new wv _)
      clear hwX
      refine hK.out _ _ (HXB.out) (fun hS => ?_)
      clear hK K
      (try simp only [Act.put, List.getElem_toArray, List.getElem_cons_succ, List.getElem_cons_zero, List.setIfInBounds_toArray, List.set_cons_zero, List.set_cons_succ])
      refine wpAnyH_ready (rs := [6]) (by kernel_rfl) (by simp) ?_
      refine AllReadyH.cons (o := _) rfl (fun K hK => ?_) AllReadyH.nil
      refine step_append_run (by rfl) _ _ _ (by rfl) (.slice none 0 0) _ (.slice none 0 0) wX (by rfl) (by rfl) (run_append_nothing (P := Tryz.prog) wX _ _ _ _ ti Tryz.underlying53 hi _ 0 0 (Nat.le_refl 0) _ (src00 Tryz.underlying53 _ _)) ?_
      obtain ⟨w1, hw1⟩ : ∃ u, u = wX := ⟨_, rfl⟩
      rw [← hw1]
      have hbv1 : Below wv.heap.size wv w1 := by rw [hw1]; exact HXB.out
      have hb1 : Below wX.heap.size wX w1 := by rw [hw1]; exact Below.refl _ _
      have HB1 := hid hbv1
      have HK1 := hid (show Kept slK 58 w.heap.size w1 (.slice none 0 0) 0 (d.l.take 0) from Kept.nil _ _ _)
      have HAT1 := hid (show ∀ r, (Value.slice none 0 0).ownBlock = some r → wv.heap.size ≤ r from fun r hr => by cases hr)
      clear hw1
      have HCX1 := hid (heapExt hb1 HCX.out)
      have HBW := HB1
      have HKW := HK1
      clear hb1
      refine hK.out _ _ (hbv1) (fun hS => ?_)
      clear hK K
      (try simp only [Act.put, List.getElem_toArray, List.getElem_cons_succ, List.getElem_cons_zero, List.setIfInBounds_toArray, List.set_cons_zero, List.set_cons_succ])
      refine wpAnyH_ready (rs := [9]) (by kernel_rfl) (by simp) ?_
      refine AllReadyH.cons (o := _) rfl (fun K hK => ?_) AllReadyH.nil
      have hct := HCT.out w1 HBW.out
      have hcx : Cl slK w1 (some ⟨wv.heap.size, 0, none⟩) 1 [x] := ⟨rfl, .inr ⟨_, rfl, fun t u hu => (by simp only [List.flatMap_cons, List.flatMap_nil, List.append_nil] at hu; exact World.news_of_block HCX1.out t u hu)⟩⟩
      obtain ⟨a2, cap2, w2', hr2, hk2, hg2, hat2⟩ := run_append_kept (K := slK) (P := Tryz.prog) (w := w1) (ty := 53) Tryz.underlying53 hi hz0 (by rw [hz1]) (by rw [hz2]; omega) rfl one_sl HKW.out 1 hcx (l2 := [dx]) rfl (one_els hct.2.1) hct.1 (by omega)
      refine step_append_run (by rfl) _ _ _ (by rfl) _ _ _ _ (by rfl) (by rfl) hr2 ?_
      clear hr2 hcx
      have hbg2 : Below wv.heap.size w1 w2' := grown_below hg2 HAT1.out HBW.out.size
      have HB2 := hid (HBW.out.trans hbg2)
      have HK2 := hid hk2
      have HAT2 := hid (show ∀ r, (Value.slice a2 (0 + 1) cap2).ownBlock = some r → wv.heap.size ≤ r from fun r hr => (hat2 r hr).elim (fun e => HAT1.out r e) (fun e => by rw [e]; exact HBW.out.size))
      clear hbg2 hk2 hat2 hg2 hct
      refine hK.out _ _ (HB2.out) (fun hS => ?_)
      clear hK K
      (try simp only [Act.put, List.getElem_toArray, List.getElem_cons_succ, List.getElem_cons_zero, List.setIfInBounds_toArray, List.set_cons_zero, List.set_cons_succ])
      refine wpAnyH_done (by kernel_rfl) ?_ _
      (try dsimp only)
      clear hS
      have HN2 := hid (show w2'.heap[w6.heap.size]? = some (.cells #[.int .i64 sn, .int .i64 st, .slice none 0 0] 55) from heapExt HB2.out HNB.out)
      have n2 := cellOf HN2.out 2
      have nf2 := freeOf HN2.out 2
      (try dsimp only at n2)
      (try simp only [Nat.zero_add])
      go_upto_region 8 with (fail)
      clear n2 nf2
      obtain ⟨w3', hw3⟩ : ∃ u, u = w2'.setCell ⟨w6.heap.size, 2, none⟩ (.slice a2 1 cap2) := ⟨_, rfl⟩
      rw [← hw3]
      have HN3 := hid (show w3'.heap[w6.heap.size]? = some (.cells #[.int .i64 sn, .int .i64 st, .slice a2 1 cap2] 55) by
        rw [hw3]
        have h := heapSet (o := 2) (.slice a2 1 cap2) HN2.out
        simpa only [List.setIfInBounds_toArray, List.set_cons_zero, List.set_cons_succ] using h)
      have hs2 := HB2.out.size
      have HB3' := hid (show Below ((w.alloc (.cells #[.int .i64 sn, .int .i64 st, .slice a 0 sc] 55)).alloc (.cells #[.int .i64 x.k.k, .int .i64 x.k.i, .int .i64 x.k.s, .string x.k.t, .slice x.k.la x.k.ll x.k.lc, .slice x.k.fa x.k.fl x.k.fc, .int .i64 x.n, .int .i64 x.t, .slice x.ia x.il x.ic, .slice x.va x.vl x.vc] 58)).heap.size ((w.alloc (.cells #[.int .i64 sn, .int .i64 st, .slice a 0 sc] 55)).alloc (.cells #[.int .i64 x.k.k, .int .i64 x.k.i, .int .i64 x.k.s, .string x.k.t, .slice x.k.la x.k.ll x.k.lc, .slice x.k.fa x.k.fl x.k.fc, .int .i64 x.n, .int .i64 x.t, .slice x.ia x.il x.ic, .slice x.va x.vl x.vc] 58)) w3' by rw [hw3]; exact (HBA.out.trans (HB2.out.mono HBA.out.size)).setCell (p := ⟨w6.heap.size, 2, none⟩) (by have := hb6.size; dsimp only; exact this) _)
      have HS3 := hid (show wv.heap.size ≤ w3'.heap.size by rw [hw3]; simpa [World.setCell] using hs2)
      have HK3 := hid (show Kept slK 58 w.heap.size w3' (.slice a2 1 cap2) 1 (d.l.take 0 ++ [dx]) by
        rw [hw3]
        have h := HK2.out
        (try simp only [Nat.zero_add] at h)
        exact h.set (⟨w6.heap.size, 2, none⟩ : Addr) _ (by have := hb6.size; have h2 := HA.out.size; dsimp only; omega) (fun e => by have := HAT2.out _ e; have := HSV.out; dsimp only at *; omega))
      clear hw3 hs2

      have HC8 : Hid (∀ w', (Below ((w.alloc (.cells #[.int .i64 sn, .int .i64 st, .slice a 0 sc] 55)).alloc (.cells #[.int .i64 x.k.k, .int .i64 x.k.i, .int .i64 x.k.s, .string x.k.t, .slice x.k.la x.k.ll x.k.lc, .slice x.k.fa x.k.fl x.k.fc, .int .i64 x.n, .int .i64 x.t, .slice x.ia x.il x.ic, .slice x.va x.vl x.vc] 58)).heap.size ((w.alloc (.cells #[.int .i64 sn, .int .i64 st, .slice a 0 sc] 55)).alloc (.cells #[.int .i64 x.k.k, .int .i64 x.k.i, .int .i64 x.k.s, .string x.k.t, .slice x.k.la x.k.ll x.k.lc, .slice x.k.fa x.k.fl x.k.fc, .int .i64 x.n, .int .i64 x.t, .slice x.ia x.il x.ic, .slice x.va x.vl x.vc] 58)) w' ∧ w'.heap[w6.heap.size]? = some (.cells #[.int .i64 sn, .int .i64 st, .slice a2 1 cap2] 55)) → w'.cell? ⟨w6.heap.size, 2, none⟩ = some (.slice a2 1 cap2) ∧ w'.cell? ⟨w.heap.size, 2, none⟩ = some (.slice a 0 sc)) := hid fun w' h => ⟨cellOf h.2 2, (HBX.out w' h.1).1.2.2⟩
      have HCC := hid (show 1 ≤ cap2 from by obtain ⟨a', c', e, h⟩ := HK3.out.shape; injection e with e1 e2 e3; omega)
      refine wp_region_split 7 (fun w' => Below ((w.alloc (.cells #[.int .i64 sn, .int .i64 st, .slice a 0 sc] 55)).alloc (.cells #[.int .i64 x.k.k, .int .i64 x.k.i, .int .i64 x.k.s, .string x.k.t, .slice x.k.la x.k.ll x.k.lc, .slice x.k.fa x.k.fl x.k.fc, .int .i64 x.n, .int .i64 x.t, .slice x.ia x.il x.ic, .slice x.va x.vl x.vc] 58)).heap.size ((w.alloc (.cells #[.int .i64 sn, .int .i64 st, .slice a 0 sc] 55)).alloc (.cells #[.int .i64 x.k.k, .int .i64 x.k.i, .int .i64 x.k.s, .string x.k.t, .slice x.k.la x.k.ll x.k.lc, .slice x.k.fa x.k.fl x.k.fc, .int .i64 x.n, .int .i64 x.t, .slice x.ia x.il x.ic, .slice x.va x.vl x.vc] 58)) w' ∧ w'.heap[w6.heap.size]? = some (.cells #[.int .i64 sn, .int .i64 st, .slice a2 1 cap2] 55)) (by kernel_rfl) (by kernel_rfl) (by kernel_rfl) (by decide) (⟨HB3'.out.drew, HN3.out⟩) (fun hS => ?_)
      simp only [List.take_succ_cons, List.take_zero, List.drop_succ_cons, List.drop_zero]
      refine wpAnyH_take (i := 0) (oi := _) (v := ?_) rfl (by kernel_rfl) (by kernel_rfl) (by kernel_rfl) (fun _ _ _ h => h) (Or.inl ⟨by rfl, ?_⟩) hS ?_
      rotate_left
      · intro w' hw'
        have hcells := HC8.out w' hw'
        go_simp
        (try with_reducible rfl)
      simp only [Act.put, List.getElem_toArray, List.getElem_cons_succ, List.getElem_cons_zero, List.setIfInBounds_toArray, List.set_cons_zero, List.set_cons_succ]
      refine wpAnyH_take (i := 1) (oi := _) (v := ?_) rfl (by kernel_rfl) (by kernel_rfl) (by kernel_rfl) (fun _ _ _ h => h) (Or.inl ⟨by rfl, ?_⟩) hS ?_
      rotate_left
      · intro w' hw'
        have hcells := HC8.out w' hw'
        go_simp
        (try with_reducible rfl)
      simp only [Act.put, List.getElem_toArray, List.getElem_cons_succ, List.getElem_cons_zero, List.setIfInBounds_toArray, List.set_cons_zero, List.set_cons_succ]
      refine wpAnyH_take (i := 2) (oi := _) (v := ?_) rfl (by kernel_rfl) (by kernel_rfl) (by kernel_rfl) (fun _ _ _ h => h) (Or.inl ⟨by rfl, ?_⟩) hS ?_
      rotate_left
      · intro w' hw'
        have hcells := HC8.out w' hw'
        go_simp
        (try with_reducible rfl)
      simp only [Act.put, List.getElem_toArray, List.getElem_cons_succ, List.getElem_cons_zero, List.setIfInBounds_toArray, List.set_cons_zero, List.set_cons_succ]
      refine wpAnyH_take (i := 3) (oi := _) (v := ?_) rfl (by kernel_rfl) (by kernel_rfl) (by kernel_rfl) (fun _ _ _ h => h) (Or.inl ⟨by rfl, ?_⟩) hS ?_
      rotate_left
      · intro w' hw'
        have hcells := HC8.out w' hw'
        go_simp
        (try with_reducible rfl)
      simp only [Act.put, List.getElem_toArray, List.getElem_cons_succ, List.getElem_cons_zero, List.setIfInBounds_toArray, List.set_cons_zero, List.set_cons_succ]
      refine wpAnyH_take (i := 4) (oi := _) (v := ?_) rfl (by kernel_rfl) (by kernel_rfl) (by kernel_rfl) (fun _ _ _ h => h) (Or.inl ⟨by rfl, ?_⟩) hS ?_
      rotate_left
      · intro w' hw'
        have hcells := HC8.out w' hw'
        go_simp
        (try with_reducible rfl)
      simp only [Act.put, List.getElem_toArray, List.getElem_cons_succ, List.getElem_cons_zero, List.setIfInBounds_toArray, List.set_cons_zero, List.set_cons_succ]
      refine wpAnyH_take (i := 5) (oi := _) (v := ?_) rfl (by kernel_rfl) (by kernel_rfl) (by kernel_rfl) (fun _ _ _ h => h) (Or.inl ⟨by rfl, ?_⟩) hS ?_
      rotate_left
      · intro w' hw'
        have hcells := HC8.out w' hw'
        go_simp
        (try with_reducible rfl)
      simp only [Act.put, List.getElem_toArray, List.getElem_cons_succ, List.getElem_cons_zero, List.setIfInBounds_toArray, List.set_cons_zero, List.set_cons_succ]
      refine wpAnyH_ready (rs := [6]) (by kernel_rfl) (by simp) ?_
      refine AllReadyH.cons (o := _) rfl (fun K hK => ?_) AllReadyH.nil
      refine step_append_run (by rfl) _ _ _ (by rfl) (.slice a2 1 cap2) _ (.slice a2 1 cap2) w3'.drew (by rfl) (by rfl) (run_append_nothing (P := Tryz.prog) w3'.drew _ _ _ _ ti Tryz.underlying53 hi _ 1 cap2 HCC.out _ (src00 Tryz.underlying53 _ _)) ?_
      obtain ⟨w4', hw4⟩ : ∃ u, u = w3'.drew := ⟨_, rfl⟩
      rw [← hw4]
      have HK4 := hid (show Kept slK 58 w.heap.size w4' (.slice a2 1 cap2) 1 (d.l.take 0 ++ [dx]) by rw [hw4]; exact HK3.out.ext (HUA.out _ HB3'.out).1.size ((Below.refl _ _).drew))
      have HAT3 := HAT2
      have hkeep : Below ((w.alloc (.cells #[.int .i64 sn, .int .i64 st, .slice a 0 sc] 55)).alloc (.cells #[.int .i64 x.k.k, .int .i64 x.k.i, .int .i64 x.k.s, .string x.k.t, .slice x.k.la x.k.ll x.k.lc, .slice x.k.fa x.k.fl x.k.fc, .int .i64 x.n, .int .i64 x.t, .slice x.ia x.il x.ic, .slice x.va x.vl x.vc] 58)).heap.size ((w.alloc (.cells #[.int .i64 sn, .int .i64 st, .slice a 0 sc] 55)).alloc (.cells #[.int .i64 x.k.k, .int .i64 x.k.i, .int .i64 x.k.s, .string x.k.t, .slice x.k.la x.k.ll x.k.lc, .slice x.k.fa x.k.fl x.k.fc, .int .i64 x.n, .int .i64 x.t, .slice x.ia x.il x.ic, .slice x.va x.vl x.vc] 58)) w4' ∧ w4'.heap[w6.heap.size]? = some (.cells #[.int .i64 sn, .int .i64 st, .slice a2 1 cap2] 55) := by rw [hw4]; exact ⟨HB3'.out.drew, HN3.out⟩
      clear hw4
      refine hK.out _ _ (hkeep) (fun hS => ?_)
      clear hK K
      (try simp only [Act.put, List.getElem_toArray, List.getElem_cons_succ, List.getElem_cons_zero, List.setIfInBounds_toArray, List.set_cons_zero, List.set_cons_succ])
      refine wpAnyH_done (by kernel_rfl) ?_ _
      (try dsimp only)
      have HE8 := hid hS
      clear hS
      have n0 := cellOf HE8.out.2 2
      have nf0 := freeOf HE8.out.2 2
      (try dsimp only at n0)
      go_upto_region 9 with (fail)
      clear n0 nf0
      obtain ⟨w5', hw5⟩ : ∃ u, u = w4'.setCell ⟨w6.heap.size, 2, none⟩ (.slice a2 1 cap2) := ⟨_, rfl⟩
      rw [← hw5]
      have HN5 := hid (show w5'.heap[w6.heap.size]? = some (.cells #[.int .i64 sn, .int .i64 st, .slice a2 1 cap2] 55) by
        rw [hw5]
        have h := heapSet (o := 2) (.slice a2 1 cap2) HE8.out.2
        simpa only [List.setIfInBounds_toArray, List.set_cons_zero, List.set_cons_succ] using h)
      have HB5' := hid (show Below ((w.alloc (.cells #[.int .i64 sn, .int .i64 st, .slice a 0 sc] 55)).alloc (.cells #[.int .i64 x.k.k, .int .i64 x.k.i, .int .i64 x.k.s, .string x.k.t, .slice x.k.la x.k.ll x.k.lc, .slice x.k.fa x.k.fl x.k.fc, .int .i64 x.n, .int .i64 x.t, .slice x.ia x.il x.ic, .slice x.va x.vl x.vc] 58)).heap.size ((w.alloc (.cells #[.int .i64 sn, .int .i64 st, .slice a 0 sc] 55)).alloc (.cells #[.int .i64 x.k.k, .int .i64 x.k.i, .int .i64 x.k.s, .string x.k.t, .slice x.k.la x.k.ll x.k.lc, .slice x.k.fa x.k.fl x.k.fc, .int .i64 x.n, .int .i64 x.t, .slice x.ia x.il x.ic, .slice x.va x.vl x.vc] 58)) w5' by rw [hw5]; exact HE8.out.1.setCell (p := ⟨w6.heap.size, 2, none⟩) (by have := hb6.size; dsimp only; exact this) _)
      have HST5 := hid (show IsSta (· < w5'.heap.size) w5' ⟨sn, st, a2, 1, cap2⟩ ⟨d.n, d.t, putL d.l dx⟩ by
        have hk5 : Kept slK 58 w.heap.size w5' (.slice a2 1 cap2) 1 (putL d.l dx) := by
          rw [hw5]
          have h := HK4.out.set (⟨w6.heap.size, 2, none⟩ : Addr) (.slice a2 1 cap2) (by have := hb6.size; have h2 := HA.out.size; dsimp only; omega) (fun e => by have := HAT3.out _ e; have := HSV.out; dsimp only at *; omega)
          have e : putL d.l dx = d.l.take 0 ++ [dx] := by rw [putL, putAt, putQ, ← HPI.out, ← HPB.out]; have h := HL.out; have h0 : d.l = [] := List.eq_nil_of_length_eq_zero h.symm; rw [h0]; rfl
          rw [e]
          exact h
        refine ⟨HD.out.n, HD.out.rn, HD.out.t, HD.out.rt, ?_⟩
        exact hk5.row (HUA.out _ HB5'.out).1.size (by dsimp only; omega))
      clear hw5
      have HU5 : Hid (∀ w', Below w5'.heap.size w5' w' → Below ((w.alloc (.cells #[.int .i64 sn, .int .i64 st, .slice a 0 sc] 55)).alloc (.cells #[.int .i64 x.k.k, .int .i64 x.k.i, .int .i64 x.k.s, .string x.k.t, .slice x.k.la x.k.ll x.k.lc, .slice x.k.fa x.k.fl x.k.fc, .int .i64 x.n, .int .i64 x.t, .slice x.ia x.il x.ic, .slice x.va x.vl x.vc] 58)).heap.size ((w.alloc (.cells #[.int .i64 sn, .int .i64 st, .slice a 0 sc] 55)).alloc (.cells #[.int .i64 x.k.k, .int .i64 x.k.i, .int .i64 x.k.s, .string x.k.t, .slice x.k.la x.k.ll x.k.lc, .slice x.k.fa x.k.fl x.k.fc, .int .i64 x.n, .int .i64 x.t, .slice x.ia x.il x.ic, .slice x.va x.vl x.vc] 58)) w') := hid fun w' h => HB5'.out.trans (h.mono HB5'.out.size)
      have HPU : Hid (∀ w', Below w5'.heap.size w5' w' → Calls Tryz.prog 51 #[.agg #[.int .i64 sn, .int .i64 st, .slice a 0 sc], .agg #[.int .i64 x.k.k, .int .i64 x.k.i, .int .i64 x.k.s, .string x.k.t, .slice x.k.la x.k.ll x.k.lc, .slice x.k.fa x.k.fl x.k.fc, .int .i64 x.n, .int .i64 x.t, .slice x.ia x.il x.ic, .slice x.va x.vl x.vc]] w' (PutPost w' d dx)) := hid fun w' h => by
        obtain ⟨h1, h2, h3⟩ := HUA.out w' (HU5.out w' h)
        exact putF_call ⟨sn, st, a, 0, sc⟩ d x dx w' HSRT.out h2 h3 HPB.out.symm (by have := HL.out; omega)
      have HSV5 : Hid (∀ w', Below w5'.heap.size w5' w' → IsSta (· < w'.heap.size) w' ⟨sn, st, a2, 1, cap2⟩ ⟨d.n, d.t, putL d.l dx⟩) := hid fun w' h => HST5.out.same fun b q => ⟨Nat.lt_of_lt_of_le q h.size, h.block b q⟩
      have HIW : Hid (∀ w', Below w5'.heap.size w5' w' → w'.heap[w6.heap.size]? = some (.cells #[.int .i64 sn, .int .i64 st, .slice a2 1 cap2] 55)) := hid fun w' h => heapExt h HN5.out
      obtain ⟨⟨k0, k1, k2⟩, ⟨x0, x1, x2, x3, x4, x5, x6, x7, x8, x9⟩⟩ := HBX.out _ HB5'.out
      go_upto_region 10 with (go_at_call 51; refine (HPU.out _ (Below.refl _ _)).mono ?_; rintro e w7 ⟨c8, rfl, hb7, hi8⟩; have HI8 := hid hi8; clear hi8)
      clear k0 k1 k2 x0 x1 x2 x3 x4 x5 x6 x7 x8 x9
      obtain ⟨w8, hw8⟩ : ∃ u, u = w7.alloc (.cells #[.int .i64 c8.n, .int .i64 c8.t, .slice c8.a c8.l c8.c] 55) := ⟨_, rfl⟩
      rw [← hw8]
      have HB7 := hid hb7
      have HB78 := hid (show Below w7.heap.size w7 w8 by rw [hw8]; exact (Below.refl _ _).alloc (Nat.le_refl _) _)
      have HB8 := hid (show Below w5'.heap.size w5' w8 from hb7.trans (HB78.out.mono hb7.size))
      have H8 := hid (show w8.heap[w7.heap.size]? = some (.cells #[.int .i64 c8.n, .int .i64 c8.t, .slice c8.a c8.l c8.c] 55) by rw [hw8]; exact heap_alloc_new w7 _)
      have HST8 : Hid (∀ w', Below w8.heap.size w8 w' → IsSta (· < w'.heap.size) w' c8 ⟨d.n, d.t, putL d.l dx⟩) := hid fun w' h => HI8.out.same fun b q => ⟨by have := HB78.out.size; have := h.size; omega, (h.block b (by have := HB78.out.size; omega)).trans (HB78.out.block b q)⟩
      have HC8 : Hid (∀ w', Below w8.heap.size w8 w' → (w'.cell? ⟨w7.heap.size, 0, none⟩ = some (.int .i64 c8.n) ∧ w'.cell? ⟨w7.heap.size, 1, none⟩ = some (.int .i64 c8.t) ∧ w'.cell? ⟨w7.heap.size, 2, none⟩ = some (.slice c8.a c8.l c8.c)) ∧ (w'.cell? ⟨w6.heap.size, 0, none⟩ = some (.int .i64 sn) ∧ w'.cell? ⟨w6.heap.size, 1, none⟩ = some (.int .i64 st) ∧ w'.cell? ⟨w6.heap.size, 2, none⟩ = some (.slice a2 1 cap2)) ∧ (w'.cell? ⟨w.heap.size + 1, 0, none⟩ = some (.int .i64 x.k.k) ∧ w'.cell? ⟨w.heap.size + 1, 1, none⟩ = some (.int .i64 x.k.i) ∧ w'.cell? ⟨w.heap.size + 1, 2, none⟩ = some (.int .i64 x.k.s) ∧ w'.cell? ⟨w.heap.size + 1, 3, none⟩ = some (.string x.k.t) ∧ w'.cell? ⟨w.heap.size + 1, 4, none⟩ = some (.slice x.k.la x.k.ll x.k.lc) ∧ w'.cell? ⟨w.heap.size + 1, 5, none⟩ = some (.slice x.k.fa x.k.fl x.k.fc) ∧ w'.cell? ⟨w.heap.size + 1, 6, none⟩ = some (.int .i64 x.n) ∧ w'.cell? ⟨w.heap.size + 1, 7, none⟩ = some (.int .i64 x.t) ∧ w'.cell? ⟨w.heap.size + 1, 8, none⟩ = some (.slice x.ia x.il x.ic) ∧ w'.cell? ⟨w.heap.size + 1, 9, none⟩ = some (.slice x.va x.vl x.vc))) := hid fun w' h => by
        have h1 := heapExt h H8.out
        have h5 := HB8.out.trans (h.mono HB8.out.size)
        have h2 := HIW.out w' h5
        exact ⟨⟨cellOf h1 0, cellOf h1 1, cellOf h1 2⟩, ⟨cellOf h2 0, cellOf h2 1, cellOf h2 2⟩, (HBX.out _ (HU5.out _ h5)).2⟩
      have HGE : Hid (∀ w', Below w8.heap.size w8 w' → Calls Tryz.prog 36 #[.agg #[.int .i64 c8.n, .int .i64 c8.t, .slice c8.a c8.l c8.c], .agg #[.int .i64 x.k.k, .int .i64 x.k.i, .int .i64 x.k.s, .string x.k.t, .slice x.k.la x.k.ll x.k.lc, .slice x.k.fa x.k.fl x.k.fc]] w' fun e w2 => ∃ y : SlC, e = .returned (.tuple #[.agg #[.int .i64 y.k.k, .int .i64 y.k.i, .int .i64 y.k.s, .string y.k.t, .slice y.k.la y.k.ll y.k.lc, .slice y.k.fa y.k.fl y.k.fc, .int .i64 y.n, .int .i64 y.t, .slice y.ia y.il y.ic, .slice y.va y.vl y.vc], .bool true]) ∧ Below w'.heap.size w' w2 ∧ IsSl (fun b => w'.heap.size ≤ b ∧ b < w2.heap.size) w2 y dx) := hid fun w' h => by
        have h5 := HU5.out _ (HB8.out.trans (h.mono HB8.out.size))
        have hc := get_call c8 ⟨d.n, d.t, putL d.l dx⟩ x.k dx.k w' (HST8.out w' h) (HUA.out w' h5).2.2.k
        have hs := putL_srt HSRT.out dx
        refine hc.mono fun e w2 hh => ?_
        obtain ⟨y, dy, q1, q2, q3, q4, q5⟩ := hh
        have e1 : findB (putL d.l dx) dx.k = true := by rw [findB_place hs, putL_found]
        dsimp only at q1 q4
        rw [e1] at q1
        have q6 := q4 e1
        rw [findI_place hs, putL_place, putL_at] at q6
        obtain rfl : dx = dy := Option.some.inj q6
        exact ⟨y, q1, q2, q3⟩
      clear hw8 hb7
      obtain ⟨⟨k0, k1, k2⟩, ⟨m0, m1, m2⟩, ⟨x0, x1, x2, x3, x4, x5, x6, x7, x8, x9⟩⟩ := HC8.out _ (Below.refl _ _)
      go_upto_region 11 with (go_at_call 36; refine (HGE.out _ (Below.refl _ _)).mono ?_; rintro e w9 ⟨y, rfl, hb9, hi9⟩; have HI9 := hid hi9; have HB9 := hid hb9; clear hi9 hb9)
      clear k0 k1 k2 x0 x1 x2 x3 x4 x5 x6 x7 x8 x9 m0 m1 m2
      obtain ⟨wa, hwa⟩ : ∃ u, u = w9.alloc (.cells #[.int .i64 y.k.k, .int .i64 y.k.i, .int .i64 y.k.s, .string y.k.t, .slice y.k.la y.k.ll y.k.lc, .slice y.k.fa y.k.fl y.k.fc, .int .i64 y.n, .int .i64 y.t, .slice y.ia y.il y.ic, .slice y.va y.vl y.vc] 58) := ⟨_, rfl⟩
      rw [← hwa]
      have HB9A := hid (show Below w9.heap.size w9 wa by rw [hwa]; exact (Below.refl _ _).alloc (Nat.le_refl _) _)
      have HBA8 := hid (show Below w8.heap.size w8 wa from HB9.out.trans (HB9A.out.mono HB9.out.size))
      have HAA := hid (show wa.heap[w9.heap.size]? = some (.cells #[.int .i64 y.k.k, .int .i64 y.k.i, .int .i64 y.k.s, .string y.k.t, .slice y.k.la y.k.ll y.k.lc, .slice y.k.fa y.k.fl y.k.fc, .int .i64 y.n, .int .i64 y.t, .slice y.ia y.il y.ic, .slice y.va y.vl y.vc] 58) by rw [hwa]; exact heap_alloc_new w9 _)
      have HCA : Hid (∀ w', Below wa.heap.size wa w' → ((w'.cell? ⟨w7.heap.size, 0, none⟩ = some (.int .i64 c8.n) ∧ w'.cell? ⟨w7.heap.size, 1, none⟩ = some (.int .i64 c8.t) ∧ w'.cell? ⟨w7.heap.size, 2, none⟩ = some (.slice c8.a c8.l c8.c)) ∧ (w'.cell? ⟨w6.heap.size, 0, none⟩ = some (.int .i64 sn) ∧ w'.cell? ⟨w6.heap.size, 1, none⟩ = some (.int .i64 st) ∧ w'.cell? ⟨w6.heap.size, 2, none⟩ = some (.slice a2 1 cap2)) ∧ (w'.cell? ⟨w.heap.size + 1, 0, none⟩ = some (.int .i64 x.k.k) ∧ w'.cell? ⟨w.heap.size + 1, 1, none⟩ = some (.int .i64 x.k.i) ∧ w'.cell? ⟨w.heap.size + 1, 2, none⟩ = some (.int .i64 x.k.s) ∧ w'.cell? ⟨w.heap.size + 1, 3, none⟩ = some (.string x.k.t) ∧ w'.cell? ⟨w.heap.size + 1, 4, none⟩ = some (.slice x.k.la x.k.ll x.k.lc) ∧ w'.cell? ⟨w.heap.size + 1, 5, none⟩ = some (.slice x.k.fa x.k.fl x.k.fc) ∧ w'.cell? ⟨w.heap.size + 1, 6, none⟩ = some (.int .i64 x.n) ∧ w'.cell? ⟨w.heap.size + 1, 7, none⟩ = some (.int .i64 x.t) ∧ w'.cell? ⟨w.heap.size + 1, 8, none⟩ = some (.slice x.ia x.il x.ic) ∧ w'.cell? ⟨w.heap.size + 1, 9, none⟩ = some (.slice x.va x.vl x.vc))) ∧ (w'.cell? ⟨w9.heap.size, 0, none⟩ = some (.int .i64 y.k.k) ∧ w'.cell? ⟨w9.heap.size, 1, none⟩ = some (.int .i64 y.k.i) ∧ w'.cell? ⟨w9.heap.size, 2, none⟩ = some (.int .i64 y.k.s) ∧ w'.cell? ⟨w9.heap.size, 3, none⟩ = some (.string y.k.t) ∧ w'.cell? ⟨w9.heap.size, 4, none⟩ = some (.slice y.k.la y.k.ll y.k.lc) ∧ w'.cell? ⟨w9.heap.size, 5, none⟩ = some (.slice y.k.fa y.k.fl y.k.fc) ∧ w'.cell? ⟨w9.heap.size, 6, none⟩ = some (.int .i64 y.n) ∧ w'.cell? ⟨w9.heap.size, 7, none⟩ = some (.int .i64 y.t) ∧ w'.cell? ⟨w9.heap.size, 8, none⟩ = some (.slice y.ia y.il y.ic) ∧ w'.cell? ⟨w9.heap.size, 9, none⟩ = some (.slice y.va y.vl y.vc))) := hid fun w' h => by
        have h1 := heapExt h HAA.out
        exact ⟨HC8.out w' (HBA8.out.trans (h.mono HBA8.out.size)), cellOf h1 0, cellOf h1 1, cellOf h1 2, cellOf h1 3, cellOf h1 4, cellOf h1 5, cellOf h1 6, cellOf h1 7, cellOf h1 8, cellOf h1 9⟩
      have HSA : Hid (∀ w', Below wa.heap.size wa w' → Calls Tryz.prog 41 #[.agg #[.int .i64 c8.n, .int .i64 c8.t, .slice c8.a c8.l c8.c], .agg #[.int .i64 sn, .int .i64 st, .slice a2 1 cap2]] w' fun e w2 => e = .returned (.bool true) ∧ Below w'.heap.size w' w2) := hid fun w' h => by
        have h8 := HBA8.out.trans (h.mono HBA8.out.size)
        have hc := sameSta_call c8 ⟨sn, st, a2, 1, cap2⟩ _ _ w' (HST8.out w' h8) (HSV5.out w' (HB8.out.trans (h8.mono HB8.out.size)))
        rw [staEqB_refl] at hc
        exact hc
      have HSO : Hid (∀ w', Below wa.heap.size wa w' → Calls Tryz.prog 34 #[.agg #[.int .i64 c8.n, .int .i64 c8.t, .slice c8.a c8.l c8.c]] w' fun e w2 => e = .returned (.bool true) ∧ Below w'.heap.size w' w2) := hid fun w' h => by
        have h8 := HBA8.out.trans (h.mono HBA8.out.size)
        have hc := sorted_call c8 _ w' (HST8.out w' h8)
        refine hc.mono fun e w2 hh => ?_
        obtain ⟨⟨b', rfl, _, q⟩, hb⟩ := hh
        obtain rfl : b' = true := q (putL_srt HSRT.out dx)
        exact ⟨rfl, hb⟩
      have HSS : Hid (∀ w', Below wa.heap.size wa w' → Calls Tryz.prog 38 #[.agg #[.int .i64 x.k.k, .int .i64 x.k.i, .int .i64 x.k.s, .string x.k.t, .slice x.k.la x.k.ll x.k.lc, .slice x.k.fa x.k.fl x.k.fc, .int .i64 x.n, .int .i64 x.t, .slice x.ia x.il x.ic, .slice x.va x.vl x.vc], .agg #[.int .i64 y.k.k, .int .i64 y.k.i, .int .i64 y.k.s, .string y.k.t, .slice y.k.la y.k.ll y.k.lc, .slice y.k.fa y.k.fl y.k.fc, .int .i64 y.n, .int .i64 y.t, .slice y.ia y.il y.ic, .slice y.va y.vl y.vc]] w' fun e w2 => e = .returned (.bool true) ∧ Below w'.heap.size w' w2) := hid fun w' h => by
        have h8 := HBA8.out.trans (h.mono HBA8.out.size)
        have h5 := HU5.out _ (HB8.out.trans (h8.mono HB8.out.size))
        have h9 := HB9A.out.trans (h.mono HB9A.out.size)
        have hc := sameSlot_call x y dx dx w' (HUA.out w' h5).2.2 (HI9.out.same fun b q => ⟨Nat.lt_of_lt_of_le q.2 h9.size, h9.block b q.2⟩)
        rw [slEqB_refl] at hc
        exact hc
      have HUF : Hid (∀ w', Below wa.heap.size wa w' → Below w.heap.size w w') := hid fun w' h => by
        have h8 := HBA8.out.trans (h.mono HBA8.out.size)
        exact (HUA.out _ (HU5.out _ (HB8.out.trans (h8.mono HB8.out.size)))).1
      clear hwa
      obtain ⟨⟨⟨k0, k1, k2⟩, ⟨m0, m1, m2⟩, ⟨x0, x1, x2, x3, x4, x5, x6, x7, x8, x9⟩⟩, ⟨y0, y1, y2, y3, y4, y5, y6, y7, y8, y9⟩⟩ := HCA.out _ (Below.refl _ _)
      go_wp2_with (first
        | (go_at_call 38; refine (HSS.out _ hbc).mono ?_; rintro e wd ⟨rfl, hbd⟩; have hbe := hbc.trans (hbd.mono hbc.size))
        | (go_at_call 34; refine (HSO.out _ hbb).mono ?_; rintro e wc ⟨rfl, hbc'⟩; have hbc := hbb.trans (hbc'.mono hbb.size); clear k0 k1 k2 x0 x1 x2 x3 x4 x5 x6 x7 x8 x9 m0 m1 m2 y0 y1 y2 y3 y4 y5 y6 y7 y8 y9; obtain ⟨⟨⟨k0, k1, k2⟩, ⟨m0, m1, m2⟩, ⟨x0, x1, x2, x3, x4, x5, x6, x7, x8, x9⟩⟩, ⟨y0, y1, y2, y3, y4, y5, y6, y7, y8, y9⟩⟩ := HCA.out _ hbc)
        | (go_at_call 41; refine (HSA.out _ (Below.refl _ _)).mono ?_; rintro e wb ⟨rfl, hbb⟩; clear k0 k1 k2 x0 x1 x2 x3 x4 x5 x6 x7 x8 x9 m0 m1 m2 y0 y1 y2 y3 y4 y5 y6 y7 y8 y9; obtain ⟨⟨⟨k0, k1, k2⟩, ⟨m0, m1, m2⟩, ⟨x0, x1, x2, x3, x4, x5, x6, x7, x8, x9⟩⟩, ⟨y0, y1, y2, y3, y4, y5, y6, y7, y8, y9⟩⟩ := HCA.out _ hbb))
      go_ret
      exact ⟨rfl, HUF.out _ hbe⟩
    · obtain ⟨b, o, hab, hb, _⟩ := HD.out.l.slot (show 0 < sl by omega)
      subst hab
      have HC5 : Hid (∀ w', Below wv.heap.size wv w' → w'.cell? ⟨w6.heap.size, 2, none⟩ = some (.slice none 0 0) ∧ w'.cell? ⟨w.heap.size, 2, none⟩ = some (.slice (some ⟨b, o, none⟩) sl sc) ∧ (w'.cell? ⟨w.heap.size + 1, 0, none⟩ = some (.int .i64 x.k.k) ∧ w'.cell? ⟨w.heap.size + 1, 1, none⟩ = some (.int .i64 x.k.i) ∧ w'.cell? ⟨w.heap.size + 1, 2, none⟩ = some (.int .i64 x.k.s) ∧ w'.cell? ⟨w.heap.size + 1, 3, none⟩ = some (.string x.k.t) ∧ w'.cell? ⟨w.heap.size + 1, 4, none⟩ = some (.slice x.k.la x.k.ll x.k.lc) ∧ w'.cell? ⟨w.heap.size + 1, 5, none⟩ = some (.slice x.k.fa x.k.fl x.k.fc) ∧ w'.cell? ⟨w.heap.size + 1, 6, none⟩ = some (.int .i64 x.n) ∧ w'.cell? ⟨w.heap.size + 1, 7, none⟩ = some (.int .i64 x.t) ∧ w'.cell? ⟨w.heap.size + 1, 8, none⟩ = some (.slice x.ia x.il x.ic) ∧ w'.cell? ⟨w.heap.size + 1, 9, none⟩ = some (.slice x.va x.vl x.vc))) := hid fun w' h => by
        have h1 := heapExt h HNB.out
        have h2 := HBX.out _ (HBA.out.trans (h.mono HBA.out.size))
        exact ⟨cellOf h1 2, h2.1.2.2, h2.2⟩
      refine wp_region_split 10 (fun w' => Below wv.heap.size wv w') (by kernel_rfl) (by kernel_rfl) (by kernel_rfl) (by decide) ((Below.refl _ _).drew) (fun hS => ?_)
      simp only [List.take_succ_cons, List.take_zero, List.drop_succ_cons, List.drop_zero]
      refine wpAnyH_take (i := 0) (oi := _) (v := ?_) rfl (by kernel_rfl) (by kernel_rfl) (by kernel_rfl) (fun _ _ _ h => h) (Or.inl ⟨by rfl, ?_⟩) hS ?_
      rotate_left
      · intro w' hw'
        have hcells := HC5.out w' hw'
        go_simp
        (try with_reducible rfl)
      simp only [Act.put, List.getElem_toArray, List.getElem_cons_succ, List.getElem_cons_zero, List.setIfInBounds_toArray, List.set_cons_zero, List.set_cons_succ]
      refine wpAnyH_take (i := 1) (oi := _) (v := ?_) rfl (by kernel_rfl) (by kernel_rfl) (by kernel_rfl) (fun _ _ _ h => h) (Or.inl ⟨by rfl, ?_⟩) hS ?_
      rotate_left
      · intro w' hw'
        have hcells := HC5.out w' hw'
        go_simp
        (try with_reducible rfl)
      simp only [Act.put, List.getElem_toArray, List.getElem_cons_succ, List.getElem_cons_zero, List.setIfInBounds_toArray, List.set_cons_zero, List.set_cons_succ]
      refine wpAnyH_take (i := 2) (oi := _) (v := ?_) rfl (by kernel_rfl) (by kernel_rfl) (by kernel_rfl) (fun _ _ _ h => h) (Or.inl ⟨by rfl, ?_⟩) hS ?_
      rotate_left
      · intro w' hw'
        have hcells := HC5.out w' hw'
        go_simp
        (try with_reducible rfl)
      simp only [Act.put, List.getElem_toArray, List.getElem_cons_succ, List.getElem_cons_zero, List.setIfInBounds_toArray, List.set_cons_zero, List.set_cons_succ]
      refine wpAnyH_take (i := 3) (oi := _) (v := ?_) rfl (by kernel_rfl) (by kernel_rfl) (by kernel_rfl) (fun _ _ _ h => h) (Or.inl ⟨by rfl, ?_⟩) hS ?_
      rotate_left
      · intro w' hw'
        have hcells := HC5.out w' hw'
        go_simp
        (try with_reducible rfl)
      simp only [Act.put, List.getElem_toArray, List.getElem_cons_succ, List.getElem_cons_zero, List.setIfInBounds_toArray, List.set_cons_zero, List.set_cons_succ]
      refine wpAnyH_take (i := 4) (oi := _) (v := ?_) rfl (by kernel_rfl) (by kernel_rfl) (by kernel_rfl) (fun _ _ _ h => h) (Or.inl ⟨by rfl, ?_⟩) hS ?_
      rotate_left
      · intro w' hw'
        have hcells := HC5.out w' hw'
        go_simp
        (try with_reducible rfl)
      simp only [Act.put, List.getElem_toArray, List.getElem_cons_succ, List.getElem_cons_zero, List.setIfInBounds_toArray, List.set_cons_zero, List.set_cons_succ]
      refine wpAnyH_take (i := 5) (oi := _) (v := ?_) rfl (by kernel_rfl) (by kernel_rfl) (by kernel_rfl) (fun _ _ _ h => h) (Or.inl ⟨by rfl, ?_⟩) hS ?_
      rotate_left
      · intro w' hw'
        have hcells := HC5.out w' hw'
        go_simp
        (try with_reducible rfl)
      simp only [Act.put, List.getElem_toArray, List.getElem_cons_succ, List.getElem_cons_zero, List.setIfInBounds_toArray, List.set_cons_zero, List.set_cons_succ]
      refine wpAnyH_take (i := 7) (oi := _) (v := ?_) rfl (by kernel_rfl) (by kernel_rfl) (by kernel_rfl) (fun _ _ _ h => h) (Or.inl ⟨by rfl, ?_⟩) hS ?_
      rotate_left
      · intro w' hw'
        have hcells := HC5.out w' hw'
        go_simp
        (try with_reducible rfl)
      simp only [Act.put, List.getElem_toArray, List.getElem_cons_succ, List.getElem_cons_zero, List.setIfInBounds_toArray, List.set_cons_zero, List.set_cons_succ]
      refine wpAnyH_ready (rs := [6, 8]) (by kernel_rfl) (by simp) ?_
      refine AllReadyH.cons (o := _) rfl (fun K hK => ?_) ?_
      · have hk0 := Kept.nil (K := slK) 58 w.heap.size wv.drew
        have hct := HCT.out wv.drew HDR.out
        obtain ⟨a1, cap1, w1, hr1, hk1, hg1, hat1⟩ := run_append_kept (K := slK) (P := Tryz.prog) (w := wv.drew) (ty := 53) Tryz.underlying53 hi hz0 (by rw [hz1]) (by rw [hz2]; omega) rfl one_sl hk0 sc (cl_take hct.2.2.1 pi HPL.out) (l2 := d.l.take pi) (by rw [List.length_take]; have := HL.out; have := HPL.out; omega) (take_els hct.2.2.2 pi) hct.1 (by omega)
        rw [Nat.zero_add] at hr1 hk1 hat1
        rw [List.nil_append] at hk1
        refine step_append_run (by rfl) _ _ _ (by rfl) _ _ _ _ (by rfl) (by rfl) hr1 ?_
        clear hr1
        have HK1 := hid hk1
        have HAT1 := hid (show ∀ r, (Value.slice a1 pi cap1).ownBlock = some r → wv.heap.size ≤ r from fun r hr => (hat1 r hr).elim (fun e => by cases e) (fun e => by rw [e]; exact (HDR.out).size))
        have hb1 : Below wv.drew.heap.size wv.drew w1 := grown_below hg1 (fun r e => by cases e) (Nat.le_refl _)
        have hbv1 : Below wv.heap.size wv w1 := (HDR.out).trans (hb1.mono (HDR.out).size)
        have HB1 := hid hbv1
        clear hb1
        refine hK.out _ _ (hbv1) (fun hS => ?_)
        clear hK K
        (try simp only [Act.put, List.getElem_toArray, List.getElem_cons_succ, List.getElem_cons_zero, List.setIfInBounds_toArray, List.set_cons_zero, List.set_cons_succ])
        refine wpAnyH_ready (rs := [8]) (by kernel_rfl) (by simp) ?_
        refine AllReadyH.cons (o := _) rfl (fun K hK => ?_) AllReadyH.nil
        go_simp
        obtain ⟨wX, hwX⟩ : ∃ u, u = w1.alloc (.cells #[.int .i64 x.k.k, .int .i64 x.k.i, .int .i64 x.k.s, .string x.k.t, .slice x.k.la x.k.ll x.k.lc, .slice x.k.fa x.k.fl x.k.fc, .int .i64 x.n, .int .i64 x.t, .slice x.ia x.il x.ic, .slice x.va x.vl x.vc] 58) := ⟨_, rfl⟩
        rw [← hwX]
        have hbx1 : Below w1.heap.size w1 wX := by rw [hwX]; exact (Below.refl _ _).alloc (Nat.le_refl _) _
        have HXB := hid (HB1.out.trans (hbx1.mono HB1.out.size))
        have HCX1 := hid (show wX.heap[w1.heap.size]? = some (.cells #[.int .i64 x.k.k, .int .i64 x.k.i, .int .i64 x.k.s, .string x.k.t, .slice x.k.la x.k.ll x.k.lc, .slice x.k.fa x.k.fl x.k.fc, .int .i64 x.n, .int .i64 x.t, .slice x.ia x.il x.ic, .slice x.va x.vl x.vc] 58) by rw [hwX]; exact heap_alloc_new w1 _)
        have HKW := hid (HK1.out.ext (HUA.out _ (HBA.out.trans (HB1.out.mono HBA.out.size))).1.size hbx1)
        have HBW := HXB
        clear hwX hbx1
        refine hK.out _ _ (HXB.out) (fun hS => ?_)
        clear hK K
        (try simp only [Act.put, List.getElem_toArray, List.getElem_cons_succ, List.getElem_cons_zero, List.setIfInBounds_toArray, List.set_cons_zero, List.set_cons_succ])
        refine wpAnyH_ready (rs := [9]) (by kernel_rfl) (by simp) ?_
        refine AllReadyH.cons (o := _) rfl (fun K hK => ?_) AllReadyH.nil
        have hct := HCT.out wX HBW.out
        have hcx : Cl slK wX (some ⟨w1.heap.size, 0, none⟩) 1 [x] := ⟨rfl, .inr ⟨_, rfl, fun t u hu => (by simp only [List.flatMap_cons, List.flatMap_nil, List.append_nil] at hu; exact World.news_of_block HCX1.out t u hu)⟩⟩
        obtain ⟨a2, cap2, w2', hr2, hk2, hg2, hat2⟩ := run_append_kept (K := slK) (P := Tryz.prog) (w := wX) (ty := 53) Tryz.underlying53 hi hz0 (by rw [hz1]) (by rw [hz2]; omega) rfl one_sl HKW.out 1 hcx (l2 := [dx]) rfl (one_els hct.2.1) hct.1 (by omega)
        refine step_append_run (by rfl) _ _ _ (by rfl) _ _ _ _ (by rfl) (by rfl) hr2 ?_
        clear hr2 hcx
        have hbg2 : Below wv.heap.size wX w2' := grown_below hg2 HAT1.out HBW.out.size
        have HB2 := hid (HBW.out.trans hbg2)
        have HK2 := hid hk2
        have HAT2 := hid (show ∀ r, (Value.slice a2 (pi + 1) cap2).ownBlock = some r → wv.heap.size ≤ r from fun r hr => (hat2 r hr).elim (fun e => HAT1.out r e) (fun e => by rw [e]; exact HBW.out.size))
        clear hbg2 hk2 hat2 hg2 hct
        refine hK.out _ _ (HB2.out) (fun hS => ?_)
        clear hK K
        (try simp only [Act.put, List.getElem_toArray, List.getElem_cons_succ, List.getElem_cons_zero, List.setIfInBounds_toArray, List.set_cons_zero, List.set_cons_succ])
        refine wpAnyH_done (by kernel_rfl) ?_ _
        (try dsimp only)
        clear hS
        have HN2 := hid (show w2'.heap[w6.heap.size]? = some (.cells #[.int .i64 sn, .int .i64 st, .slice none 0 0] 55) from heapExt HB2.out HNB.out)
        have n2 := cellOf HN2.out 2
        have nf2 := freeOf HN2.out 2
        (try dsimp only at n2)
        
        go_upto_region 8 with (fail)
        clear n2 nf2
        obtain ⟨w3', hw3⟩ : ∃ u, u = w2'.setCell ⟨w6.heap.size, 2, none⟩ (.slice a2 (pi + 1) cap2) := ⟨_, rfl⟩
        rw [← hw3]
        have HN3 := hid (show w3'.heap[w6.heap.size]? = some (.cells #[.int .i64 sn, .int .i64 st, .slice a2 (pi + 1) cap2] 55) by
          rw [hw3]
          have h := heapSet (o := 2) (.slice a2 (pi + 1) cap2) HN2.out
          simpa only [List.setIfInBounds_toArray, List.set_cons_zero, List.set_cons_succ] using h)
        have hs2 := HB2.out.size
        have HB3' := hid (show Below ((w.alloc (.cells #[.int .i64 sn, .int .i64 st, .slice (some ⟨b, o, none⟩) sl sc] 55)).alloc (.cells #[.int .i64 x.k.k, .int .i64 x.k.i, .int .i64 x.k.s, .string x.k.t, .slice x.k.la x.k.ll x.k.lc, .slice x.k.fa x.k.fl x.k.fc, .int .i64 x.n, .int .i64 x.t, .slice x.ia x.il x.ic, .slice x.va x.vl x.vc] 58)).heap.size ((w.alloc (.cells #[.int .i64 sn, .int .i64 st, .slice (some ⟨b, o, none⟩) sl sc] 55)).alloc (.cells #[.int .i64 x.k.k, .int .i64 x.k.i, .int .i64 x.k.s, .string x.k.t, .slice x.k.la x.k.ll x.k.lc, .slice x.k.fa x.k.fl x.k.fc, .int .i64 x.n, .int .i64 x.t, .slice x.ia x.il x.ic, .slice x.va x.vl x.vc] 58)) w3' by rw [hw3]; exact (HBA.out.trans (HB2.out.mono HBA.out.size)).setCell (p := ⟨w6.heap.size, 2, none⟩) (by have := hb6.size; dsimp only; exact this) _)
        have HS3 := hid (show wv.heap.size ≤ w3'.heap.size by rw [hw3]; simpa [World.setCell] using hs2)
        have HK3 := hid (show Kept slK 58 w.heap.size w3' (.slice a2 (pi + 1) cap2) (pi + 1) (d.l.take pi ++ [dx]) by
          rw [hw3]
          have h := HK2.out
          
          exact h.set (⟨w6.heap.size, 2, none⟩ : Addr) _ (by have := hb6.size; have h2 := HA.out.size; dsimp only; omega) (fun e => by have := HAT2.out _ e; have := HSV.out; dsimp only at *; omega))
        clear hw3 hs2
        obtain ⟨A, hA, hAc⟩ : ∃ A : Addr, (if sc = pi then (some (⟨b, o, none⟩ : Addr)) else some ⟨b, o + pi * 10, none⟩) = some A ∧ Hid (∀ w', Below ((w.alloc (.cells #[.int .i64 sn, .int .i64 st, .slice (some ⟨b, o, none⟩) sl sc] 55)).alloc (.cells #[.int .i64 x.k.k, .int .i64 x.k.i, .int .i64 x.k.s, .string x.k.t, .slice x.k.la x.k.ll x.k.lc, .slice x.k.fa x.k.fl x.k.fc, .int .i64 x.n, .int .i64 x.t, .slice x.ia x.il x.ic, .slice x.va x.vl x.vc] 58)).heap.size ((w.alloc (.cells #[.int .i64 sn, .int .i64 st, .slice (some ⟨b, o, none⟩) sl sc] 55)).alloc (.cells #[.int .i64 x.k.k, .int .i64 x.k.i, .int .i64 x.k.s, .string x.k.t, .slice x.k.la x.k.ll x.k.lc, .slice x.k.fa x.k.fl x.k.fc, .int .i64 x.n, .int .i64 x.t, .slice x.ia x.il x.ic, .slice x.va x.vl x.vc] 58)) w' → Cl slK w' (some A) (sl - pi) (cs0.drop pi)) := by
          by_cases h : sc = pi
          · refine ⟨⟨b, o, none⟩, by rw [if_pos h], fun w' hw => ⟨by rw [List.length_drop, HCL.out], .inl (by have := HCAP.out; omega)⟩⟩
          · refine ⟨⟨b, o + pi * 10, none⟩, by rw [if_neg h], fun w' hw => cl_drop (HCS.out w' hw) pi (by have := HPL.out; omega)⟩
        have HC8 : Hid (∀ w', (Below ((w.alloc (.cells #[.int .i64 sn, .int .i64 st, .slice (some ⟨b, o, none⟩) sl sc] 55)).alloc (.cells #[.int .i64 x.k.k, .int .i64 x.k.i, .int .i64 x.k.s, .string x.k.t, .slice x.k.la x.k.ll x.k.lc, .slice x.k.fa x.k.fl x.k.fc, .int .i64 x.n, .int .i64 x.t, .slice x.ia x.il x.ic, .slice x.va x.vl x.vc] 58)).heap.size ((w.alloc (.cells #[.int .i64 sn, .int .i64 st, .slice (some ⟨b, o, none⟩) sl sc] 55)).alloc (.cells #[.int .i64 x.k.k, .int .i64 x.k.i, .int .i64 x.k.s, .string x.k.t, .slice x.k.la x.k.ll x.k.lc, .slice x.k.fa x.k.fl x.k.fc, .int .i64 x.n, .int .i64 x.t, .slice x.ia x.il x.ic, .slice x.va x.vl x.vc] 58)) w' ∧ w'.heap[w6.heap.size]? = some (.cells #[.int .i64 sn, .int .i64 st, .slice a2 (pi + 1) cap2] 55)) → w'.cell? ⟨w6.heap.size, 2, none⟩ = some (.slice a2 (pi + 1) cap2) ∧ w'.cell? ⟨w.heap.size, 2, none⟩ = some (.slice (some ⟨b, o, none⟩) sl sc)) := hid fun w' h => ⟨cellOf h.2 2, (HBX.out w' h.1).1.2.2⟩
        refine wp_region_split 7 (fun w' => Below ((w.alloc (.cells #[.int .i64 sn, .int .i64 st, .slice (some ⟨b, o, none⟩) sl sc] 55)).alloc (.cells #[.int .i64 x.k.k, .int .i64 x.k.i, .int .i64 x.k.s, .string x.k.t, .slice x.k.la x.k.ll x.k.lc, .slice x.k.fa x.k.fl x.k.fc, .int .i64 x.n, .int .i64 x.t, .slice x.ia x.il x.ic, .slice x.va x.vl x.vc] 58)).heap.size ((w.alloc (.cells #[.int .i64 sn, .int .i64 st, .slice (some ⟨b, o, none⟩) sl sc] 55)).alloc (.cells #[.int .i64 x.k.k, .int .i64 x.k.i, .int .i64 x.k.s, .string x.k.t, .slice x.k.la x.k.ll x.k.lc, .slice x.k.fa x.k.fl x.k.fc, .int .i64 x.n, .int .i64 x.t, .slice x.ia x.il x.ic, .slice x.va x.vl x.vc] 58)) w' ∧ w'.heap[w6.heap.size]? = some (.cells #[.int .i64 sn, .int .i64 st, .slice a2 (pi + 1) cap2] 55)) (by kernel_rfl) (by kernel_rfl) (by kernel_rfl) (by decide) (⟨HB3'.out.drew, HN3.out⟩) (fun hS => ?_)
        simp only [List.take_succ_cons, List.take_zero, List.drop_succ_cons, List.drop_zero]
        refine wpAnyH_take (i := 0) (oi := _) (v := ?_) rfl (by kernel_rfl) (by kernel_rfl) (by kernel_rfl) (fun _ _ _ h => h) (Or.inl ⟨by rfl, ?_⟩) hS ?_
        rotate_left
        · intro w' hw'
          have hcells := HC8.out w' hw'
          go_simp
          (try with_reducible rfl)
        simp only [Act.put, List.getElem_toArray, List.getElem_cons_succ, List.getElem_cons_zero, List.setIfInBounds_toArray, List.set_cons_zero, List.set_cons_succ]
        refine wpAnyH_take (i := 1) (oi := _) (v := ?_) rfl (by kernel_rfl) (by kernel_rfl) (by kernel_rfl) (fun _ _ _ h => h) (Or.inl ⟨by rfl, ?_⟩) hS ?_
        rotate_left
        · intro w' hw'
          have hcells := HC8.out w' hw'
          go_simp
          (try with_reducible rfl)
        simp only [Act.put, List.getElem_toArray, List.getElem_cons_succ, List.getElem_cons_zero, List.setIfInBounds_toArray, List.set_cons_zero, List.set_cons_succ]
        refine wpAnyH_take (i := 2) (oi := _) (v := ?_) rfl (by kernel_rfl) (by kernel_rfl) (by kernel_rfl) (fun _ _ _ h => h) (Or.inl ⟨by rfl, ?_⟩) hS ?_
        rotate_left
        · intro w' hw'
          have hcells := HC8.out w' hw'
          go_simp
          (try with_reducible rfl)
        simp only [Act.put, List.getElem_toArray, List.getElem_cons_succ, List.getElem_cons_zero, List.setIfInBounds_toArray, List.set_cons_zero, List.set_cons_succ]
        refine wpAnyH_take (i := 3) (oi := _) (v := ?_) rfl (by kernel_rfl) (by kernel_rfl) (by kernel_rfl) (fun _ _ _ h => h) (Or.inl ⟨by rfl, ?_⟩) hS ?_
        rotate_left
        · intro w' hw'
          have hcells := HC8.out w' hw'
          go_simp
          (try with_reducible rfl)
        simp only [Act.put, List.getElem_toArray, List.getElem_cons_succ, List.getElem_cons_zero, List.setIfInBounds_toArray, List.set_cons_zero, List.set_cons_succ]
        refine wpAnyH_take (i := 4) (oi := _) (v := ?_) rfl (by kernel_rfl) (by kernel_rfl) (by kernel_rfl) (fun _ _ _ h => h) (Or.inl ⟨by rfl, ?_⟩) hS ?_
        rotate_left
        · intro w' hw'
          have hcells := HC8.out w' hw'
          go_simp
          (try with_reducible rfl)
        simp only [Act.put, List.getElem_toArray, List.getElem_cons_succ, List.getElem_cons_zero, List.setIfInBounds_toArray, List.set_cons_zero, List.set_cons_succ]
        refine wpAnyH_take (i := 5) (oi := _) (v := ?_) rfl (by kernel_rfl) (by kernel_rfl) (by kernel_rfl) (fun _ _ _ h => h) (Or.inl ⟨by rfl, ?_⟩) hS ?_
        rotate_left
        · intro w' hw'
          have hcells := HC8.out w' hw'
          go_simp
          (try with_reducible rfl)
        simp only [Act.put, List.getElem_toArray, List.getElem_cons_succ, List.getElem_cons_zero, List.setIfInBounds_toArray, List.set_cons_zero, List.set_cons_succ]
        refine wpAnyH_ready (rs := [6]) (by kernel_rfl) (by simp) ?_
        refine AllReadyH.cons (o := _) rfl (fun K hK => ?_) AllReadyH.nil
        have hct := HCD.out w3'.drew (HB3'.out.drew)
        obtain ⟨a3, cap3, w4', hr3, hk3, hg3, hat3⟩ := run_append_kept (K := slK) (P := Tryz.prog) (w := w3'.drew) (ty := 53) Tryz.underlying53 hi hz0 (by rw [hz1]) (by rw [hz2]; omega) rfl one_sl (HK3.out.ext (HUA.out _ HB3'.out).1.size ((Below.refl _ _).drew)) (sc - pi) (hAc.out w3'.drew (HB3'.out.drew)) (l2 := d.l.drop pi) (by rw [List.length_drop]; have := HL.out; omega) (drop_els hct pi) (HUA.out _ HB3'.out).1.size (by omega)
        refine step_append_run (by rfl) _ _ _ (by rfl) _ _ _ _ (by rfl) (by rfl) hr3 ?_
        clear hr3 hct
        have hbg3 : Below wv.heap.size w3'.drew w4' := grown_below hg3 HAT2.out HS3.out
        have HK4 := hid hk3
        have HAT3 := hid (show ∀ r, (Value.slice a3 ((pi + 1) + (sl - pi)) cap3).ownBlock = some r → wv.heap.size ≤ r from fun r hr => (hat3 r hr).elim (fun e => HAT2.out r e) (fun e => by rw [e]; exact HS3.out))
        have hkeep : Below ((w.alloc (.cells #[.int .i64 sn, .int .i64 st, .slice (some ⟨b, o, none⟩) sl sc] 55)).alloc (.cells #[.int .i64 x.k.k, .int .i64 x.k.i, .int .i64 x.k.s, .string x.k.t, .slice x.k.la x.k.ll x.k.lc, .slice x.k.fa x.k.fl x.k.fc, .int .i64 x.n, .int .i64 x.t, .slice x.ia x.il x.ic, .slice x.va x.vl x.vc] 58)).heap.size ((w.alloc (.cells #[.int .i64 sn, .int .i64 st, .slice (some ⟨b, o, none⟩) sl sc] 55)).alloc (.cells #[.int .i64 x.k.k, .int .i64 x.k.i, .int .i64 x.k.s, .string x.k.t, .slice x.k.la x.k.ll x.k.lc, .slice x.k.fa x.k.fl x.k.fc, .int .i64 x.n, .int .i64 x.t, .slice x.ia x.il x.ic, .slice x.va x.vl x.vc] 58)) w4' ∧ w4'.heap[w6.heap.size]? = some (.cells #[.int .i64 sn, .int .i64 st, .slice a2 (pi + 1) cap2] 55) := ⟨HB3'.out.drew.trans (hbg3.mono HBA.out.size), (hbg3.block _ (by rw [HSV.out]; exact Nat.lt_succ_self _)).trans HN3.out⟩
        clear hk3 hg3 hat3
        refine hK.out _ _ (hkeep) (fun hS => ?_)
        clear hK K
        (try simp only [Act.put, List.getElem_toArray, List.getElem_cons_succ, List.getElem_cons_zero, List.setIfInBounds_toArray, List.set_cons_zero, List.set_cons_succ])
        refine wpAnyH_done (by kernel_rfl) ?_ _
        (try dsimp only)
        have HE8 := hid hS
        clear hS
        have n0 := cellOf HE8.out.2 2
        have nf0 := freeOf HE8.out.2 2
        (try dsimp only at n0)
        go_upto_region 9 with (fail)
        clear n0 nf0
        obtain ⟨w5', hw5⟩ : ∃ u, u = w4'.setCell ⟨w6.heap.size, 2, none⟩ (.slice a3 ((pi + 1) + (sl - pi)) cap3) := ⟨_, rfl⟩
        rw [← hw5]
        have HN5 := hid (show w5'.heap[w6.heap.size]? = some (.cells #[.int .i64 sn, .int .i64 st, .slice a3 ((pi + 1) + (sl - pi)) cap3] 55) by
          rw [hw5]
          have h := heapSet (o := 2) (.slice a3 ((pi + 1) + (sl - pi)) cap3) HE8.out.2
          simpa only [List.setIfInBounds_toArray, List.set_cons_zero, List.set_cons_succ] using h)
        have HB5' := hid (show Below ((w.alloc (.cells #[.int .i64 sn, .int .i64 st, .slice (some ⟨b, o, none⟩) sl sc] 55)).alloc (.cells #[.int .i64 x.k.k, .int .i64 x.k.i, .int .i64 x.k.s, .string x.k.t, .slice x.k.la x.k.ll x.k.lc, .slice x.k.fa x.k.fl x.k.fc, .int .i64 x.n, .int .i64 x.t, .slice x.ia x.il x.ic, .slice x.va x.vl x.vc] 58)).heap.size ((w.alloc (.cells #[.int .i64 sn, .int .i64 st, .slice (some ⟨b, o, none⟩) sl sc] 55)).alloc (.cells #[.int .i64 x.k.k, .int .i64 x.k.i, .int .i64 x.k.s, .string x.k.t, .slice x.k.la x.k.ll x.k.lc, .slice x.k.fa x.k.fl x.k.fc, .int .i64 x.n, .int .i64 x.t, .slice x.ia x.il x.ic, .slice x.va x.vl x.vc] 58)) w5' by rw [hw5]; exact HE8.out.1.setCell (p := ⟨w6.heap.size, 2, none⟩) (by have := hb6.size; dsimp only; exact this) _)
        have HST5 := hid (show IsSta (· < w5'.heap.size) w5' ⟨sn, st, a3, ((pi + 1) + (sl - pi)), cap3⟩ ⟨d.n, d.t, putL d.l dx⟩ by
          have hk5 : Kept slK 58 w.heap.size w5' (.slice a3 ((pi + 1) + (sl - pi)) cap3) ((pi + 1) + (sl - pi)) (putL d.l dx) := by
            rw [hw5]
            have h := HK4.out.set (⟨w6.heap.size, 2, none⟩ : Addr) (.slice a3 ((pi + 1) + (sl - pi)) cap3) (by have := hb6.size; have h2 := HA.out.size; dsimp only; omega) (fun e => by have := HAT3.out _ e; have := HSV.out; dsimp only at *; omega)
            have e : putL d.l dx = (d.l.take pi ++ [dx]) ++ d.l.drop pi := by rw [putL, putAt, putQ, ← HPI.out, ← HPB.out]; simp
            rw [e]
            exact h
          refine ⟨HD.out.n, HD.out.rn, HD.out.t, HD.out.rt, ?_⟩
          exact hk5.row (HUA.out _ HB5'.out).1.size (by dsimp only; omega))
        clear hw5
        have HU5 : Hid (∀ w', Below w5'.heap.size w5' w' → Below ((w.alloc (.cells #[.int .i64 sn, .int .i64 st, .slice (some ⟨b, o, none⟩) sl sc] 55)).alloc (.cells #[.int .i64 x.k.k, .int .i64 x.k.i, .int .i64 x.k.s, .string x.k.t, .slice x.k.la x.k.ll x.k.lc, .slice x.k.fa x.k.fl x.k.fc, .int .i64 x.n, .int .i64 x.t, .slice x.ia x.il x.ic, .slice x.va x.vl x.vc] 58)).heap.size ((w.alloc (.cells #[.int .i64 sn, .int .i64 st, .slice (some ⟨b, o, none⟩) sl sc] 55)).alloc (.cells #[.int .i64 x.k.k, .int .i64 x.k.i, .int .i64 x.k.s, .string x.k.t, .slice x.k.la x.k.ll x.k.lc, .slice x.k.fa x.k.fl x.k.fc, .int .i64 x.n, .int .i64 x.t, .slice x.ia x.il x.ic, .slice x.va x.vl x.vc] 58)) w') := hid fun w' h => HB5'.out.trans (h.mono HB5'.out.size)
        have HPU : Hid (∀ w', Below w5'.heap.size w5' w' → Calls Tryz.prog 51 #[.agg #[.int .i64 sn, .int .i64 st, .slice (some ⟨b, o, none⟩) sl sc], .agg #[.int .i64 x.k.k, .int .i64 x.k.i, .int .i64 x.k.s, .string x.k.t, .slice x.k.la x.k.ll x.k.lc, .slice x.k.fa x.k.fl x.k.fc, .int .i64 x.n, .int .i64 x.t, .slice x.ia x.il x.ic, .slice x.va x.vl x.vc]] w' (PutPost w' d dx)) := hid fun w' h => by
          obtain ⟨h1, h2, h3⟩ := HUA.out w' (HU5.out w' h)
          exact putF_call ⟨sn, st, some ⟨b, o, none⟩, sl, sc⟩ d x dx w' HSRT.out h2 h3 HPB.out.symm (by have := HL.out; omega)
        have HSV5 : Hid (∀ w', Below w5'.heap.size w5' w' → IsSta (· < w'.heap.size) w' ⟨sn, st, a3, ((pi + 1) + (sl - pi)), cap3⟩ ⟨d.n, d.t, putL d.l dx⟩) := hid fun w' h => HST5.out.same fun b q => ⟨Nat.lt_of_lt_of_le q h.size, h.block b q⟩
        have HIW : Hid (∀ w', Below w5'.heap.size w5' w' → w'.heap[w6.heap.size]? = some (.cells #[.int .i64 sn, .int .i64 st, .slice a3 ((pi + 1) + (sl - pi)) cap3] 55)) := hid fun w' h => heapExt h HN5.out
        obtain ⟨⟨k0, k1, k2⟩, ⟨x0, x1, x2, x3, x4, x5, x6, x7, x8, x9⟩⟩ := HBX.out _ HB5'.out
        go_upto_region 10 with (go_at_call 51; refine (HPU.out _ (Below.refl _ _)).mono ?_; rintro e w7 ⟨c8, rfl, hb7, hi8⟩; have HI8 := hid hi8; clear hi8)
        clear k0 k1 k2 x0 x1 x2 x3 x4 x5 x6 x7 x8 x9
        obtain ⟨w8, hw8⟩ : ∃ u, u = w7.alloc (.cells #[.int .i64 c8.n, .int .i64 c8.t, .slice c8.a c8.l c8.c] 55) := ⟨_, rfl⟩
        rw [← hw8]
        have HB7 := hid hb7
        have HB78 := hid (show Below w7.heap.size w7 w8 by rw [hw8]; exact (Below.refl _ _).alloc (Nat.le_refl _) _)
        have HB8 := hid (show Below w5'.heap.size w5' w8 from hb7.trans (HB78.out.mono hb7.size))
        have H8 := hid (show w8.heap[w7.heap.size]? = some (.cells #[.int .i64 c8.n, .int .i64 c8.t, .slice c8.a c8.l c8.c] 55) by rw [hw8]; exact heap_alloc_new w7 _)
        have HST8 : Hid (∀ w', Below w8.heap.size w8 w' → IsSta (· < w'.heap.size) w' c8 ⟨d.n, d.t, putL d.l dx⟩) := hid fun w' h => HI8.out.same fun b q => ⟨by have := HB78.out.size; have := h.size; omega, (h.block b (by have := HB78.out.size; omega)).trans (HB78.out.block b q)⟩
        have HC8 : Hid (∀ w', Below w8.heap.size w8 w' → (w'.cell? ⟨w7.heap.size, 0, none⟩ = some (.int .i64 c8.n) ∧ w'.cell? ⟨w7.heap.size, 1, none⟩ = some (.int .i64 c8.t) ∧ w'.cell? ⟨w7.heap.size, 2, none⟩ = some (.slice c8.a c8.l c8.c)) ∧ (w'.cell? ⟨w6.heap.size, 0, none⟩ = some (.int .i64 sn) ∧ w'.cell? ⟨w6.heap.size, 1, none⟩ = some (.int .i64 st) ∧ w'.cell? ⟨w6.heap.size, 2, none⟩ = some (.slice a3 ((pi + 1) + (sl - pi)) cap3)) ∧ (w'.cell? ⟨w.heap.size + 1, 0, none⟩ = some (.int .i64 x.k.k) ∧ w'.cell? ⟨w.heap.size + 1, 1, none⟩ = some (.int .i64 x.k.i) ∧ w'.cell? ⟨w.heap.size + 1, 2, none⟩ = some (.int .i64 x.k.s) ∧ w'.cell? ⟨w.heap.size + 1, 3, none⟩ = some (.string x.k.t) ∧ w'.cell? ⟨w.heap.size + 1, 4, none⟩ = some (.slice x.k.la x.k.ll x.k.lc) ∧ w'.cell? ⟨w.heap.size + 1, 5, none⟩ = some (.slice x.k.fa x.k.fl x.k.fc) ∧ w'.cell? ⟨w.heap.size + 1, 6, none⟩ = some (.int .i64 x.n) ∧ w'.cell? ⟨w.heap.size + 1, 7, none⟩ = some (.int .i64 x.t) ∧ w'.cell? ⟨w.heap.size + 1, 8, none⟩ = some (.slice x.ia x.il x.ic) ∧ w'.cell? ⟨w.heap.size + 1, 9, none⟩ = some (.slice x.va x.vl x.vc))) := hid fun w' h => by
          have h1 := heapExt h H8.out
          have h5 := HB8.out.trans (h.mono HB8.out.size)
          have h2 := HIW.out w' h5
          exact ⟨⟨cellOf h1 0, cellOf h1 1, cellOf h1 2⟩, ⟨cellOf h2 0, cellOf h2 1, cellOf h2 2⟩, (HBX.out _ (HU5.out _ h5)).2⟩
        have HGE : Hid (∀ w', Below w8.heap.size w8 w' → Calls Tryz.prog 36 #[.agg #[.int .i64 c8.n, .int .i64 c8.t, .slice c8.a c8.l c8.c], .agg #[.int .i64 x.k.k, .int .i64 x.k.i, .int .i64 x.k.s, .string x.k.t, .slice x.k.la x.k.ll x.k.lc, .slice x.k.fa x.k.fl x.k.fc]] w' fun e w2 => ∃ y : SlC, e = .returned (.tuple #[.agg #[.int .i64 y.k.k, .int .i64 y.k.i, .int .i64 y.k.s, .string y.k.t, .slice y.k.la y.k.ll y.k.lc, .slice y.k.fa y.k.fl y.k.fc, .int .i64 y.n, .int .i64 y.t, .slice y.ia y.il y.ic, .slice y.va y.vl y.vc], .bool true]) ∧ Below w'.heap.size w' w2 ∧ IsSl (fun b => w'.heap.size ≤ b ∧ b < w2.heap.size) w2 y dx) := hid fun w' h => by
          have h5 := HU5.out _ (HB8.out.trans (h.mono HB8.out.size))
          have hc := get_call c8 ⟨d.n, d.t, putL d.l dx⟩ x.k dx.k w' (HST8.out w' h) (HUA.out w' h5).2.2.k
          have hs := putL_srt HSRT.out dx
          refine hc.mono fun e w2 hh => ?_
          obtain ⟨y, dy, q1, q2, q3, q4, q5⟩ := hh
          have e1 : findB (putL d.l dx) dx.k = true := by rw [findB_place hs, putL_found]
          dsimp only at q1 q4
          rw [e1] at q1
          have q6 := q4 e1
          rw [findI_place hs, putL_place, putL_at] at q6
          obtain rfl : dx = dy := Option.some.inj q6
          exact ⟨y, q1, q2, q3⟩
        clear hw8 hb7
        obtain ⟨⟨k0, k1, k2⟩, ⟨m0, m1, m2⟩, ⟨x0, x1, x2, x3, x4, x5, x6, x7, x8, x9⟩⟩ := HC8.out _ (Below.refl _ _)
        go_upto_region 11 with (go_at_call 36; refine (HGE.out _ (Below.refl _ _)).mono ?_; rintro e w9 ⟨y, rfl, hb9, hi9⟩; have HI9 := hid hi9; have HB9 := hid hb9; clear hi9 hb9)
        clear k0 k1 k2 x0 x1 x2 x3 x4 x5 x6 x7 x8 x9 m0 m1 m2
        obtain ⟨wa, hwa⟩ : ∃ u, u = w9.alloc (.cells #[.int .i64 y.k.k, .int .i64 y.k.i, .int .i64 y.k.s, .string y.k.t, .slice y.k.la y.k.ll y.k.lc, .slice y.k.fa y.k.fl y.k.fc, .int .i64 y.n, .int .i64 y.t, .slice y.ia y.il y.ic, .slice y.va y.vl y.vc] 58) := ⟨_, rfl⟩
        rw [← hwa]
        have HB9A := hid (show Below w9.heap.size w9 wa by rw [hwa]; exact (Below.refl _ _).alloc (Nat.le_refl _) _)
        have HBA8 := hid (show Below w8.heap.size w8 wa from HB9.out.trans (HB9A.out.mono HB9.out.size))
        have HAA := hid (show wa.heap[w9.heap.size]? = some (.cells #[.int .i64 y.k.k, .int .i64 y.k.i, .int .i64 y.k.s, .string y.k.t, .slice y.k.la y.k.ll y.k.lc, .slice y.k.fa y.k.fl y.k.fc, .int .i64 y.n, .int .i64 y.t, .slice y.ia y.il y.ic, .slice y.va y.vl y.vc] 58) by rw [hwa]; exact heap_alloc_new w9 _)
        have HCA : Hid (∀ w', Below wa.heap.size wa w' → ((w'.cell? ⟨w7.heap.size, 0, none⟩ = some (.int .i64 c8.n) ∧ w'.cell? ⟨w7.heap.size, 1, none⟩ = some (.int .i64 c8.t) ∧ w'.cell? ⟨w7.heap.size, 2, none⟩ = some (.slice c8.a c8.l c8.c)) ∧ (w'.cell? ⟨w6.heap.size, 0, none⟩ = some (.int .i64 sn) ∧ w'.cell? ⟨w6.heap.size, 1, none⟩ = some (.int .i64 st) ∧ w'.cell? ⟨w6.heap.size, 2, none⟩ = some (.slice a3 ((pi + 1) + (sl - pi)) cap3)) ∧ (w'.cell? ⟨w.heap.size + 1, 0, none⟩ = some (.int .i64 x.k.k) ∧ w'.cell? ⟨w.heap.size + 1, 1, none⟩ = some (.int .i64 x.k.i) ∧ w'.cell? ⟨w.heap.size + 1, 2, none⟩ = some (.int .i64 x.k.s) ∧ w'.cell? ⟨w.heap.size + 1, 3, none⟩ = some (.string x.k.t) ∧ w'.cell? ⟨w.heap.size + 1, 4, none⟩ = some (.slice x.k.la x.k.ll x.k.lc) ∧ w'.cell? ⟨w.heap.size + 1, 5, none⟩ = some (.slice x.k.fa x.k.fl x.k.fc) ∧ w'.cell? ⟨w.heap.size + 1, 6, none⟩ = some (.int .i64 x.n) ∧ w'.cell? ⟨w.heap.size + 1, 7, none⟩ = some (.int .i64 x.t) ∧ w'.cell? ⟨w.heap.size + 1, 8, none⟩ = some (.slice x.ia x.il x.ic) ∧ w'.cell? ⟨w.heap.size + 1, 9, none⟩ = some (.slice x.va x.vl x.vc))) ∧ (w'.cell? ⟨w9.heap.size, 0, none⟩ = some (.int .i64 y.k.k) ∧ w'.cell? ⟨w9.heap.size, 1, none⟩ = some (.int .i64 y.k.i) ∧ w'.cell? ⟨w9.heap.size, 2, none⟩ = some (.int .i64 y.k.s) ∧ w'.cell? ⟨w9.heap.size, 3, none⟩ = some (.string y.k.t) ∧ w'.cell? ⟨w9.heap.size, 4, none⟩ = some (.slice y.k.la y.k.ll y.k.lc) ∧ w'.cell? ⟨w9.heap.size, 5, none⟩ = some (.slice y.k.fa y.k.fl y.k.fc) ∧ w'.cell? ⟨w9.heap.size, 6, none⟩ = some (.int .i64 y.n) ∧ w'.cell? ⟨w9.heap.size, 7, none⟩ = some (.int .i64 y.t) ∧ w'.cell? ⟨w9.heap.size, 8, none⟩ = some (.slice y.ia y.il y.ic) ∧ w'.cell? ⟨w9.heap.size, 9, none⟩ = some (.slice y.va y.vl y.vc))) := hid fun w' h => by
          have h1 := heapExt h HAA.out
          exact ⟨HC8.out w' (HBA8.out.trans (h.mono HBA8.out.size)), cellOf h1 0, cellOf h1 1, cellOf h1 2, cellOf h1 3, cellOf h1 4, cellOf h1 5, cellOf h1 6, cellOf h1 7, cellOf h1 8, cellOf h1 9⟩
        have HSA : Hid (∀ w', Below wa.heap.size wa w' → Calls Tryz.prog 41 #[.agg #[.int .i64 c8.n, .int .i64 c8.t, .slice c8.a c8.l c8.c], .agg #[.int .i64 sn, .int .i64 st, .slice a3 ((pi + 1) + (sl - pi)) cap3]] w' fun e w2 => e = .returned (.bool true) ∧ Below w'.heap.size w' w2) := hid fun w' h => by
          have h8 := HBA8.out.trans (h.mono HBA8.out.size)
          have hc := sameSta_call c8 ⟨sn, st, a3, ((pi + 1) + (sl - pi)), cap3⟩ _ _ w' (HST8.out w' h8) (HSV5.out w' (HB8.out.trans (h8.mono HB8.out.size)))
          rw [staEqB_refl] at hc
          exact hc
        have HSO : Hid (∀ w', Below wa.heap.size wa w' → Calls Tryz.prog 34 #[.agg #[.int .i64 c8.n, .int .i64 c8.t, .slice c8.a c8.l c8.c]] w' fun e w2 => e = .returned (.bool true) ∧ Below w'.heap.size w' w2) := hid fun w' h => by
          have h8 := HBA8.out.trans (h.mono HBA8.out.size)
          have hc := sorted_call c8 _ w' (HST8.out w' h8)
          refine hc.mono fun e w2 hh => ?_
          obtain ⟨⟨b', rfl, _, q⟩, hb⟩ := hh
          obtain rfl : b' = true := q (putL_srt HSRT.out dx)
          exact ⟨rfl, hb⟩
        have HSS : Hid (∀ w', Below wa.heap.size wa w' → Calls Tryz.prog 38 #[.agg #[.int .i64 x.k.k, .int .i64 x.k.i, .int .i64 x.k.s, .string x.k.t, .slice x.k.la x.k.ll x.k.lc, .slice x.k.fa x.k.fl x.k.fc, .int .i64 x.n, .int .i64 x.t, .slice x.ia x.il x.ic, .slice x.va x.vl x.vc], .agg #[.int .i64 y.k.k, .int .i64 y.k.i, .int .i64 y.k.s, .string y.k.t, .slice y.k.la y.k.ll y.k.lc, .slice y.k.fa y.k.fl y.k.fc, .int .i64 y.n, .int .i64 y.t, .slice y.ia y.il y.ic, .slice y.va y.vl y.vc]] w' fun e w2 => e = .returned (.bool true) ∧ Below w'.heap.size w' w2) := hid fun w' h => by
          have h8 := HBA8.out.trans (h.mono HBA8.out.size)
          have h5 := HU5.out _ (HB8.out.trans (h8.mono HB8.out.size))
          have h9 := HB9A.out.trans (h.mono HB9A.out.size)
          have hc := sameSlot_call x y dx dx w' (HUA.out w' h5).2.2 (HI9.out.same fun b q => ⟨Nat.lt_of_lt_of_le q.2 h9.size, h9.block b q.2⟩)
          rw [slEqB_refl] at hc
          exact hc
        have HUF : Hid (∀ w', Below wa.heap.size wa w' → Below w.heap.size w w') := hid fun w' h => by
          have h8 := HBA8.out.trans (h.mono HBA8.out.size)
          exact (HUA.out _ (HU5.out _ (HB8.out.trans (h8.mono HB8.out.size)))).1
        clear hwa
        obtain ⟨⟨⟨k0, k1, k2⟩, ⟨m0, m1, m2⟩, ⟨x0, x1, x2, x3, x4, x5, x6, x7, x8, x9⟩⟩, ⟨y0, y1, y2, y3, y4, y5, y6, y7, y8, y9⟩⟩ := HCA.out _ (Below.refl _ _)
        go_wp2_with (first
          | (go_at_call 38; refine (HSS.out _ hbc).mono ?_; rintro e wd ⟨rfl, hbd⟩; have hbe := hbc.trans (hbd.mono hbc.size))
          | (go_at_call 34; refine (HSO.out _ hbb).mono ?_; rintro e wc ⟨rfl, hbc'⟩; have hbc := hbb.trans (hbc'.mono hbb.size); clear k0 k1 k2 x0 x1 x2 x3 x4 x5 x6 x7 x8 x9 m0 m1 m2 y0 y1 y2 y3 y4 y5 y6 y7 y8 y9; obtain ⟨⟨⟨k0, k1, k2⟩, ⟨m0, m1, m2⟩, ⟨x0, x1, x2, x3, x4, x5, x6, x7, x8, x9⟩⟩, ⟨y0, y1, y2, y3, y4, y5, y6, y7, y8, y9⟩⟩ := HCA.out _ hbc)
          | (go_at_call 41; refine (HSA.out _ (Below.refl _ _)).mono ?_; rintro e wb ⟨rfl, hbb⟩; clear k0 k1 k2 x0 x1 x2 x3 x4 x5 x6 x7 x8 x9 m0 m1 m2 y0 y1 y2 y3 y4 y5 y6 y7 y8 y9; obtain ⟨⟨⟨k0, k1, k2⟩, ⟨m0, m1, m2⟩, ⟨x0, x1, x2, x3, x4, x5, x6, x7, x8, x9⟩⟩, ⟨y0, y1, y2, y3, y4, y5, y6, y7, y8, y9⟩⟩ := HCA.out _ hbb))
        go_ret
        exact ⟨rfl, HUF.out _ hbe⟩
      refine AllReadyH.cons (o := _) rfl (fun K hK => ?_) AllReadyH.nil
      go_simp
      obtain ⟨wX, hwX⟩ : ∃ u, u = (wv.alloc (.cells #[.int .i64 x.k.k, .int .i64 x.k.i, .int .i64 x.k.s, .string x.k.t, .slice x.k.la x.k.ll x.k.lc, .slice x.k.fa x.k.fl x.k.fc, .int .i64 x.n, .int .i64 x.t, .slice x.ia x.il x.ic, .slice x.va x.vl x.vc] 58)).drew := ⟨_, rfl⟩
      rw [← hwX]
      have HXB := hid (show Below wv.heap.size wv wX by rw [hwX]; exact ((Below.refl _ _).alloc (Nat.le_refl _) _).drew)
      have HCX := hid (show wX.heap[wv.heap.size]? = some (.cells #[.int .i64 x.k.k, .int .i64 x.k.i, .int .i64 x.k.s, .string x.k.t, .slice x.k.la x.k.ll x.k.lc, .slice x.k.fa x.k.fl x.k.fc, .int .i64 x.n, .int .i64 x.t, .slice x.ia x.il x.ic, .slice x.va x.vl x.vc] 58) by rw [hwX]; exact heap_alloc_new wv _)
      clear hwX
      refine hK.out _ _ (HXB.out) (fun hS => ?_)
      clear hK K
      (try simp only [Act.put, List.getElem_toArray, List.getElem_cons_succ, List.getElem_cons_zero, List.setIfInBounds_toArray, List.set_cons_zero, List.set_cons_succ])
      refine wpAnyH_ready (rs := [6]) (by kernel_rfl) (by simp) ?_
      refine AllReadyH.cons (o := _) rfl (fun K hK => ?_) AllReadyH.nil
      have hk0 := Kept.nil (K := slK) 58 w.heap.size wX
      have hct := HCT.out wX HXB.out
      obtain ⟨a1, cap1, w1, hr1, hk1, hg1, hat1⟩ := run_append_kept (K := slK) (P := Tryz.prog) (w := wX) (ty := 53) Tryz.underlying53 hi hz0 (by rw [hz1]) (by rw [hz2]; omega) rfl one_sl hk0 sc (cl_take hct.2.2.1 pi HPL.out) (l2 := d.l.take pi) (by rw [List.length_take]; have := HL.out; have := HPL.out; omega) (take_els hct.2.2.2 pi) hct.1 (by omega)
      rw [Nat.zero_add] at hr1 hk1 hat1
      rw [List.nil_append] at hk1
      refine step_append_run (by rfl) _ _ _ (by rfl) _ _ _ _ (by rfl) (by rfl) hr1 ?_
      clear hr1
      have HK1 := hid hk1
      have HAT1 := hid (show ∀ r, (Value.slice a1 pi cap1).ownBlock = some r → wv.heap.size ≤ r from fun r hr => (hat1 r hr).elim (fun e => by cases e) (fun e => by rw [e]; exact (HXB.out).size))
      have hb1 : Below wX.heap.size wX w1 := grown_below hg1 (fun r e => by cases e) (Nat.le_refl _)
      have hbv1 : Below wv.heap.size wv w1 := (HXB.out).trans (hb1.mono (HXB.out).size)
      have HB1 := hid hbv1
      have HCX1 := hid (heapExt hb1 HCX.out)
      have HBW := HB1
      have HKW := HK1
      clear hb1
      refine hK.out _ _ (hbv1) (fun hS => ?_)
      clear hK K
      (try simp only [Act.put, List.getElem_toArray, List.getElem_cons_succ, List.getElem_cons_zero, List.setIfInBounds_toArray, List.set_cons_zero, List.set_cons_succ])
      refine wpAnyH_ready (rs := [9]) (by kernel_rfl) (by simp) ?_
      refine AllReadyH.cons (o := _) rfl (fun K hK => ?_) AllReadyH.nil
      have hct := HCT.out w1 HBW.out
      have hcx : Cl slK w1 (some ⟨wv.heap.size, 0, none⟩) 1 [x] := ⟨rfl, .inr ⟨_, rfl, fun t u hu => (by simp only [List.flatMap_cons, List.flatMap_nil, List.append_nil] at hu; exact World.news_of_block HCX1.out t u hu)⟩⟩
      obtain ⟨a2, cap2, w2', hr2, hk2, hg2, hat2⟩ := run_append_kept (K := slK) (P := Tryz.prog) (w := w1) (ty := 53) Tryz.underlying53 hi hz0 (by rw [hz1]) (by rw [hz2]; omega) rfl one_sl HKW.out 1 hcx (l2 := [dx]) rfl (one_els hct.2.1) hct.1 (by omega)
      refine step_append_run (by rfl) _ _ _ (by rfl) _ _ _ _ (by rfl) (by rfl) hr2 ?_
      clear hr2 hcx
      have hbg2 : Below wv.heap.size w1 w2' := grown_below hg2 HAT1.out HBW.out.size
      have HB2 := hid (HBW.out.trans hbg2)
      have HK2 := hid hk2
      have HAT2 := hid (show ∀ r, (Value.slice a2 (pi + 1) cap2).ownBlock = some r → wv.heap.size ≤ r from fun r hr => (hat2 r hr).elim (fun e => HAT1.out r e) (fun e => by rw [e]; exact HBW.out.size))
      clear hbg2 hk2 hat2 hg2 hct
      refine hK.out _ _ (HB2.out) (fun hS => ?_)
      clear hK K
      (try simp only [Act.put, List.getElem_toArray, List.getElem_cons_succ, List.getElem_cons_zero, List.setIfInBounds_toArray, List.set_cons_zero, List.set_cons_succ])
      refine wpAnyH_done (by kernel_rfl) ?_ _
      (try dsimp only)
      clear hS
      have HN2 := hid (show w2'.heap[w6.heap.size]? = some (.cells #[.int .i64 sn, .int .i64 st, .slice none 0 0] 55) from heapExt HB2.out HNB.out)
      have n2 := cellOf HN2.out 2
      have nf2 := freeOf HN2.out 2
      (try dsimp only at n2)

      go_upto_region 8 with (fail)
      clear n2 nf2
      obtain ⟨w3', hw3⟩ : ∃ u, u = w2'.setCell ⟨w6.heap.size, 2, none⟩ (.slice a2 (pi + 1) cap2) := ⟨_, rfl⟩
      rw [← hw3]
      have HN3 := hid (show w3'.heap[w6.heap.size]? = some (.cells #[.int .i64 sn, .int .i64 st, .slice a2 (pi + 1) cap2] 55) by
        rw [hw3]
        have h := heapSet (o := 2) (.slice a2 (pi + 1) cap2) HN2.out
        simpa only [List.setIfInBounds_toArray, List.set_cons_zero, List.set_cons_succ] using h)
      have hs2 := HB2.out.size
      have HB3' := hid (show Below ((w.alloc (.cells #[.int .i64 sn, .int .i64 st, .slice (some ⟨b, o, none⟩) sl sc] 55)).alloc (.cells #[.int .i64 x.k.k, .int .i64 x.k.i, .int .i64 x.k.s, .string x.k.t, .slice x.k.la x.k.ll x.k.lc, .slice x.k.fa x.k.fl x.k.fc, .int .i64 x.n, .int .i64 x.t, .slice x.ia x.il x.ic, .slice x.va x.vl x.vc] 58)).heap.size ((w.alloc (.cells #[.int .i64 sn, .int .i64 st, .slice (some ⟨b, o, none⟩) sl sc] 55)).alloc (.cells #[.int .i64 x.k.k, .int .i64 x.k.i, .int .i64 x.k.s, .string x.k.t, .slice x.k.la x.k.ll x.k.lc, .slice x.k.fa x.k.fl x.k.fc, .int .i64 x.n, .int .i64 x.t, .slice x.ia x.il x.ic, .slice x.va x.vl x.vc] 58)) w3' by rw [hw3]; exact (HBA.out.trans (HB2.out.mono HBA.out.size)).setCell (p := ⟨w6.heap.size, 2, none⟩) (by have := hb6.size; dsimp only; exact this) _)
      have HS3 := hid (show wv.heap.size ≤ w3'.heap.size by rw [hw3]; simpa [World.setCell] using hs2)
      have HK3 := hid (show Kept slK 58 w.heap.size w3' (.slice a2 (pi + 1) cap2) (pi + 1) (d.l.take pi ++ [dx]) by
        rw [hw3]
        have h := HK2.out
        
        exact h.set (⟨w6.heap.size, 2, none⟩ : Addr) _ (by have := hb6.size; have h2 := HA.out.size; dsimp only; omega) (fun e => by have := HAT2.out _ e; have := HSV.out; dsimp only at *; omega))
      clear hw3 hs2
      obtain ⟨A, hA, hAc⟩ : ∃ A : Addr, (if sc = pi then (some (⟨b, o, none⟩ : Addr)) else some ⟨b, o + pi * 10, none⟩) = some A ∧ Hid (∀ w', Below ((w.alloc (.cells #[.int .i64 sn, .int .i64 st, .slice (some ⟨b, o, none⟩) sl sc] 55)).alloc (.cells #[.int .i64 x.k.k, .int .i64 x.k.i, .int .i64 x.k.s, .string x.k.t, .slice x.k.la x.k.ll x.k.lc, .slice x.k.fa x.k.fl x.k.fc, .int .i64 x.n, .int .i64 x.t, .slice x.ia x.il x.ic, .slice x.va x.vl x.vc] 58)).heap.size ((w.alloc (.cells #[.int .i64 sn, .int .i64 st, .slice (some ⟨b, o, none⟩) sl sc] 55)).alloc (.cells #[.int .i64 x.k.k, .int .i64 x.k.i, .int .i64 x.k.s, .string x.k.t, .slice x.k.la x.k.ll x.k.lc, .slice x.k.fa x.k.fl x.k.fc, .int .i64 x.n, .int .i64 x.t, .slice x.ia x.il x.ic, .slice x.va x.vl x.vc] 58)) w' → Cl slK w' (some A) (sl - pi) (cs0.drop pi)) := by
        by_cases h : sc = pi
        · refine ⟨⟨b, o, none⟩, by rw [if_pos h], fun w' hw => ⟨by rw [List.length_drop, HCL.out], .inl (by have := HCAP.out; omega)⟩⟩
        · refine ⟨⟨b, o + pi * 10, none⟩, by rw [if_neg h], fun w' hw => cl_drop (HCS.out w' hw) pi (by have := HPL.out; omega)⟩
      have HC8 : Hid (∀ w', (Below ((w.alloc (.cells #[.int .i64 sn, .int .i64 st, .slice (some ⟨b, o, none⟩) sl sc] 55)).alloc (.cells #[.int .i64 x.k.k, .int .i64 x.k.i, .int .i64 x.k.s, .string x.k.t, .slice x.k.la x.k.ll x.k.lc, .slice x.k.fa x.k.fl x.k.fc, .int .i64 x.n, .int .i64 x.t, .slice x.ia x.il x.ic, .slice x.va x.vl x.vc] 58)).heap.size ((w.alloc (.cells #[.int .i64 sn, .int .i64 st, .slice (some ⟨b, o, none⟩) sl sc] 55)).alloc (.cells #[.int .i64 x.k.k, .int .i64 x.k.i, .int .i64 x.k.s, .string x.k.t, .slice x.k.la x.k.ll x.k.lc, .slice x.k.fa x.k.fl x.k.fc, .int .i64 x.n, .int .i64 x.t, .slice x.ia x.il x.ic, .slice x.va x.vl x.vc] 58)) w' ∧ w'.heap[w6.heap.size]? = some (.cells #[.int .i64 sn, .int .i64 st, .slice a2 (pi + 1) cap2] 55)) → w'.cell? ⟨w6.heap.size, 2, none⟩ = some (.slice a2 (pi + 1) cap2) ∧ w'.cell? ⟨w.heap.size, 2, none⟩ = some (.slice (some ⟨b, o, none⟩) sl sc)) := hid fun w' h => ⟨cellOf h.2 2, (HBX.out w' h.1).1.2.2⟩
      refine wp_region_split 7 (fun w' => Below ((w.alloc (.cells #[.int .i64 sn, .int .i64 st, .slice (some ⟨b, o, none⟩) sl sc] 55)).alloc (.cells #[.int .i64 x.k.k, .int .i64 x.k.i, .int .i64 x.k.s, .string x.k.t, .slice x.k.la x.k.ll x.k.lc, .slice x.k.fa x.k.fl x.k.fc, .int .i64 x.n, .int .i64 x.t, .slice x.ia x.il x.ic, .slice x.va x.vl x.vc] 58)).heap.size ((w.alloc (.cells #[.int .i64 sn, .int .i64 st, .slice (some ⟨b, o, none⟩) sl sc] 55)).alloc (.cells #[.int .i64 x.k.k, .int .i64 x.k.i, .int .i64 x.k.s, .string x.k.t, .slice x.k.la x.k.ll x.k.lc, .slice x.k.fa x.k.fl x.k.fc, .int .i64 x.n, .int .i64 x.t, .slice x.ia x.il x.ic, .slice x.va x.vl x.vc] 58)) w' ∧ w'.heap[w6.heap.size]? = some (.cells #[.int .i64 sn, .int .i64 st, .slice a2 (pi + 1) cap2] 55)) (by kernel_rfl) (by kernel_rfl) (by kernel_rfl) (by decide) (⟨HB3'.out.drew, HN3.out⟩) (fun hS => ?_)
      simp only [List.take_succ_cons, List.take_zero, List.drop_succ_cons, List.drop_zero]
      refine wpAnyH_take (i := 0) (oi := _) (v := ?_) rfl (by kernel_rfl) (by kernel_rfl) (by kernel_rfl) (fun _ _ _ h => h) (Or.inl ⟨by rfl, ?_⟩) hS ?_
      rotate_left
      · intro w' hw'
        have hcells := HC8.out w' hw'
        go_simp
        (try with_reducible rfl)
      simp only [Act.put, List.getElem_toArray, List.getElem_cons_succ, List.getElem_cons_zero, List.setIfInBounds_toArray, List.set_cons_zero, List.set_cons_succ]
      refine wpAnyH_take (i := 1) (oi := _) (v := ?_) rfl (by kernel_rfl) (by kernel_rfl) (by kernel_rfl) (fun _ _ _ h => h) (Or.inl ⟨by rfl, ?_⟩) hS ?_
      rotate_left
      · intro w' hw'
        have hcells := HC8.out w' hw'
        go_simp
        (try with_reducible rfl)
      simp only [Act.put, List.getElem_toArray, List.getElem_cons_succ, List.getElem_cons_zero, List.setIfInBounds_toArray, List.set_cons_zero, List.set_cons_succ]
      refine wpAnyH_take (i := 2) (oi := _) (v := ?_) rfl (by kernel_rfl) (by kernel_rfl) (by kernel_rfl) (fun _ _ _ h => h) (Or.inl ⟨by rfl, ?_⟩) hS ?_
      rotate_left
      · intro w' hw'
        have hcells := HC8.out w' hw'
        go_simp
        (try with_reducible rfl)
      simp only [Act.put, List.getElem_toArray, List.getElem_cons_succ, List.getElem_cons_zero, List.setIfInBounds_toArray, List.set_cons_zero, List.set_cons_succ]
      refine wpAnyH_take (i := 3) (oi := _) (v := ?_) rfl (by kernel_rfl) (by kernel_rfl) (by kernel_rfl) (fun _ _ _ h => h) (Or.inl ⟨by rfl, ?_⟩) hS ?_
      rotate_left
      · intro w' hw'
        have hcells := HC8.out w' hw'
        go_simp
        (try with_reducible rfl)
      simp only [Act.put, List.getElem_toArray, List.getElem_cons_succ, List.getElem_cons_zero, List.setIfInBounds_toArray, List.set_cons_zero, List.set_cons_succ]
      refine wpAnyH_take (i := 4) (oi := _) (v := ?_) rfl (by kernel_rfl) (by kernel_rfl) (by kernel_rfl) (fun _ _ _ h => h) (Or.inl ⟨by rfl, ?_⟩) hS ?_
      rotate_left
      · intro w' hw'
        have hcells := HC8.out w' hw'
        go_simp
        (try with_reducible rfl)
      simp only [Act.put, List.getElem_toArray, List.getElem_cons_succ, List.getElem_cons_zero, List.setIfInBounds_toArray, List.set_cons_zero, List.set_cons_succ]
      refine wpAnyH_take (i := 5) (oi := _) (v := ?_) rfl (by kernel_rfl) (by kernel_rfl) (by kernel_rfl) (fun _ _ _ h => h) (Or.inl ⟨by rfl, ?_⟩) hS ?_
      rotate_left
      · intro w' hw'
        have hcells := HC8.out w' hw'
        go_simp
        (try with_reducible rfl)
      simp only [Act.put, List.getElem_toArray, List.getElem_cons_succ, List.getElem_cons_zero, List.setIfInBounds_toArray, List.set_cons_zero, List.set_cons_succ]
      refine wpAnyH_ready (rs := [6]) (by kernel_rfl) (by simp) ?_
      refine AllReadyH.cons (o := _) rfl (fun K hK => ?_) AllReadyH.nil
      have hct := HCD.out w3'.drew (HB3'.out.drew)
      obtain ⟨a3, cap3, w4', hr3, hk3, hg3, hat3⟩ := run_append_kept (K := slK) (P := Tryz.prog) (w := w3'.drew) (ty := 53) Tryz.underlying53 hi hz0 (by rw [hz1]) (by rw [hz2]; omega) rfl one_sl (HK3.out.ext (HUA.out _ HB3'.out).1.size ((Below.refl _ _).drew)) (sc - pi) (hAc.out w3'.drew (HB3'.out.drew)) (l2 := d.l.drop pi) (by rw [List.length_drop]; have := HL.out; omega) (drop_els hct pi) (HUA.out _ HB3'.out).1.size (by omega)
      refine step_append_run (by rfl) _ _ _ (by rfl) _ _ _ _ (by rfl) (by rfl) hr3 ?_
      clear hr3 hct
      have hbg3 : Below wv.heap.size w3'.drew w4' := grown_below hg3 HAT2.out HS3.out
      have HK4 := hid hk3
      have HAT3 := hid (show ∀ r, (Value.slice a3 ((pi + 1) + (sl - pi)) cap3).ownBlock = some r → wv.heap.size ≤ r from fun r hr => (hat3 r hr).elim (fun e => HAT2.out r e) (fun e => by rw [e]; exact HS3.out))
      have hkeep : Below ((w.alloc (.cells #[.int .i64 sn, .int .i64 st, .slice (some ⟨b, o, none⟩) sl sc] 55)).alloc (.cells #[.int .i64 x.k.k, .int .i64 x.k.i, .int .i64 x.k.s, .string x.k.t, .slice x.k.la x.k.ll x.k.lc, .slice x.k.fa x.k.fl x.k.fc, .int .i64 x.n, .int .i64 x.t, .slice x.ia x.il x.ic, .slice x.va x.vl x.vc] 58)).heap.size ((w.alloc (.cells #[.int .i64 sn, .int .i64 st, .slice (some ⟨b, o, none⟩) sl sc] 55)).alloc (.cells #[.int .i64 x.k.k, .int .i64 x.k.i, .int .i64 x.k.s, .string x.k.t, .slice x.k.la x.k.ll x.k.lc, .slice x.k.fa x.k.fl x.k.fc, .int .i64 x.n, .int .i64 x.t, .slice x.ia x.il x.ic, .slice x.va x.vl x.vc] 58)) w4' ∧ w4'.heap[w6.heap.size]? = some (.cells #[.int .i64 sn, .int .i64 st, .slice a2 (pi + 1) cap2] 55) := ⟨HB3'.out.drew.trans (hbg3.mono HBA.out.size), (hbg3.block _ (by rw [HSV.out]; exact Nat.lt_succ_self _)).trans HN3.out⟩
      clear hk3 hg3 hat3
      refine hK.out _ _ (hkeep) (fun hS => ?_)
      clear hK K
      (try simp only [Act.put, List.getElem_toArray, List.getElem_cons_succ, List.getElem_cons_zero, List.setIfInBounds_toArray, List.set_cons_zero, List.set_cons_succ])
      refine wpAnyH_done (by kernel_rfl) ?_ _
      (try dsimp only)
      have HE8 := hid hS
      clear hS
      have n0 := cellOf HE8.out.2 2
      have nf0 := freeOf HE8.out.2 2
      (try dsimp only at n0)
      go_upto_region 9 with (fail)
      clear n0 nf0
      obtain ⟨w5', hw5⟩ : ∃ u, u = w4'.setCell ⟨w6.heap.size, 2, none⟩ (.slice a3 ((pi + 1) + (sl - pi)) cap3) := ⟨_, rfl⟩
      rw [← hw5]
      have HN5 := hid (show w5'.heap[w6.heap.size]? = some (.cells #[.int .i64 sn, .int .i64 st, .slice a3 ((pi + 1) + (sl - pi)) cap3] 55) by
        rw [hw5]
        have h := heapSet (o := 2) (.slice a3 ((pi + 1) + (sl - pi)) cap3) HE8.out.2
        simpa only [List.setIfInBounds_toArray, List.set_cons_zero, List.set_cons_succ] using h)
      have HB5' := hid (show Below ((w.alloc (.cells #[.int .i64 sn, .int .i64 st, .slice (some ⟨b, o, none⟩) sl sc] 55)).alloc (.cells #[.int .i64 x.k.k, .int .i64 x.k.i, .int .i64 x.k.s, .string x.k.t, .slice x.k.la x.k.ll x.k.lc, .slice x.k.fa x.k.fl x.k.fc, .int .i64 x.n, .int .i64 x.t, .slice x.ia x.il x.ic, .slice x.va x.vl x.vc] 58)).heap.size ((w.alloc (.cells #[.int .i64 sn, .int .i64 st, .slice (some ⟨b, o, none⟩) sl sc] 55)).alloc (.cells #[.int .i64 x.k.k, .int .i64 x.k.i, .int .i64 x.k.s, .string x.k.t, .slice x.k.la x.k.ll x.k.lc, .slice x.k.fa x.k.fl x.k.fc, .int .i64 x.n, .int .i64 x.t, .slice x.ia x.il x.ic, .slice x.va x.vl x.vc] 58)) w5' by rw [hw5]; exact HE8.out.1.setCell (p := ⟨w6.heap.size, 2, none⟩) (by have := hb6.size; dsimp only; exact this) _)
      have HST5 := hid (show IsSta (· < w5'.heap.size) w5' ⟨sn, st, a3, ((pi + 1) + (sl - pi)), cap3⟩ ⟨d.n, d.t, putL d.l dx⟩ by
        have hk5 : Kept slK 58 w.heap.size w5' (.slice a3 ((pi + 1) + (sl - pi)) cap3) ((pi + 1) + (sl - pi)) (putL d.l dx) := by
          rw [hw5]
          have h := HK4.out.set (⟨w6.heap.size, 2, none⟩ : Addr) (.slice a3 ((pi + 1) + (sl - pi)) cap3) (by have := hb6.size; have h2 := HA.out.size; dsimp only; omega) (fun e => by have := HAT3.out _ e; have := HSV.out; dsimp only at *; omega)
          have e : putL d.l dx = (d.l.take pi ++ [dx]) ++ d.l.drop pi := by rw [putL, putAt, putQ, ← HPI.out, ← HPB.out]; simp
          rw [e]
          exact h
        refine ⟨HD.out.n, HD.out.rn, HD.out.t, HD.out.rt, ?_⟩
        exact hk5.row (HUA.out _ HB5'.out).1.size (by dsimp only; omega))
      clear hw5
      have HU5 : Hid (∀ w', Below w5'.heap.size w5' w' → Below ((w.alloc (.cells #[.int .i64 sn, .int .i64 st, .slice (some ⟨b, o, none⟩) sl sc] 55)).alloc (.cells #[.int .i64 x.k.k, .int .i64 x.k.i, .int .i64 x.k.s, .string x.k.t, .slice x.k.la x.k.ll x.k.lc, .slice x.k.fa x.k.fl x.k.fc, .int .i64 x.n, .int .i64 x.t, .slice x.ia x.il x.ic, .slice x.va x.vl x.vc] 58)).heap.size ((w.alloc (.cells #[.int .i64 sn, .int .i64 st, .slice (some ⟨b, o, none⟩) sl sc] 55)).alloc (.cells #[.int .i64 x.k.k, .int .i64 x.k.i, .int .i64 x.k.s, .string x.k.t, .slice x.k.la x.k.ll x.k.lc, .slice x.k.fa x.k.fl x.k.fc, .int .i64 x.n, .int .i64 x.t, .slice x.ia x.il x.ic, .slice x.va x.vl x.vc] 58)) w') := hid fun w' h => HB5'.out.trans (h.mono HB5'.out.size)
      have HPU : Hid (∀ w', Below w5'.heap.size w5' w' → Calls Tryz.prog 51 #[.agg #[.int .i64 sn, .int .i64 st, .slice (some ⟨b, o, none⟩) sl sc], .agg #[.int .i64 x.k.k, .int .i64 x.k.i, .int .i64 x.k.s, .string x.k.t, .slice x.k.la x.k.ll x.k.lc, .slice x.k.fa x.k.fl x.k.fc, .int .i64 x.n, .int .i64 x.t, .slice x.ia x.il x.ic, .slice x.va x.vl x.vc]] w' (PutPost w' d dx)) := hid fun w' h => by
        obtain ⟨h1, h2, h3⟩ := HUA.out w' (HU5.out w' h)
        exact putF_call ⟨sn, st, some ⟨b, o, none⟩, sl, sc⟩ d x dx w' HSRT.out h2 h3 HPB.out.symm (by have := HL.out; omega)
      have HSV5 : Hid (∀ w', Below w5'.heap.size w5' w' → IsSta (· < w'.heap.size) w' ⟨sn, st, a3, ((pi + 1) + (sl - pi)), cap3⟩ ⟨d.n, d.t, putL d.l dx⟩) := hid fun w' h => HST5.out.same fun b q => ⟨Nat.lt_of_lt_of_le q h.size, h.block b q⟩
      have HIW : Hid (∀ w', Below w5'.heap.size w5' w' → w'.heap[w6.heap.size]? = some (.cells #[.int .i64 sn, .int .i64 st, .slice a3 ((pi + 1) + (sl - pi)) cap3] 55)) := hid fun w' h => heapExt h HN5.out
      obtain ⟨⟨k0, k1, k2⟩, ⟨x0, x1, x2, x3, x4, x5, x6, x7, x8, x9⟩⟩ := HBX.out _ HB5'.out
      go_upto_region 10 with (go_at_call 51; refine (HPU.out _ (Below.refl _ _)).mono ?_; rintro e w7 ⟨c8, rfl, hb7, hi8⟩; have HI8 := hid hi8; clear hi8)
      clear k0 k1 k2 x0 x1 x2 x3 x4 x5 x6 x7 x8 x9
      obtain ⟨w8, hw8⟩ : ∃ u, u = w7.alloc (.cells #[.int .i64 c8.n, .int .i64 c8.t, .slice c8.a c8.l c8.c] 55) := ⟨_, rfl⟩
      rw [← hw8]
      have HB7 := hid hb7
      have HB78 := hid (show Below w7.heap.size w7 w8 by rw [hw8]; exact (Below.refl _ _).alloc (Nat.le_refl _) _)
      have HB8 := hid (show Below w5'.heap.size w5' w8 from hb7.trans (HB78.out.mono hb7.size))
      have H8 := hid (show w8.heap[w7.heap.size]? = some (.cells #[.int .i64 c8.n, .int .i64 c8.t, .slice c8.a c8.l c8.c] 55) by rw [hw8]; exact heap_alloc_new w7 _)
      have HST8 : Hid (∀ w', Below w8.heap.size w8 w' → IsSta (· < w'.heap.size) w' c8 ⟨d.n, d.t, putL d.l dx⟩) := hid fun w' h => HI8.out.same fun b q => ⟨by have := HB78.out.size; have := h.size; omega, (h.block b (by have := HB78.out.size; omega)).trans (HB78.out.block b q)⟩
      have HC8 : Hid (∀ w', Below w8.heap.size w8 w' → (w'.cell? ⟨w7.heap.size, 0, none⟩ = some (.int .i64 c8.n) ∧ w'.cell? ⟨w7.heap.size, 1, none⟩ = some (.int .i64 c8.t) ∧ w'.cell? ⟨w7.heap.size, 2, none⟩ = some (.slice c8.a c8.l c8.c)) ∧ (w'.cell? ⟨w6.heap.size, 0, none⟩ = some (.int .i64 sn) ∧ w'.cell? ⟨w6.heap.size, 1, none⟩ = some (.int .i64 st) ∧ w'.cell? ⟨w6.heap.size, 2, none⟩ = some (.slice a3 ((pi + 1) + (sl - pi)) cap3)) ∧ (w'.cell? ⟨w.heap.size + 1, 0, none⟩ = some (.int .i64 x.k.k) ∧ w'.cell? ⟨w.heap.size + 1, 1, none⟩ = some (.int .i64 x.k.i) ∧ w'.cell? ⟨w.heap.size + 1, 2, none⟩ = some (.int .i64 x.k.s) ∧ w'.cell? ⟨w.heap.size + 1, 3, none⟩ = some (.string x.k.t) ∧ w'.cell? ⟨w.heap.size + 1, 4, none⟩ = some (.slice x.k.la x.k.ll x.k.lc) ∧ w'.cell? ⟨w.heap.size + 1, 5, none⟩ = some (.slice x.k.fa x.k.fl x.k.fc) ∧ w'.cell? ⟨w.heap.size + 1, 6, none⟩ = some (.int .i64 x.n) ∧ w'.cell? ⟨w.heap.size + 1, 7, none⟩ = some (.int .i64 x.t) ∧ w'.cell? ⟨w.heap.size + 1, 8, none⟩ = some (.slice x.ia x.il x.ic) ∧ w'.cell? ⟨w.heap.size + 1, 9, none⟩ = some (.slice x.va x.vl x.vc))) := hid fun w' h => by
        have h1 := heapExt h H8.out
        have h5 := HB8.out.trans (h.mono HB8.out.size)
        have h2 := HIW.out w' h5
        exact ⟨⟨cellOf h1 0, cellOf h1 1, cellOf h1 2⟩, ⟨cellOf h2 0, cellOf h2 1, cellOf h2 2⟩, (HBX.out _ (HU5.out _ h5)).2⟩
      have HGE : Hid (∀ w', Below w8.heap.size w8 w' → Calls Tryz.prog 36 #[.agg #[.int .i64 c8.n, .int .i64 c8.t, .slice c8.a c8.l c8.c], .agg #[.int .i64 x.k.k, .int .i64 x.k.i, .int .i64 x.k.s, .string x.k.t, .slice x.k.la x.k.ll x.k.lc, .slice x.k.fa x.k.fl x.k.fc]] w' fun e w2 => ∃ y : SlC, e = .returned (.tuple #[.agg #[.int .i64 y.k.k, .int .i64 y.k.i, .int .i64 y.k.s, .string y.k.t, .slice y.k.la y.k.ll y.k.lc, .slice y.k.fa y.k.fl y.k.fc, .int .i64 y.n, .int .i64 y.t, .slice y.ia y.il y.ic, .slice y.va y.vl y.vc], .bool true]) ∧ Below w'.heap.size w' w2 ∧ IsSl (fun b => w'.heap.size ≤ b ∧ b < w2.heap.size) w2 y dx) := hid fun w' h => by
        have h5 := HU5.out _ (HB8.out.trans (h.mono HB8.out.size))
        have hc := get_call c8 ⟨d.n, d.t, putL d.l dx⟩ x.k dx.k w' (HST8.out w' h) (HUA.out w' h5).2.2.k
        have hs := putL_srt HSRT.out dx
        refine hc.mono fun e w2 hh => ?_
        obtain ⟨y, dy, q1, q2, q3, q4, q5⟩ := hh
        have e1 : findB (putL d.l dx) dx.k = true := by rw [findB_place hs, putL_found]
        dsimp only at q1 q4
        rw [e1] at q1
        have q6 := q4 e1
        rw [findI_place hs, putL_place, putL_at] at q6
        obtain rfl : dx = dy := Option.some.inj q6
        exact ⟨y, q1, q2, q3⟩
      clear hw8 hb7
      obtain ⟨⟨k0, k1, k2⟩, ⟨m0, m1, m2⟩, ⟨x0, x1, x2, x3, x4, x5, x6, x7, x8, x9⟩⟩ := HC8.out _ (Below.refl _ _)
      go_upto_region 11 with (go_at_call 36; refine (HGE.out _ (Below.refl _ _)).mono ?_; rintro e w9 ⟨y, rfl, hb9, hi9⟩; have HI9 := hid hi9; have HB9 := hid hb9; clear hi9 hb9)
      clear k0 k1 k2 x0 x1 x2 x3 x4 x5 x6 x7 x8 x9 m0 m1 m2
      obtain ⟨wa, hwa⟩ : ∃ u, u = w9.alloc (.cells #[.int .i64 y.k.k, .int .i64 y.k.i, .int .i64 y.k.s, .string y.k.t, .slice y.k.la y.k.ll y.k.lc, .slice y.k.fa y.k.fl y.k.fc, .int .i64 y.n, .int .i64 y.t, .slice y.ia y.il y.ic, .slice y.va y.vl y.vc] 58) := ⟨_, rfl⟩
      rw [← hwa]
      have HB9A := hid (show Below w9.heap.size w9 wa by rw [hwa]; exact (Below.refl _ _).alloc (Nat.le_refl _) _)
      have HBA8 := hid (show Below w8.heap.size w8 wa from HB9.out.trans (HB9A.out.mono HB9.out.size))
      have HAA := hid (show wa.heap[w9.heap.size]? = some (.cells #[.int .i64 y.k.k, .int .i64 y.k.i, .int .i64 y.k.s, .string y.k.t, .slice y.k.la y.k.ll y.k.lc, .slice y.k.fa y.k.fl y.k.fc, .int .i64 y.n, .int .i64 y.t, .slice y.ia y.il y.ic, .slice y.va y.vl y.vc] 58) by rw [hwa]; exact heap_alloc_new w9 _)
      have HCA : Hid (∀ w', Below wa.heap.size wa w' → ((w'.cell? ⟨w7.heap.size, 0, none⟩ = some (.int .i64 c8.n) ∧ w'.cell? ⟨w7.heap.size, 1, none⟩ = some (.int .i64 c8.t) ∧ w'.cell? ⟨w7.heap.size, 2, none⟩ = some (.slice c8.a c8.l c8.c)) ∧ (w'.cell? ⟨w6.heap.size, 0, none⟩ = some (.int .i64 sn) ∧ w'.cell? ⟨w6.heap.size, 1, none⟩ = some (.int .i64 st) ∧ w'.cell? ⟨w6.heap.size, 2, none⟩ = some (.slice a3 ((pi + 1) + (sl - pi)) cap3)) ∧ (w'.cell? ⟨w.heap.size + 1, 0, none⟩ = some (.int .i64 x.k.k) ∧ w'.cell? ⟨w.heap.size + 1, 1, none⟩ = some (.int .i64 x.k.i) ∧ w'.cell? ⟨w.heap.size + 1, 2, none⟩ = some (.int .i64 x.k.s) ∧ w'.cell? ⟨w.heap.size + 1, 3, none⟩ = some (.string x.k.t) ∧ w'.cell? ⟨w.heap.size + 1, 4, none⟩ = some (.slice x.k.la x.k.ll x.k.lc) ∧ w'.cell? ⟨w.heap.size + 1, 5, none⟩ = some (.slice x.k.fa x.k.fl x.k.fc) ∧ w'.cell? ⟨w.heap.size + 1, 6, none⟩ = some (.int .i64 x.n) ∧ w'.cell? ⟨w.heap.size + 1, 7, none⟩ = some (.int .i64 x.t) ∧ w'.cell? ⟨w.heap.size + 1, 8, none⟩ = some (.slice x.ia x.il x.ic) ∧ w'.cell? ⟨w.heap.size + 1, 9, none⟩ = some (.slice x.va x.vl x.vc))) ∧ (w'.cell? ⟨w9.heap.size, 0, none⟩ = some (.int .i64 y.k.k) ∧ w'.cell? ⟨w9.heap.size, 1, none⟩ = some (.int .i64 y.k.i) ∧ w'.cell? ⟨w9.heap.size, 2, none⟩ = some (.int .i64 y.k.s) ∧ w'.cell? ⟨w9.heap.size, 3, none⟩ = some (.string y.k.t) ∧ w'.cell? ⟨w9.heap.size, 4, none⟩ = some (.slice y.k.la y.k.ll y.k.lc) ∧ w'.cell? ⟨w9.heap.size, 5, none⟩ = some (.slice y.k.fa y.k.fl y.k.fc) ∧ w'.cell? ⟨w9.heap.size, 6, none⟩ = some (.int .i64 y.n) ∧ w'.cell? ⟨w9.heap.size, 7, none⟩ = some (.int .i64 y.t) ∧ w'.cell? ⟨w9.heap.size, 8, none⟩ = some (.slice y.ia y.il y.ic) ∧ w'.cell? ⟨w9.heap.size, 9, none⟩ = some (.slice y.va y.vl y.vc))) := hid fun w' h => by
        have h1 := heapExt h HAA.out
        exact ⟨HC8.out w' (HBA8.out.trans (h.mono HBA8.out.size)), cellOf h1 0, cellOf h1 1, cellOf h1 2, cellOf h1 3, cellOf h1 4, cellOf h1 5, cellOf h1 6, cellOf h1 7, cellOf h1 8, cellOf h1 9⟩
      have HSA : Hid (∀ w', Below wa.heap.size wa w' → Calls Tryz.prog 41 #[.agg #[.int .i64 c8.n, .int .i64 c8.t, .slice c8.a c8.l c8.c], .agg #[.int .i64 sn, .int .i64 st, .slice a3 ((pi + 1) + (sl - pi)) cap3]] w' fun e w2 => e = .returned (.bool true) ∧ Below w'.heap.size w' w2) := hid fun w' h => by
        have h8 := HBA8.out.trans (h.mono HBA8.out.size)
        have hc := sameSta_call c8 ⟨sn, st, a3, ((pi + 1) + (sl - pi)), cap3⟩ _ _ w' (HST8.out w' h8) (HSV5.out w' (HB8.out.trans (h8.mono HB8.out.size)))
        rw [staEqB_refl] at hc
        exact hc
      have HSO : Hid (∀ w', Below wa.heap.size wa w' → Calls Tryz.prog 34 #[.agg #[.int .i64 c8.n, .int .i64 c8.t, .slice c8.a c8.l c8.c]] w' fun e w2 => e = .returned (.bool true) ∧ Below w'.heap.size w' w2) := hid fun w' h => by
        have h8 := HBA8.out.trans (h.mono HBA8.out.size)
        have hc := sorted_call c8 _ w' (HST8.out w' h8)
        refine hc.mono fun e w2 hh => ?_
        obtain ⟨⟨b', rfl, _, q⟩, hb⟩ := hh
        obtain rfl : b' = true := q (putL_srt HSRT.out dx)
        exact ⟨rfl, hb⟩
      have HSS : Hid (∀ w', Below wa.heap.size wa w' → Calls Tryz.prog 38 #[.agg #[.int .i64 x.k.k, .int .i64 x.k.i, .int .i64 x.k.s, .string x.k.t, .slice x.k.la x.k.ll x.k.lc, .slice x.k.fa x.k.fl x.k.fc, .int .i64 x.n, .int .i64 x.t, .slice x.ia x.il x.ic, .slice x.va x.vl x.vc], .agg #[.int .i64 y.k.k, .int .i64 y.k.i, .int .i64 y.k.s, .string y.k.t, .slice y.k.la y.k.ll y.k.lc, .slice y.k.fa y.k.fl y.k.fc, .int .i64 y.n, .int .i64 y.t, .slice y.ia y.il y.ic, .slice y.va y.vl y.vc]] w' fun e w2 => e = .returned (.bool true) ∧ Below w'.heap.size w' w2) := hid fun w' h => by
        have h8 := HBA8.out.trans (h.mono HBA8.out.size)
        have h5 := HU5.out _ (HB8.out.trans (h8.mono HB8.out.size))
        have h9 := HB9A.out.trans (h.mono HB9A.out.size)
        have hc := sameSlot_call x y dx dx w' (HUA.out w' h5).2.2 (HI9.out.same fun b q => ⟨Nat.lt_of_lt_of_le q.2 h9.size, h9.block b q.2⟩)
        rw [slEqB_refl] at hc
        exact hc
      have HUF : Hid (∀ w', Below wa.heap.size wa w' → Below w.heap.size w w') := hid fun w' h => by
        have h8 := HBA8.out.trans (h.mono HBA8.out.size)
        exact (HUA.out _ (HU5.out _ (HB8.out.trans (h8.mono HB8.out.size)))).1
      clear hwa
      obtain ⟨⟨⟨k0, k1, k2⟩, ⟨m0, m1, m2⟩, ⟨x0, x1, x2, x3, x4, x5, x6, x7, x8, x9⟩⟩, ⟨y0, y1, y2, y3, y4, y5, y6, y7, y8, y9⟩⟩ := HCA.out _ (Below.refl _ _)
      go_wp2_with (first
        | (go_at_call 38; refine (HSS.out _ hbc).mono ?_; rintro e wd ⟨rfl, hbd⟩; have hbe := hbc.trans (hbd.mono hbc.size))
        | (go_at_call 34; refine (HSO.out _ hbb).mono ?_; rintro e wc ⟨rfl, hbc'⟩; have hbc := hbb.trans (hbc'.mono hbb.size); clear k0 k1 k2 x0 x1 x2 x3 x4 x5 x6 x7 x8 x9 m0 m1 m2 y0 y1 y2 y3 y4 y5 y6 y7 y8 y9; obtain ⟨⟨⟨k0, k1, k2⟩, ⟨m0, m1, m2⟩, ⟨x0, x1, x2, x3, x4, x5, x6, x7, x8, x9⟩⟩, ⟨y0, y1, y2, y3, y4, y5, y6, y7, y8, y9⟩⟩ := HCA.out _ hbc)
        | (go_at_call 41; refine (HSA.out _ (Below.refl _ _)).mono ?_; rintro e wb ⟨rfl, hbb⟩; clear k0 k1 k2 x0 x1 x2 x3 x4 x5 x6 x7 x8 x9 m0 m1 m2 y0 y1 y2 y3 y4 y5 y6 y7 y8 y9; obtain ⟨⟨⟨k0, k1, k2⟩, ⟨m0, m1, m2⟩, ⟨x0, x1, x2, x3, x4, x5, x6, x7, x8, x9⟩⟩, ⟨y0, y1, y2, y3, y4, y5, y6, y7, y8, y9⟩⟩ := HCA.out _ hbb))
      go_ret
      exact ⟨rfl, HUF.out _ hbe⟩
end Go.Proofs.YthjlgpmajeafpaaGreatDoor
