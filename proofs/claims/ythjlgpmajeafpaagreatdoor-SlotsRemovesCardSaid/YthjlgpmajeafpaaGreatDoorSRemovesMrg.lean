/-
  SlotsRemoves returns true. Conditions: the state, the slot and the key can be read as data; Tabs.
-/
import Derived.Test.YthjlgpmajeafpaaGreatDoorPlaceMrg
import Derived.Test.YthjlgpmajeafpaaGreatDoorPutMrg
import Derived.Test.YthjlgpmajeafpaaGreatDoorDeleteMrg
import Derived.Test.YthjlgpmajeafpaaGreatDoorSmallSMrg
namespace Go.Proofs.YthjlgpmajeafpaaGreatDoor
open Go Go.RowKit Go.Shelf
set_option linter.unusedVariables false
set_option linter.unusedSimpArgs false

set_option maxRecDepth 100000 in
set_option maxHeartbeats 16000000 in
theorem slotsRemoves_call (c : StC) (d : Sta) (x : SlC) (dx : Slot) (k : VC) (kd : Val) (w : World) (hd : IsSta (· < w.heap.size) w c d) (hx : IsSl (· < w.heap.size) w x dx) (hk : IsVal (· < w.heap.size) w k kd) (hT : Tabs w) : Calls Tryz.prog 13 #[c.v, x.v, k.v] w fun e w' => e = .returned (.bool true) ∧ Below w.heap.size w w' := by
  obtain ⟨ti, hi, hz0, hz1, hz2⟩ := info_parts infoSlot
  obtain ⟨sn, st, a, sl, sc⟩ := c
  have hbig := hd.l.big
  have HL := hid hd.l.len
  have HCAP := hid hd.l.cap
  dsimp only at hbig HL HCAP
  have HA := hid (show Below w.heap.size w (((w.alloc (.cells #[.int .i64 sn, .int .i64 st, .slice a sl sc] 55)).alloc (.cells #[.int .i64 x.k.k, .int .i64 x.k.i, .int .i64 x.k.s, .string x.k.t, .slice x.k.la x.k.ll x.k.lc, .slice x.k.fa x.k.fl x.k.fc, .int .i64 x.n, .int .i64 x.t, .slice x.ia x.il x.ic, .slice x.va x.vl x.vc] 58)).alloc (.cells #[.int .i64 k.k, .int .i64 k.i, .int .i64 k.s, .string k.t, .slice k.la k.ll k.lc, .slice k.fa k.fl k.fc] 28)) from (((Below.refl _ w).alloc (Nat.le_refl _) _).alloc (by simp) _).alloc (by simp; omega) _)
  have HG := hid (show (((w.alloc (.cells #[.int .i64 sn, .int .i64 st, .slice a sl sc] 55)).alloc (.cells #[.int .i64 x.k.k, .int .i64 x.k.i, .int .i64 x.k.s, .string x.k.t, .slice x.k.la x.k.ll x.k.lc, .slice x.k.fa x.k.fl x.k.fc, .int .i64 x.n, .int .i64 x.t, .slice x.ia x.il x.ic, .slice x.va x.vl x.vc] 58)).alloc (.cells #[.int .i64 k.k, .int .i64 k.i, .int .i64 k.s, .string k.t, .slice k.la k.ll k.lc, .slice k.fa k.fl k.fc] 28)).heap[w.heap.size]? = some (.cells #[.int .i64 sn, .int .i64 st, .slice a sl sc] 55) from heapAlloc _ (heapAlloc _ (heap_alloc_new w _)))
  have HG2 := hid (show (((w.alloc (.cells #[.int .i64 sn, .int .i64 st, .slice a sl sc] 55)).alloc (.cells #[.int .i64 x.k.k, .int .i64 x.k.i, .int .i64 x.k.s, .string x.k.t, .slice x.k.la x.k.ll x.k.lc, .slice x.k.fa x.k.fl x.k.fc, .int .i64 x.n, .int .i64 x.t, .slice x.ia x.il x.ic, .slice x.va x.vl x.vc] 58)).alloc (.cells #[.int .i64 k.k, .int .i64 k.i, .int .i64 k.s, .string k.t, .slice k.la k.ll k.lc, .slice k.fa k.fl k.fc] 28)).heap[w.heap.size + 1]? = some (.cells #[.int .i64 x.k.k, .int .i64 x.k.i, .int .i64 x.k.s, .string x.k.t, .slice x.k.la x.k.ll x.k.lc, .slice x.k.fa x.k.fl x.k.fc, .int .i64 x.n, .int .i64 x.t, .slice x.ia x.il x.ic, .slice x.va x.vl x.vc] 58) from heapAlloc _ (heapNewAt _ _ _ (by simp)))
  have HG3 := hid (show (((w.alloc (.cells #[.int .i64 sn, .int .i64 st, .slice a sl sc] 55)).alloc (.cells #[.int .i64 x.k.k, .int .i64 x.k.i, .int .i64 x.k.s, .string x.k.t, .slice x.k.la x.k.ll x.k.lc, .slice x.k.fa x.k.fl x.k.fc, .int .i64 x.n, .int .i64 x.t, .slice x.ia x.il x.ic, .slice x.va x.vl x.vc] 58)).alloc (.cells #[.int .i64 k.k, .int .i64 k.i, .int .i64 k.s, .string k.t, .slice k.la k.ll k.lc, .slice k.fa k.fl k.fc] 28)).heap[w.heap.size + 2]? = some (.cells #[.int .i64 k.k, .int .i64 k.i, .int .i64 k.s, .string k.t, .slice k.la k.ll k.lc, .slice k.fa k.fl k.fc] 28) from heapNewAt _ _ _ (by simp))
  have HT := hid hT
  have HD := hid hd
  have HXD := hid hx
  have HKD := hid hk
  have HBX : Hid (∀ w', Below (((w.alloc (.cells #[.int .i64 sn, .int .i64 st, .slice a sl sc] 55)).alloc (.cells #[.int .i64 x.k.k, .int .i64 x.k.i, .int .i64 x.k.s, .string x.k.t, .slice x.k.la x.k.ll x.k.lc, .slice x.k.fa x.k.fl x.k.fc, .int .i64 x.n, .int .i64 x.t, .slice x.ia x.il x.ic, .slice x.va x.vl x.vc] 58)).alloc (.cells #[.int .i64 k.k, .int .i64 k.i, .int .i64 k.s, .string k.t, .slice k.la k.ll k.lc, .slice k.fa k.fl k.fc] 28)).heap.size (((w.alloc (.cells #[.int .i64 sn, .int .i64 st, .slice a sl sc] 55)).alloc (.cells #[.int .i64 x.k.k, .int .i64 x.k.i, .int .i64 x.k.s, .string x.k.t, .slice x.k.la x.k.ll x.k.lc, .slice x.k.fa x.k.fl x.k.fc, .int .i64 x.n, .int .i64 x.t, .slice x.ia x.il x.ic, .slice x.va x.vl x.vc] 58)).alloc (.cells #[.int .i64 k.k, .int .i64 k.i, .int .i64 k.s, .string k.t, .slice k.la k.ll k.lc, .slice k.fa k.fl k.fc] 28)) w' → (w'.cell? ⟨w.heap.size, 0, none⟩ = some (.int .i64 sn) ∧ w'.cell? ⟨w.heap.size, 1, none⟩ = some (.int .i64 st) ∧ w'.cell? ⟨w.heap.size, 2, none⟩ = some (.slice a sl sc)) ∧ (w'.cell? ⟨w.heap.size + 1, 0, none⟩ = some (.int .i64 x.k.k) ∧ w'.cell? ⟨w.heap.size + 1, 1, none⟩ = some (.int .i64 x.k.i) ∧ w'.cell? ⟨w.heap.size + 1, 2, none⟩ = some (.int .i64 x.k.s) ∧ w'.cell? ⟨w.heap.size + 1, 3, none⟩ = some (.string x.k.t) ∧ w'.cell? ⟨w.heap.size + 1, 4, none⟩ = some (.slice x.k.la x.k.ll x.k.lc) ∧ w'.cell? ⟨w.heap.size + 1, 5, none⟩ = some (.slice x.k.fa x.k.fl x.k.fc) ∧ w'.cell? ⟨w.heap.size + 1, 6, none⟩ = some (.int .i64 x.n) ∧ w'.cell? ⟨w.heap.size + 1, 7, none⟩ = some (.int .i64 x.t) ∧ w'.cell? ⟨w.heap.size + 1, 8, none⟩ = some (.slice x.ia x.il x.ic) ∧ w'.cell? ⟨w.heap.size + 1, 9, none⟩ = some (.slice x.va x.vl x.vc)) ∧ (w'.cell? ⟨w.heap.size + 2, 0, none⟩ = some (.int .i64 k.k) ∧ w'.cell? ⟨w.heap.size + 2, 1, none⟩ = some (.int .i64 k.i) ∧ w'.cell? ⟨w.heap.size + 2, 2, none⟩ = some (.int .i64 k.s) ∧ w'.cell? ⟨w.heap.size + 2, 3, none⟩ = some (.string k.t) ∧ w'.cell? ⟨w.heap.size + 2, 4, none⟩ = some (.slice k.la k.ll k.lc) ∧ w'.cell? ⟨w.heap.size + 2, 5, none⟩ = some (.slice k.fa k.fl k.fc))) := hid fun w' h => by
    have h1 := heapExt h HG.out
    have h2 := heapExt h HG2.out
    have h3 := heapExt h HG3.out
    exact ⟨⟨cellOf h1 0, cellOf h1 1, cellOf h1 2⟩, ⟨cellOf h2 0, cellOf h2 1, cellOf h2 2, cellOf h2 3, cellOf h2 4, cellOf h2 5, cellOf h2 6, cellOf h2 7, cellOf h2 8, cellOf h2 9⟩, cellOf h3 0, cellOf h3 1, cellOf h3 2, cellOf h3 3, cellOf h3 4, cellOf h3 5⟩
  have HUA : Hid (∀ w', Below (((w.alloc (.cells #[.int .i64 sn, .int .i64 st, .slice a sl sc] 55)).alloc (.cells #[.int .i64 x.k.k, .int .i64 x.k.i, .int .i64 x.k.s, .string x.k.t, .slice x.k.la x.k.ll x.k.lc, .slice x.k.fa x.k.fl x.k.fc, .int .i64 x.n, .int .i64 x.t, .slice x.ia x.il x.ic, .slice x.va x.vl x.vc] 58)).alloc (.cells #[.int .i64 k.k, .int .i64 k.i, .int .i64 k.s, .string k.t, .slice k.la k.ll k.lc, .slice k.fa k.fl k.fc] 28)).heap.size (((w.alloc (.cells #[.int .i64 sn, .int .i64 st, .slice a sl sc] 55)).alloc (.cells #[.int .i64 x.k.k, .int .i64 x.k.i, .int .i64 x.k.s, .string x.k.t, .slice x.k.la x.k.ll x.k.lc, .slice x.k.fa x.k.fl x.k.fc, .int .i64 x.n, .int .i64 x.t, .slice x.ia x.il x.ic, .slice x.va x.vl x.vc] 58)).alloc (.cells #[.int .i64 k.k, .int .i64 k.i, .int .i64 k.s, .string k.t, .slice k.la k.ll k.lc, .slice k.fa k.fl k.fc] 28)) w' → Below w.heap.size w w' ∧ IsSta (· < w'.heap.size) w' ⟨sn, st, a, sl, sc⟩ d ∧ IsSl (· < w'.heap.size) w' x dx ∧ IsVal (· < w'.heap.size) w' k kd) := hid fun w' h => by
    have hw := HA.out.trans (h.mono HA.out.size)
    have hs := hw.size
    exact ⟨hw, HD.out.same fun b q => ⟨by omega, hw.block b q⟩, HXD.out.same fun b q => ⟨by omega, hw.block b q⟩, HKD.out.same fun b q => ⟨by omega, hw.block b q⟩⟩
  obtain ⟨cs0, hcl0, hc0, hel0⟩ := IsRow.cl hd.l
  have HCL := hid hcl0
  have HEL0 := hid hel0
  have HC00 := hid hc0
  have HCS : Hid (∀ w', Below (((w.alloc (.cells #[.int .i64 sn, .int .i64 st, .slice a sl sc] 55)).alloc (.cells #[.int .i64 x.k.k, .int .i64 x.k.i, .int .i64 x.k.s, .string x.k.t, .slice x.k.la x.k.ll x.k.lc, .slice x.k.fa x.k.fl x.k.fc, .int .i64 x.n, .int .i64 x.t, .slice x.ia x.il x.ic, .slice x.va x.vl x.vc] 58)).alloc (.cells #[.int .i64 k.k, .int .i64 k.i, .int .i64 k.s, .string k.t, .slice k.la k.ll k.lc, .slice k.fa k.fl k.fc] 28)).heap.size (((w.alloc (.cells #[.int .i64 sn, .int .i64 st, .slice a sl sc] 55)).alloc (.cells #[.int .i64 x.k.k, .int .i64 x.k.i, .int .i64 x.k.s, .string x.k.t, .slice x.k.la x.k.ll x.k.lc, .slice x.k.fa x.k.fl x.k.fc, .int .i64 x.n, .int .i64 x.t, .slice x.ia x.il x.ic, .slice x.va x.vl x.vc] 58)).alloc (.cells #[.int .i64 k.k, .int .i64 k.i, .int .i64 k.s, .string k.t, .slice k.la k.ll k.lc, .slice k.fa k.fl k.fc] 28)) w' → Cl slK w' a sl cs0) := hid fun w' h => HC00.out.ext (HUA.out w' h).1
  have HCD : Hid (∀ w', Below (((w.alloc (.cells #[.int .i64 sn, .int .i64 st, .slice a sl sc] 55)).alloc (.cells #[.int .i64 x.k.k, .int .i64 x.k.i, .int .i64 x.k.s, .string x.k.t, .slice x.k.la x.k.ll x.k.lc, .slice x.k.fa x.k.fl x.k.fc, .int .i64 x.n, .int .i64 x.t, .slice x.ia x.il x.ic, .slice x.va x.vl x.vc] 58)).alloc (.cells #[.int .i64 k.k, .int .i64 k.i, .int .i64 k.s, .string k.t, .slice k.la k.ll k.lc, .slice k.fa k.fl k.fc] 28)).heap.size (((w.alloc (.cells #[.int .i64 sn, .int .i64 st, .slice a sl sc] 55)).alloc (.cells #[.int .i64 x.k.k, .int .i64 x.k.i, .int .i64 x.k.s, .string x.k.t, .slice x.k.la x.k.ll x.k.lc, .slice x.k.fa x.k.fl x.k.fc, .int .i64 x.n, .int .i64 x.t, .slice x.ia x.il x.ic, .slice x.va x.vl x.vc] 58)).alloc (.cells #[.int .i64 k.k, .int .i64 k.i, .int .i64 k.s, .string k.t, .slice k.la k.ll k.lc, .slice k.fa k.fl k.fc] 28)) w' → ∀ j (h1 : j < cs0.length) (h2 : j < d.l.length), IsSl (· < w.heap.size) w' cs0[j] d.l[j]) := hid fun w' h j h1 h2 => (HEL0.out j h1 h2).same fun b q => ⟨q, (HUA.out w' h).1.block b q⟩
  have HK : Hid (∀ w', Below (((w.alloc (.cells #[.int .i64 sn, .int .i64 st, .slice a sl sc] 55)).alloc (.cells #[.int .i64 x.k.k, .int .i64 x.k.i, .int .i64 x.k.s, .string x.k.t, .slice x.k.la x.k.ll x.k.lc, .slice x.k.fa x.k.fl x.k.fc, .int .i64 x.n, .int .i64 x.t, .slice x.ia x.il x.ic, .slice x.va x.vl x.vc] 58)).alloc (.cells #[.int .i64 k.k, .int .i64 k.i, .int .i64 k.s, .string k.t, .slice k.la k.ll k.lc, .slice k.fa k.fl k.fc] 28)).heap.size (((w.alloc (.cells #[.int .i64 sn, .int .i64 st, .slice a sl sc] 55)).alloc (.cells #[.int .i64 x.k.k, .int .i64 x.k.i, .int .i64 x.k.s, .string x.k.t, .slice x.k.la x.k.ll x.k.lc, .slice x.k.fa x.k.fl x.k.fc, .int .i64 x.n, .int .i64 x.t, .slice x.ia x.il x.ic, .slice x.va x.vl x.vc] 58)).alloc (.cells #[.int .i64 k.k, .int .i64 k.i, .int .i64 k.s, .string k.t, .slice k.la k.ll k.lc, .slice k.fa k.fl k.fc] 28)) w' → Calls Tryz.prog 29 #[] w' fun e w2 => e = .returned (.bool true) ∧ Below w'.heap.size w' w2) := hid fun w' h => knownS_call w' (HT.out.below (HUA.out w' h).1)
  have HSM : Hid (∀ w', Below (((w.alloc (.cells #[.int .i64 sn, .int .i64 st, .slice a sl sc] 55)).alloc (.cells #[.int .i64 x.k.k, .int .i64 x.k.i, .int .i64 x.k.s, .string x.k.t, .slice x.k.la x.k.ll x.k.lc, .slice x.k.fa x.k.fl x.k.fc, .int .i64 x.n, .int .i64 x.t, .slice x.ia x.il x.ic, .slice x.va x.vl x.vc] 58)).alloc (.cells #[.int .i64 k.k, .int .i64 k.i, .int .i64 k.s, .string k.t, .slice k.la k.ll k.lc, .slice k.fa k.fl k.fc] 28)).heap.size (((w.alloc (.cells #[.int .i64 sn, .int .i64 st, .slice a sl sc] 55)).alloc (.cells #[.int .i64 x.k.k, .int .i64 x.k.i, .int .i64 x.k.s, .string x.k.t, .slice x.k.la x.k.ll x.k.lc, .slice x.k.fa x.k.fl x.k.fc, .int .i64 x.n, .int .i64 x.t, .slice x.ia x.il x.ic, .slice x.va x.vl x.vc] 58)).alloc (.cells #[.int .i64 k.k, .int .i64 k.i, .int .i64 k.s, .string k.t, .slice k.la k.ll k.lc, .slice k.fa k.fl k.fc] 28)) w' → Calls Tryz.prog 30 #[.agg #[.int .i64 sn, .int .i64 st, .slice a sl sc]] w' (SmStPost d w')) := hid fun w' h => smallSta_call ⟨sn, st, a, sl, sc⟩ d w' (HUA.out w' h).2.1
  have HSS : Hid (∀ w', Below (((w.alloc (.cells #[.int .i64 sn, .int .i64 st, .slice a sl sc] 55)).alloc (.cells #[.int .i64 x.k.k, .int .i64 x.k.i, .int .i64 x.k.s, .string x.k.t, .slice x.k.la x.k.ll x.k.lc, .slice x.k.fa x.k.fl x.k.fc, .int .i64 x.n, .int .i64 x.t, .slice x.ia x.il x.ic, .slice x.va x.vl x.vc] 58)).alloc (.cells #[.int .i64 k.k, .int .i64 k.i, .int .i64 k.s, .string k.t, .slice k.la k.ll k.lc, .slice k.fa k.fl k.fc] 28)).heap.size (((w.alloc (.cells #[.int .i64 sn, .int .i64 st, .slice a sl sc] 55)).alloc (.cells #[.int .i64 x.k.k, .int .i64 x.k.i, .int .i64 x.k.s, .string x.k.t, .slice x.k.la x.k.ll x.k.lc, .slice x.k.fa x.k.fl x.k.fc, .int .i64 x.n, .int .i64 x.t, .slice x.ia x.il x.ic, .slice x.va x.vl x.vc] 58)).alloc (.cells #[.int .i64 k.k, .int .i64 k.i, .int .i64 k.s, .string k.t, .slice k.la k.ll k.lc, .slice k.fa k.fl k.fc] 28)) w' → Calls Tryz.prog 50 #[.agg #[.int .i64 x.k.k, .int .i64 x.k.i, .int .i64 x.k.s, .string x.k.t, .slice x.k.la x.k.ll x.k.lc, .slice x.k.fa x.k.fl x.k.fc, .int .i64 x.n, .int .i64 x.t, .slice x.ia x.il x.ic, .slice x.va x.vl x.vc]] w' (SmSlPost dx w')) := hid fun w' h => smallSlot_call x dx w' (HUA.out w' h).2.2.1
  have HSV : Hid (∀ w', Below (((w.alloc (.cells #[.int .i64 sn, .int .i64 st, .slice a sl sc] 55)).alloc (.cells #[.int .i64 x.k.k, .int .i64 x.k.i, .int .i64 x.k.s, .string x.k.t, .slice x.k.la x.k.ll x.k.lc, .slice x.k.fa x.k.fl x.k.fc, .int .i64 x.n, .int .i64 x.t, .slice x.ia x.il x.ic, .slice x.va x.vl x.vc] 58)).alloc (.cells #[.int .i64 k.k, .int .i64 k.i, .int .i64 k.s, .string k.t, .slice k.la k.ll k.lc, .slice k.fa k.fl k.fc] 28)).heap.size (((w.alloc (.cells #[.int .i64 sn, .int .i64 st, .slice a sl sc] 55)).alloc (.cells #[.int .i64 x.k.k, .int .i64 x.k.i, .int .i64 x.k.s, .string x.k.t, .slice x.k.la x.k.ll x.k.lc, .slice x.k.fa x.k.fl x.k.fc, .int .i64 x.n, .int .i64 x.t, .slice x.ia x.il x.ic, .slice x.va x.vl x.vc] 58)).alloc (.cells #[.int .i64 k.k, .int .i64 k.i, .int .i64 k.s, .string k.t, .slice k.la k.ll k.lc, .slice k.fa k.fl k.fc] 28)) w' → Calls Tryz.prog 33 #[.agg #[.int .i64 k.k, .int .i64 k.i, .int .i64 k.s, .string k.t, .slice k.la k.ll k.lc, .slice k.fa k.fl k.fc]] w' (SomeB w')) := hid fun w' h => smallV_call k kd w' (HUA.out w' h).2.2.2
  have HSO : Hid (∀ w', Below (((w.alloc (.cells #[.int .i64 sn, .int .i64 st, .slice a sl sc] 55)).alloc (.cells #[.int .i64 x.k.k, .int .i64 x.k.i, .int .i64 x.k.s, .string x.k.t, .slice x.k.la x.k.ll x.k.lc, .slice x.k.fa x.k.fl x.k.fc, .int .i64 x.n, .int .i64 x.t, .slice x.ia x.il x.ic, .slice x.va x.vl x.vc] 58)).alloc (.cells #[.int .i64 k.k, .int .i64 k.i, .int .i64 k.s, .string k.t, .slice k.la k.ll k.lc, .slice k.fa k.fl k.fc] 28)).heap.size (((w.alloc (.cells #[.int .i64 sn, .int .i64 st, .slice a sl sc] 55)).alloc (.cells #[.int .i64 x.k.k, .int .i64 x.k.i, .int .i64 x.k.s, .string x.k.t, .slice x.k.la x.k.ll x.k.lc, .slice x.k.fa x.k.fl x.k.fc, .int .i64 x.n, .int .i64 x.t, .slice x.ia x.il x.ic, .slice x.va x.vl x.vc] 58)).alloc (.cells #[.int .i64 k.k, .int .i64 k.i, .int .i64 k.s, .string k.t, .slice k.la k.ll k.lc, .slice k.fa k.fl k.fc] 28)) w' → Calls Tryz.prog 34 #[.agg #[.int .i64 sn, .int .i64 st, .slice a sl sc]] w' (SrtPost w' d.l)) := hid fun w' h => sorted_call ⟨sn, st, a, sl, sc⟩ d w' (HUA.out w' h).2.1
  clear hd hx hk hT hcl0 hc0 hel0
  obtain ⟨⟨k0, k1, k2⟩, ⟨x0, x1, x2, x3, x4, x5, x6, x7, x8, x9⟩, ⟨v0, v1, v2, v3, v4, v5⟩⟩ := HBX.out _ (Below.refl _ _)
  dsimp only [StC.v, SlC.v, VC.v]
  go_enter Tryz.func13, Tryz.ntmps13
  go_upto_region 3 with (first
    | (go_at_call 29; refine (HK.out _ hb6).mono ?_; rintro e w9 ⟨rfl, hb9⟩; have hbz := hb6.trans (hb9.mono hb6.size))
    | (go_at_call 29; refine (HK.out _ hb5).mono ?_; rintro e w9 ⟨rfl, hb9⟩; have hbz := hb5.trans (hb9.mono hb5.size))
    | (go_at_call 29; refine (HK.out _ hb4).mono ?_; rintro e w9 ⟨rfl, hb9⟩; have hbz := hb4.trans (hb9.mono hb4.size))
    | (go_at_call 29; refine (HK.out _ hb3).mono ?_; rintro e w9 ⟨rfl, hb9⟩; have hbz := hb3.trans (hb9.mono hb3.size))
    | (go_at_call 34; refine (HSO.out _ hb5).mono ?_; rintro e w6 ⟨⟨b4, rfl, hs3, _⟩, hb6'⟩; have hb6 := hb5.trans (hb6'.mono hb5.size); clear k0 k1 k2 x0 x1 x2 x3 x4 x5 x6 x7 x8 x9 v0 v1 v2 v3 v4 v5; obtain ⟨⟨k0, k1, k2⟩, ⟨x0, x1, x2, x3, x4, x5, x6, x7, x8, x9⟩, ⟨v0, v1, v2, v3, v4, v5⟩⟩ := HBX.out _ (hb6); cases b4)
    | (go_at_call 33; refine (HSV.out _ hb4).mono ?_; rintro e w5 ⟨⟨b3, rfl⟩, hb5'⟩; have hb5 := hb4.trans (hb5'.mono hb4.size); clear k0 k1 k2 x0 x1 x2 x3 x4 x5 x6 x7 x8 x9 v0 v1 v2 v3 v4 v5; obtain ⟨⟨k0, k1, k2⟩, ⟨x0, x1, x2, x3, x4, x5, x6, x7, x8, x9⟩, ⟨v0, v1, v2, v3, v4, v5⟩⟩ := HBX.out _ (hb5); cases b3)
    | (go_at_call 50; refine (HSS.out _ hb3).mono ?_; rintro e w4 ⟨⟨b2, rfl, _⟩, hb4'⟩; have hb4 := hb3.trans (hb4'.mono hb3.size); clear k0 k1 k2 x0 x1 x2 x3 x4 x5 x6 x7 x8 x9 v0 v1 v2 v3 v4 v5; obtain ⟨⟨k0, k1, k2⟩, ⟨x0, x1, x2, x3, x4, x5, x6, x7, x8, x9⟩, ⟨v0, v1, v2, v3, v4, v5⟩⟩ := HBX.out _ (hb4); cases b2)
    | (go_at_call 30; refine (HSM.out _ hb2).mono ?_; rintro e w3 ⟨⟨b1, rfl, hs1⟩, hb3'⟩; have hb3 := hb2.trans (hb3'.mono hb2.size); clear k0 k1 k2 x0 x1 x2 x3 x4 x5 x6 x7 x8 x9 v0 v1 v2 v3 v4 v5; obtain ⟨⟨k0, k1, k2⟩, ⟨x0, x1, x2, x3, x4, x5, x6, x7, x8, x9⟩, ⟨v0, v1, v2, v3, v4, v5⟩⟩ := HBX.out _ (hb3); cases b1)
    | (go_at_call 29; refine (HK.out _ (Below.refl _ _)).mono ?_; rintro e w2 ⟨rfl, hb2⟩; clear k0 k1 k2 x0 x1 x2 x3 x4 x5 x6 x7 x8 x9 v0 v1 v2 v3 v4 v5; obtain ⟨⟨k0, k1, k2⟩, ⟨x0, x1, x2, x3, x4, x5, x6, x7, x8, x9⟩, ⟨v0, v1, v2, v3, v4, v5⟩⟩ := HBX.out _ (hb2)))
  · go_ret
    exact ⟨rfl, (HUA.out _ hbz).1⟩
  · go_ret
    exact ⟨rfl, (HUA.out _ hbz).1⟩
  · go_ret
    exact ⟨rfl, (HUA.out _ hbz).1⟩
  · go_ret
    exact ⟨rfl, (HUA.out _ hbz).1⟩
  have hsrt : Srt d.l := by first | exact hs3 rfl | exact hs3 trivial | exact hs3
  have hsm : SmSta d := by first | exact hs1 rfl | exact hs1 trivial | exact hs1
  have hsl10 : sl ≤ 10 := by have h1 := hsm.1; have h2 := HL.out; omega
  have HSRT := hid hsrt
  clear HK HSM HSS HSV HSO hs1 hb3' hb4' hb5' hb6' hb2 hb3 hb4 hb5 hs3 hsm hsrt
  obtain ⟨pi, hpi⟩ : ∃ p, p = placeI d.l kd := ⟨_, rfl⟩
  obtain ⟨pb, hpb⟩ : ∃ p, p = placeB d.l kd := ⟨_, rfl⟩
  have HPI := hid hpi
  have HPLC : Hid (∀ w', Below (((w.alloc (.cells #[.int .i64 sn, .int .i64 st, .slice a sl sc] 55)).alloc (.cells #[.int .i64 x.k.k, .int .i64 x.k.i, .int .i64 x.k.s, .string x.k.t, .slice x.k.la x.k.ll x.k.lc, .slice x.k.fa x.k.fl x.k.fc, .int .i64 x.n, .int .i64 x.t, .slice x.ia x.il x.ic, .slice x.va x.vl x.vc] 58)).alloc (.cells #[.int .i64 k.k, .int .i64 k.i, .int .i64 k.s, .string k.t, .slice k.la k.ll k.lc, .slice k.fa k.fl k.fc] 28)).heap.size (((w.alloc (.cells #[.int .i64 sn, .int .i64 st, .slice a sl sc] 55)).alloc (.cells #[.int .i64 x.k.k, .int .i64 x.k.i, .int .i64 x.k.s, .string x.k.t, .slice x.k.la x.k.ll x.k.lc, .slice x.k.fa x.k.fl x.k.fc, .int .i64 x.n, .int .i64 x.t, .slice x.ia x.il x.ic, .slice x.va x.vl x.vc] 58)).alloc (.cells #[.int .i64 k.k, .int .i64 k.i, .int .i64 k.s, .string k.t, .slice k.la k.ll k.lc, .slice k.fa k.fl k.fc] 28)) w' → Calls Tryz.prog 37 #[.agg #[.int .i64 sn, .int .i64 st, .slice a sl sc], .agg #[.int .i64 k.k, .int .i64 k.i, .int .i64 k.s, .string k.t, .slice k.la k.ll k.lc, .slice k.fa k.fl k.fc]] w' fun e w2 => e = .returned (.tuple #[.int .i64 (pi : Nat), .bool pb]) ∧ Below w'.heap.size w' w2) := hid fun w' h => by
    have hc := place_call ⟨sn, st, a, sl, sc⟩ d k kd w' (HUA.out w' h).2.1 (HUA.out w' h).2.2.2
    exact hc.mono fun e w2 h => ⟨h.1.trans (by rw [← hpi, ← hpb]), h.2⟩
  clear hpi
  cases pb with
  | true =>
    have HPB := hid hpb.symm
    clear hpb
    have hplt : pi < sl := by have := placeB_lt HPB.out; have := HPI.out; have := HL.out; omega
    have hpi0 : (0 : Int) ≤ (pi : Int) := by omega
    have hplc : (pi : Int) ≤ (sc : Int) := by have := HCAP.out; omega
    have hpq0 : (0 : Int) ≤ (pi : Int) + 1 := by omega
    have hpq1 : (pi : Int) + 1 ≤ (sl : Int) := by omega
    have hpqt : ((pi : Int) + 1).toNat = pi + 1 := by omega
    have hpqw : IntKind.i64.wrap ((pi : Int) + 1) = (pi : Int) + 1 := IntWalk.i64_in _ (by omega)
    have HPL := hid (show pi ≤ sl by omega)
    obtain ⟨b, o, hab, hb, _⟩ := HD.out.l.slot (show 0 < sl by omega)
    subst hab
    have HRC : Hid (Calls Tryz.prog 53 #[.agg #[.int .i64 sn, .int .i64 st, .slice (some ⟨b, o, none⟩) sl sc], .agg #[.int .i64 k.k, .int .i64 k.i, .int .i64 k.s, .string k.t, .slice k.la k.ll k.lc, .slice k.fa k.fl k.fc]] w6 (RemPost w6 d kd)) := hid (remT_call ⟨sn, st, some ⟨b, o, none⟩, sl, sc⟩ d k kd w6 HSRT.out (HUA.out _ hb6).2.1 (HUA.out _ hb6).2.2.2 HPB.out (by have := HL.out; omega))
    go_upto_region 8 with (first
      | (go_at_call 37; refine (HPLC.out _ hb8).mono ?_; rintro e wp ⟨rfl, hbp⟩; have hbp' := hb8.trans (hbp.mono hb8.size); clear k0 k1 k2 x0 x1 x2 x3 x4 x5 x6 x7 x8 x9 v0 v1 v2 v3 v4 v5; obtain ⟨⟨k0, k1, k2⟩, ⟨x0, x1, x2, x3, x4, x5, x6, x7, x8, x9⟩, ⟨v0, v1, v2, v3, v4, v5⟩⟩ := HBX.out _ (hbp'))
      | (go_at_call 53; refine HRC.out.mono ?_; rintro e w7 ⟨cr, rfl, hb7, hir⟩; have HIR := hid hir; have HB7 := hid hb7; have hb7' := hb6.trans (hb7.mono hb6.size); have hb8 := hb7'.alloc hb7'.size (.cells #[.int .i64 cr.n, .int .i64 cr.t, .slice cr.a cr.l cr.c] 55); clear hir hb7; clear k0 k1 k2 x0 x1 x2 x3 x4 x5 x6 x7 x8 x9 v0 v1 v2 v3 v4 v5; obtain ⟨⟨k0, k1, k2⟩, ⟨x0, x1, x2, x3, x4, x5, x6, x7, x8, x9⟩, ⟨v0, v1, v2, v3, v4, v5⟩⟩ := HBX.out _ (hb8)))
    clear k0 k1 k2 x0 x1 x2 x3 x4 x5 x6 x7 x8 x9 v0 v1 v2 v3 v4 v5
    have H7V := hid (show wp.heap[w7.heap.size]? = some (.cells #[.int .i64 cr.n, .int .i64 cr.t, .slice cr.a cr.l cr.c] 55) from heapExt hbp (heap_alloc_new w7 _))
    have H7B := hid (show Below w7.heap.size w7 wp from ((Below.refl _ w7).alloc (Nat.le_refl _) _).trans (hbp.mono (by simp)))
    have HVA := hid (show Below (((w.alloc (.cells #[.int .i64 sn, .int .i64 st, .slice (some ⟨b, o, none⟩) sl sc] 55)).alloc (.cells #[.int .i64 x.k.k, .int .i64 x.k.i, .int .i64 x.k.s, .string x.k.t, .slice x.k.la x.k.ll x.k.lc, .slice x.k.fa x.k.fl x.k.fc, .int .i64 x.n, .int .i64 x.t, .slice x.ia x.il x.ic, .slice x.va x.vl x.vc] 58)).alloc (.cells #[.int .i64 k.k, .int .i64 k.i, .int .i64 k.s, .string k.t, .slice k.la k.ll k.lc, .slice k.fa k.fl k.fc] 28)).heap.size (((w.alloc (.cells #[.int .i64 sn, .int .i64 st, .slice (some ⟨b, o, none⟩) sl sc] 55)).alloc (.cells #[.int .i64 x.k.k, .int .i64 x.k.i, .int .i64 x.k.s, .string x.k.t, .slice x.k.la x.k.ll x.k.lc, .slice x.k.fa x.k.fl x.k.fc, .int .i64 x.n, .int .i64 x.t, .slice x.ia x.il x.ic, .slice x.va x.vl x.vc] 58)).alloc (.cells #[.int .i64 k.k, .int .i64 k.i, .int .i64 k.s, .string k.t, .slice k.la k.ll k.lc, .slice k.fa k.fl k.fc] 28)) wp from hbp')
    clear hbp hbp' hb7' hb8
    obtain ⟨wv, hwv⟩ : ∃ u, u = wp := ⟨_, rfl⟩
    rw [← hwv] at H7V H7B HVA ⊢
    clear hwv
    have HSRV : Hid (∀ w', Below wv.heap.size wv w' → IsSta (· < w'.heap.size) w' cr ⟨d.n, d.t, delL d.l kd⟩) := hid fun w' h => HIR.out.same fun b q => ⟨by have := H7B.out.size; have := h.size; omega, (h.block b (by have := H7B.out.size; omega)).trans (H7B.out.block b q.2)⟩
    have HWS := hid (show w.heap.size ≤ wv.heap.size from (HUA.out _ HVA.out).1.size)
    have HSc := hid (show Below wv.heap.size wv wv.drew from (Below.refl _ _).drew)
    have HCT : Hid (∀ w', Below wv.heap.size wv w' → w.heap.size ≤ w'.heap.size ∧ Cl slK w' (some ⟨b, o, none⟩) sl cs0 ∧ ∀ j (h1 : j < cs0.length) (h2 : j < d.l.length), IsSl (· < w.heap.size) w' cs0[j] d.l[j]) := hid fun w' h => by
      have h1 := HVA.out.trans (h.mono HVA.out.size)
      exact ⟨(HUA.out w' h1).1.size, HCS.out w' h1, HCD.out w' h1⟩
    obtain ⟨A, hA, hAc⟩ : ∃ A : Addr, (if sc = pi + 1 then (some (⟨b, o, none⟩ : Addr)) else some ⟨b, o + (pi + 1) * 10, none⟩) = some A ∧ Hid (∀ w', Below wv.heap.size wv w' → Cl slK w' (some A) (sl - (pi + 1)) (cs0.drop (pi + 1))) := by
      by_cases h : sc = pi + 1
      · refine ⟨⟨b, o, none⟩, by rw [if_pos h], fun w' hw => ⟨by rw [List.length_drop, HCL.out], .inl (by have := HCAP.out; omega)⟩⟩
      · refine ⟨⟨b, o + (pi + 1) * 10, none⟩, by rw [if_neg h], fun w' hw => cl_drop (HCT.out w' hw).2.1 (pi + 1) (by omega)⟩
    have HC8 : Hid (∀ w', Below wv.heap.size wv w' → (w'.cell? ⟨w.heap.size, 0, none⟩ = some (.int .i64 sn) ∧ w'.cell? ⟨w.heap.size, 1, none⟩ = some (.int .i64 st) ∧ w'.cell? ⟨w.heap.size, 2, none⟩ = some (.slice (some ⟨b, o, none⟩) sl sc))) := hid fun w' h => (HBX.out _ (HVA.out.trans (h.mono HVA.out.size))).1
    clear hb
    refine wp_region_split 18 (fun w' => Below wv.heap.size wv w') (by kernel_rfl) (by kernel_rfl) (by kernel_rfl) (by decide) ((Below.refl _ _).drew) (fun hS => ?_)
    simp only [List.take_succ_cons, List.take_zero, List.drop_succ_cons, List.drop_zero]
    refine wpAnyH_take (i := 0) (oi := _) (v := ?_) rfl (by kernel_rfl) (by kernel_rfl) (by kernel_rfl) (fun _ _ _ h => h) (Or.inl ⟨by rfl, ?_⟩) hS ?_
    rotate_left
    · intro w' hw'
      have hcells := HC8.out w' hw'
      go_simp
      (try with_reducible rfl)
    simp only [Act.put, List.getElem_toArray, List.getElem_cons_succ, List.getElem_cons_zero, List.setIfInBounds_toArray, List.set_cons_zero, List.set_cons_succ]
    refine wpAnyH_take (i := 1) (oi := _) (v := ?_) rfl (by kernel_rfl) (by kernel_rfl) (by kernel_rfl) (fun _ _ _ h => h) (Or.inl ⟨by rfl, ?_⟩) hS ?_
    rotate_left
    · intro w' hw'
      have hcells := HC8.out w' hw'
      go_simp
      (try with_reducible rfl)
    simp only [Act.put, List.getElem_toArray, List.getElem_cons_succ, List.getElem_cons_zero, List.setIfInBounds_toArray, List.set_cons_zero, List.set_cons_succ]
    refine wpAnyH_take (i := 2) (oi := _) (v := ?_) rfl (by kernel_rfl) (by kernel_rfl) (by kernel_rfl) (fun _ _ _ h => h) (Or.inl ⟨by rfl, ?_⟩) hS ?_
    rotate_left
    · intro w' hw'
      have hcells := HC8.out w' hw'
      go_simp
      (try with_reducible rfl)
    simp only [Act.put, List.getElem_toArray, List.getElem_cons_succ, List.getElem_cons_zero, List.setIfInBounds_toArray, List.set_cons_zero, List.set_cons_succ]
    refine wpAnyH_take (i := 3) (oi := _) (v := ?_) rfl (by kernel_rfl) (by kernel_rfl) (by kernel_rfl) (fun _ _ _ h => h) (Or.inl ⟨by rfl, ?_⟩) hS ?_
    rotate_left
    · intro w' hw'
      have hcells := HC8.out w' hw'
      go_simp
      (try with_reducible rfl)
    simp only [Act.put, List.getElem_toArray, List.getElem_cons_succ, List.getElem_cons_zero, List.setIfInBounds_toArray, List.set_cons_zero, List.set_cons_succ]
    refine wpAnyH_take (i := 5) (oi := _) (v := ?_) rfl (by kernel_rfl) (by kernel_rfl) (by kernel_rfl) (fun _ _ _ h => h) (Or.inl ⟨by rfl, ?_⟩) hS ?_
    rotate_left
    · intro w' hw'
      have hcells := HC8.out w' hw'
      go_simp
      (try with_reducible rfl)
    simp only [Act.put, List.getElem_toArray, List.getElem_cons_succ, List.getElem_cons_zero, List.setIfInBounds_toArray, List.set_cons_zero, List.set_cons_succ]
    refine wpAnyH_take (i := 6) (oi := _) (v := ?_) rfl (by kernel_rfl) (by kernel_rfl) (by kernel_rfl) (fun _ _ _ h => h) (Or.inl ⟨by rfl, ?_⟩) hS ?_
    rotate_left
    · intro w' hw'
      have hcells := HC8.out w' hw'
      go_simp
      (try with_reducible rfl)
    simp only [Act.put, List.getElem_toArray, List.getElem_cons_succ, List.getElem_cons_zero, List.setIfInBounds_toArray, List.set_cons_zero, List.set_cons_succ]
    refine wpAnyH_take (i := 7) (oi := _) (v := ?_) rfl (by kernel_rfl) (by kernel_rfl) (by kernel_rfl) (fun _ _ _ h => h) (Or.inl ⟨by rfl, ?_⟩) hS ?_
    rotate_left
    · intro w' hw'
      have hcells := HC8.out w' hw'
      go_simp
      (try with_reducible rfl)
    simp only [Act.put, List.getElem_toArray, List.getElem_cons_succ, List.getElem_cons_zero, List.setIfInBounds_toArray, List.set_cons_zero, List.set_cons_succ]
    refine wpAnyH_take (i := 8) (oi := _) (v := ?_) rfl (by kernel_rfl) (by kernel_rfl) (by kernel_rfl) (fun _ _ _ h => h) (Or.inl ⟨by rfl, ?_⟩) hS ?_
    rotate_left
    · intro w' hw'
      have hcells := HC8.out w' hw'
      go_simp
      (try with_reducible rfl)
    simp only [Act.put, List.getElem_toArray, List.getElem_cons_succ, List.getElem_cons_zero, List.setIfInBounds_toArray, List.set_cons_zero, List.set_cons_succ]
    refine wpAnyH_take (i := 10) (oi := _) (v := ?_) rfl (by kernel_rfl) (by kernel_rfl) (by kernel_rfl) (fun _ _ _ h => h) (Or.inl ⟨by rfl, ?_⟩) hS ?_
    rotate_left
    · intro w' hw'
      have hcells := HC8.out w' hw'
      go_simp
      (try with_reducible rfl)
    simp only [Act.put, List.getElem_toArray, List.getElem_cons_succ, List.getElem_cons_zero, List.setIfInBounds_toArray, List.set_cons_zero, List.set_cons_succ]
    refine wpAnyH_take (i := 11) (oi := _) (v := ?_) rfl (by kernel_rfl) (by kernel_rfl) (by kernel_rfl) (fun _ _ _ h => h) (Or.inl ⟨by rfl, ?_⟩) hS ?_
    rotate_left
    · intro w' hw'
      have hcells := HC8.out w' hw'
      go_simp
      (try with_reducible rfl)
    simp only [Act.put, List.getElem_toArray, List.getElem_cons_succ, List.getElem_cons_zero, List.setIfInBounds_toArray, List.set_cons_zero, List.set_cons_succ]
    refine wpAnyH_take (i := 12) (oi := _) (v := ?_) rfl (by kernel_rfl) (by kernel_rfl) (by kernel_rfl) (fun _ _ _ h => h) (Or.inl ⟨by rfl, ?_⟩) hS ?_
    rotate_left
    · intro w' hw'
      have hcells := HC8.out w' hw'
      go_simp
      (try with_reducible rfl)
    simp only [Act.put, List.getElem_toArray, List.getElem_cons_succ, List.getElem_cons_zero, List.setIfInBounds_toArray, List.set_cons_zero, List.set_cons_succ]
    refine wpAnyH_take (i := 13) (oi := _) (v := ?_) rfl (by kernel_rfl) (by kernel_rfl) (by kernel_rfl) (fun _ _ _ h => h) (Or.inl ⟨by rfl, ?_⟩) hS ?_
    rotate_left
    · intro w' hw'
      have hcells := HC8.out w' hw'
      go_simp
      (try with_reducible rfl)
    simp only [Act.put, List.getElem_toArray, List.getElem_cons_succ, List.getElem_cons_zero, List.setIfInBounds_toArray, List.set_cons_zero, List.set_cons_succ]
    refine wpAnyH_take (i := 14) (oi := _) (v := ?_) rfl (by kernel_rfl) (by kernel_rfl) (by kernel_rfl) (fun _ _ _ h => h) (Or.inl ⟨by rfl, ?_⟩) hS ?_
    rotate_left
    · intro w' hw'
      have hcells := HC8.out w' hw'
      go_simp
      (try with_reducible rfl)
    simp only [Act.put, List.getElem_toArray, List.getElem_cons_succ, List.getElem_cons_zero, List.setIfInBounds_toArray, List.set_cons_zero, List.set_cons_succ]
    refine wpAnyH_ready (rs := [4, 17]) (by kernel_rfl) (by simp) ?_
    refine AllReadyH.cons (o := _) rfl (fun K hK => ?_) ?_
    · go_simp
      obtain ⟨wE, hwE⟩ : ∃ u, u = (wv.alloc (.cells #[] 58)).drew := ⟨_, rfl⟩
      rw [← hwE]
      obtain ⟨nE, hnE⟩ : ∃ u, u = wv.heap.size := ⟨_, rfl⟩
      (try rw [← hnE])
      have hbwE : Below wv.heap.size wv wE := by rw [hwE]; exact ((Below.refl _ _).alloc (Nat.le_refl _) _).drew
      have hgnE : wv.heap.size ≤ nE := by rw [hnE]; exact Nat.le_refl _
      have HGNnE := hid hgnE
      have HSc := hid (show Below wv.heap.size wv wE from hbwE)
      have HKc := hid (show Kept slK 58 w.heap.size wE (.slice (some ⟨nE, 0, none⟩) 0 0) 0 [] by rw [hnE, hwE]; exact (Kept.made (K := slK) (T := 58) #[] 0 (HWS.out) (by unfold maxLen; omega) rfl).ext (by have h := HWS.out; simp only [World.size_alloc]; omega) ((Below.refl _ _).drew))
      have HATc := hid (show ∀ r, (Value.slice (some ⟨nE, 0, none⟩) 0 0).ownBlock = some r → wv.heap.size ≤ r from fun r e => by injection e with e; rw [← e]; exact HGNnE.out)
      clear hwE hnE hbwE hgnE
      refine hK.out _ _ (HSc.out) (fun hS => ?_)
      clear hK K
      (try simp only [Act.put, List.getElem_toArray, List.getElem_cons_succ, List.getElem_cons_zero, List.setIfInBounds_toArray, List.set_cons_zero, List.set_cons_succ])
      refine wpAnyH_ready (rs := [9, 17]) (by kernel_rfl) (by simp) ?_
      refine AllReadyH.cons (o := _) rfl (fun K hK => ?_) ?_
      · have hct := HCT.out wE HSc.out
        obtain ⟨a1, cap1, w1q, hr1, hk1, hg1, hat1⟩ := run_append_kept (K := slK) (P := Tryz.prog) (w := wE) (ty := 53) Tryz.underlying53 hi hz0 (by rw [hz1]) (by rw [hz2]; omega) rfl one_sl HKc.out sc (cl_take hct.2.1 pi HPL.out) (l2 := d.l.take pi) (by rw [List.length_take]; have := HL.out; have := HPL.out; omega) (take_els hct.2.2 pi) hct.1 (by omega)
        rw [Nat.zero_add] at hr1 hk1 hat1
        rw [List.nil_append] at hk1
        refine step_append_run (by rfl) _ _ _ (by rfl) _ _ _ _ (by rfl) (by rfl) hr1 ?_
        clear hr1 hct
        have HKc := hid hk1
        have hbg : Below wv.heap.size wE w1q := grown_below hg1 HATc.out HSc.out.size
        have HATc := hid (show ∀ r, (Value.slice a1 pi cap1).ownBlock = some r → wv.heap.size ≤ r from fun r e => (hat1 r e).elim (fun e => HATc.out r e) (fun e => by rw [e]; exact HSc.out.size))
        have HSc := hid (HSc.out.trans hbg)
        clear hbg hk1 hat1 hg1
        refine hK.out _ _ (HSc.out) (fun hS => ?_)
        clear hK K
        (try simp only [Act.put, List.getElem_toArray, List.getElem_cons_succ, List.getElem_cons_zero, List.setIfInBounds_toArray, List.set_cons_zero, List.set_cons_succ])
        refine wpAnyH_ready (rs := [15, 17]) (by kernel_rfl) (by simp) ?_
        refine AllReadyH.cons (o := _) rfl (fun K hK => ?_) ?_
        · have hct := HCT.out w1q HSc.out
          obtain ⟨a2, cap2, w2q, hr1, hk1, hg1, hat1⟩ := run_append_kept (K := slK) (P := Tryz.prog) (w := w1q) (ty := 53) Tryz.underlying53 hi hz0 (by rw [hz1]) (by rw [hz2]; omega) rfl one_sl HKc.out (sc - (pi + 1)) (hAc.out _ HSc.out) (l2 := d.l.drop (pi + 1)) (by rw [List.length_drop]; have := HL.out; omega) (drop_els hct.2.2 (pi + 1)) hct.1 (by omega)
          skip
          skip
          refine step_append_run (by rfl) _ _ _ (by rfl) _ _ _ _ (by rfl) (by rfl) hr1 ?_
          clear hr1 hct
          have HKc := hid hk1
          have hbg : Below wv.heap.size w1q w2q := grown_below hg1 HATc.out HSc.out.size
          have HATc := hid (show ∀ r, (Value.slice a2 (pi + (sl - (pi + 1))) cap2).ownBlock = some r → wv.heap.size ≤ r from fun r e => (hat1 r e).elim (fun e => HATc.out r e) (fun e => by rw [e]; exact HSc.out.size))
          have HSc := hid (HSc.out.trans hbg)
          clear hbg hk1 hat1 hg1
          refine hK.out _ _ (HSc.out) (fun hS => ?_)
          clear hK K
          (try simp only [Act.put, List.getElem_toArray, List.getElem_cons_succ, List.getElem_cons_zero, List.setIfInBounds_toArray, List.set_cons_zero, List.set_cons_succ])
          refine wpAnyH_take (i := 16) (oi := _) (v := ?_) rfl (by kernel_rfl) (by kernel_rfl) (by kernel_rfl) (fun _ _ _ h => h) (Or.inl ⟨by rfl, ?_⟩) hS ?_
          rotate_left
          · intro w' hw'
            have hcells := HC8.out w' hw'
            go_simp
            (try with_reducible rfl)
          simp only [Act.put, List.getElem_toArray, List.getElem_cons_succ, List.getElem_cons_zero, List.setIfInBounds_toArray, List.set_cons_zero, List.set_cons_succ]
          refine wpAnyH_ready (rs := [17]) (by kernel_rfl) (by simp) ?_
          refine AllReadyH.cons (o := _) rfl (fun K hK => ?_) AllReadyH.nil
          go_simp
          obtain ⟨wQ, hwQ⟩ : ∃ u, u = w2q.alloc (.cells #[.int .i64 0, .int .i64 0, .slice none 0 0] 55) := ⟨_, rfl⟩
          rw [← hwQ]
          obtain ⟨nQ, hnQ⟩ : ∃ u, u = w2q.heap.size := ⟨_, rfl⟩
          (try rw [← hnQ])
          have hbwQ : Below w2q.heap.size w2q wQ := by rw [hwQ]; exact (Below.refl _ _).alloc (Nat.le_refl _) _
          have hgnQ : wv.heap.size ≤ nQ := by rw [hnQ]; exact HSc.out.size
          have HGNnQ := hid hgnQ
          have HSc0 := HSc
          have HSc := hid (show Below wv.heap.size wv wQ from HSc.out.trans (hbwQ.mono HSc.out.size))
          have HQc := hid (show wQ.heap[nQ]? = some (.cells #[.int .i64 0, .int .i64 0, .slice none 0 0] 55) by rw [hnQ, hwQ]; exact heap_alloc_new w2q _)
          have HQ0 := HQc
          have HNQ := hid (show ∀ r, (Value.slice a2 (pi + (sl - (pi + 1))) cap2).ownBlock = some r → r ≠ nQ from fun r e => by have := (HKc.out.own r e).2; rw [hnQ]; omega)
          have HKc := hid (HKc.out.ext (Nat.le_trans HWS.out HSc0.out.size) hbwQ)
          clear hwQ hnQ hbwQ hgnQ
          refine hK.out _ _ (HSc.out) (fun hS => ?_)
          clear hK K
          (try simp only [Act.put, List.getElem_toArray, List.getElem_cons_succ, List.getElem_cons_zero, List.setIfInBounds_toArray, List.set_cons_zero, List.set_cons_succ])
          refine wpAnyH_done (by kernel_rfl) ?_ _
          (try dsimp only)
          obtain ⟨wF, hwF⟩ : ∃ u, u = wQ := ⟨_, rfl⟩
          rw [← hwF] at HSc HKc HQc ⊢
          clear hS hwF hA
          have q0 := cellOf HQc.out 0; have q1 := cellOf HQc.out 1; have q2 := cellOf HQc.out 2; have qf0 := freeOf HQc.out 0; have qf1 := freeOf HQc.out 1; have qf2 := freeOf HQc.out 2
          (try dsimp only at q0 q1 q2)
          go_upto_region 9 with (fail)
          clear q0 q1 q2 qf0 qf1 qf2
          obtain ⟨wG, hwG⟩ : ∃ u, u = ((wF.setCell ⟨nQ, 0, none⟩ (.int .i64 sn)).setCell ⟨nQ, 1, none⟩ (.int .i64 st)).setCell ⟨nQ, 2, none⟩ (.slice a2 (pi + (sl - (pi + 1))) cap2) := ⟨_, rfl⟩
          rw [← hwG]
          have HNG := hid (show wG.heap[nQ]? = some (.cells #[.int .i64 sn, .int .i64 st, .slice a2 (pi + (sl - (pi + 1))) cap2] 55) by
            rw [hwG]
            have h := heapSet (o := 2) (.slice a2 (pi + (sl - (pi + 1))) cap2) (heapSet (o := 1) (.int .i64 st) (heapSet (o := 0) (.int .i64 sn) HQc.out))
            simpa only [List.setIfInBounds_toArray, List.set_cons_zero, List.set_cons_succ] using h)
          have hgn := HGNnQ.out
          have HBG := hid (show Below wv.heap.size wv wG by rw [hwG]; exact ((HSc.out.setCell (p := ⟨nQ, 0, none⟩) hgn _).setCell (p := ⟨nQ, 1, none⟩) hgn _).setCell (p := ⟨nQ, 2, none⟩) hgn _)
          have hkg : Kept slK 58 w.heap.size wG (.slice a2 (pi + (sl - (pi + 1))) cap2) (pi + (sl - (pi + 1))) (d.l.take pi ++ d.l.drop (pi + 1)) := by
            have hw := HWS.out
            have hne : (Value.slice a2 (pi + (sl - (pi + 1))) cap2).ownBlock ≠ some nQ := fun e => HNQ.out nQ e rfl
            rw [hwG]
            exact ((HKc.out.set (⟨nQ, 0, none⟩ : Addr) _ (by dsimp only; omega) hne).set (⟨nQ, 1, none⟩ : Addr) _ (by dsimp only; omega) hne).set (⟨nQ, 2, none⟩ : Addr) _ (by dsimp only; omega) hne
          have HSG := hid (show IsSta (· < wG.heap.size) wG ⟨sn, st, a2, pi + (sl - (pi + 1)), cap2⟩ ⟨d.n, d.t, delL d.l kd⟩ by
            refine ⟨HD.out.n, HD.out.rn, HD.out.t, HD.out.rt, ?_⟩
            rw [show delL d.l kd = d.l.take pi ++ d.l.drop (pi + 1) by rw [delL, ← HPI.out]]
            exact hkg.row (Nat.le_trans HWS.out HBG.out.size) (by dsimp only; omega))
          clear hwG hgn hkg
          have HWG := hid (HVA.out.trans (HBG.out.mono HVA.out.size))
          have HC9 : Hid (∀ w', Below wG.heap.size wG w' → (w'.cell? ⟨w7.heap.size, 0, none⟩ = some (.int .i64 cr.n) ∧ w'.cell? ⟨w7.heap.size, 1, none⟩ = some (.int .i64 cr.t) ∧ w'.cell? ⟨w7.heap.size, 2, none⟩ = some (.slice cr.a cr.l cr.c)) ∧ (w'.cell? ⟨nQ, 0, none⟩ = some (.int .i64 sn) ∧ w'.cell? ⟨nQ, 1, none⟩ = some (.int .i64 st) ∧ w'.cell? ⟨nQ, 2, none⟩ = some (.slice a2 (pi + (sl - (pi + 1))) cap2))) := hid fun w' h => by
            have h1 := heapExt (HBG.out.trans (h.mono HBG.out.size)) H7V.out
            have h2 := heapExt h HNG.out
            exact ⟨⟨cellOf h1 0, cellOf h1 1, cellOf h1 2⟩, ⟨cellOf h2 0, cellOf h2 1, cellOf h2 2⟩⟩
          have HSRv : Hid (∀ w', Below wG.heap.size wG w' → IsSta (· < w'.heap.size) w' cr ⟨d.n, d.t, delL d.l kd⟩) := hid fun w' h => HSRV.out w' (HBG.out.trans (h.mono HBG.out.size))
          have HGE : Hid (∀ w', Below wG.heap.size wG w' → Calls Tryz.prog 36 #[.agg #[.int .i64 cr.n, .int .i64 cr.t, .slice cr.a cr.l cr.c], .agg #[.int .i64 k.k, .int .i64 k.i, .int .i64 k.s, .string k.t, .slice k.la k.ll k.lc, .slice k.fa k.fl k.fc]] w' fun e w2 => ∃ y : SlC, e = .returned (.tuple #[.agg #[.int .i64 y.k.k, .int .i64 y.k.i, .int .i64 y.k.s, .string y.k.t, .slice y.k.la y.k.ll y.k.lc, .slice y.k.fa y.k.fl y.k.fc, .int .i64 y.n, .int .i64 y.t, .slice y.ia y.il y.ic, .slice y.va y.vl y.vc], .bool false]) ∧ Below w'.heap.size w' w2) := hid fun w' h => by
            have hc := get_call cr ⟨d.n, d.t, delL d.l kd⟩ k kd w' (HSRv.out w' h) (HUA.out w' (HWG.out.trans (h.mono HWG.out.size))).2.2.2
            refine hc.mono fun e w2 hh => ?_
            obtain ⟨y, dy, q1, q2, _⟩ := hh
            have e1 : findB (delL d.l kd) kd = false := by rw [findB_place (delL_srt HSRT.out kd)]; exact delL_gone HSRT.out HPB.out
            dsimp only at q1
            rw [e1] at q1
            exact ⟨y, q1, q2⟩
          have HSA1 : Hid (∀ w', Below wG.heap.size wG w' → Calls Tryz.prog 41 #[.agg #[.int .i64 cr.n, .int .i64 cr.t, .slice cr.a cr.l cr.c], .agg #[.int .i64 sn, .int .i64 st, .slice a2 (pi + (sl - (pi + 1))) cap2]] w' fun e w2 => e = .returned (.bool true) ∧ Below w'.heap.size w' w2) := hid fun w' h => by
            have hc := sameSta_call cr ⟨sn, st, a2, pi + (sl - (pi + 1)), cap2⟩ _ _ w' (HSRv.out w' h) (HSG.out.same fun b q => ⟨Nat.lt_of_lt_of_le q h.size, h.block b q⟩)
            rw [staEqB_refl] at hc
            exact hc
          have HSO1 : Hid (∀ w', Below wG.heap.size wG w' → Calls Tryz.prog 34 #[.agg #[.int .i64 cr.n, .int .i64 cr.t, .slice cr.a cr.l cr.c]] w' fun e w2 => e = .returned (.bool true) ∧ Below w'.heap.size w' w2) := hid fun w' h => by
            have hc := sorted_call cr _ w' (HSRv.out w' h)
            refine hc.mono fun e w2 hh => ?_
            obtain ⟨⟨b', rfl, _, q⟩, hb⟩ := hh
            obtain rfl : b' = true := q (delL_srt HSRT.out kd)
            exact ⟨rfl, hb⟩
          obtain ⟨⟨k0, k1, k2⟩, ⟨x0, x1, x2, x3, x4, x5, x6, x7, x8, x9⟩, ⟨v0, v1, v2, v3, v4, v5⟩⟩ := HBX.out _ HWG.out
          obtain ⟨⟨u0, u1, u2⟩, ⟨m0, m1, m2⟩⟩ := HC9.out _ (Below.refl _ _)
          go_upto_region 10 with (go_at_call 36; refine (HGE.out _ (Below.refl _ _)).mono ?_; rintro e wh ⟨y, rfl, hbh⟩)
          clear k0 k1 k2 x0 x1 x2 x3 x4 x5 x6 x7 x8 x9 v0 v1 v2 v3 v4 v5 u0 u1 u2 m0 m1 m2
          obtain ⟨wi, hwi⟩ : ∃ u, u = wh.alloc (.cells #[.int .i64 y.k.k, .int .i64 y.k.i, .int .i64 y.k.s, .string y.k.t, .slice y.k.la y.k.ll y.k.lc, .slice y.k.fa y.k.fl y.k.fc, .int .i64 y.n, .int .i64 y.t, .slice y.ia y.il y.ic, .slice y.va y.vl y.vc] 58) := ⟨_, rfl⟩
          rw [← hwi]
          have HBI := hid (show Below wG.heap.size wG wi by rw [hwi]; exact hbh.alloc hbh.size _)
          clear hwi
          obtain ⟨⟨u0, u1, u2⟩, ⟨m0, m1, m2⟩⟩ := HC9.out _ HBI.out
          go_upto_region 12 with (first
            | (go_at_call 34; refine (HSO1.out _ hbj').mono ?_; rintro e wk ⟨rfl, hbk⟩; have hbk' := hbj'.trans (hbk.mono hbj'.size))
            | (go_at_call 41; refine (HSA1.out _ HBI.out).mono ?_; rintro e wj ⟨rfl, hbj⟩; have hbj' := HBI.out.trans (hbj.mono HBI.out.size); clear u0 u1 u2 m0 m1 m2; obtain ⟨⟨u0, u1, u2⟩, ⟨m0, m1, m2⟩⟩ := HC9.out _ hbj'))
          clear u0 u1 u2 m0 m1 m2
          obtain ⟨wT, hwT⟩ : ∃ u, u = wk := ⟨_, rfl⟩
          have HBT := hid (show Below (((w.alloc (.cells #[.int .i64 sn, .int .i64 st, .slice (some ⟨b, o, none⟩) sl sc] 55)).alloc (.cells #[.int .i64 x.k.k, .int .i64 x.k.i, .int .i64 x.k.s, .string x.k.t, .slice x.k.la x.k.ll x.k.lc, .slice x.k.fa x.k.fl x.k.fc, .int .i64 x.n, .int .i64 x.t, .slice x.ia x.il x.ic, .slice x.va x.vl x.vc] 58)).alloc (.cells #[.int .i64 k.k, .int .i64 k.i, .int .i64 k.s, .string k.t, .slice k.la k.ll k.lc, .slice k.fa k.fl k.fc] 28)).heap.size (((w.alloc (.cells #[.int .i64 sn, .int .i64 st, .slice (some ⟨b, o, none⟩) sl sc] 55)).alloc (.cells #[.int .i64 x.k.k, .int .i64 x.k.i, .int .i64 x.k.s, .string x.k.t, .slice x.k.la x.k.ll x.k.lc, .slice x.k.fa x.k.fl x.k.fc, .int .i64 x.n, .int .i64 x.t, .slice x.ia x.il x.ic, .slice x.va x.vl x.vc] 58)).alloc (.cells #[.int .i64 k.k, .int .i64 k.i, .int .i64 k.s, .string k.t, .slice k.la k.ll k.lc, .slice k.fa k.fl k.fc] 28)) wT by rw [hwT]; exact HWG.out.trans (hbk'.mono HWG.out.size))
          rw [← hwT]
          clear hwT
          obtain ⟨pj, hpj⟩ : ∃ p, p = placeI d.l dx.k := ⟨_, rfl⟩
          obtain ⟨pc, hpc⟩ : ∃ p, p = placeB d.l dx.k := ⟨_, rfl⟩
          have HPJ := hid hpj
          have HPC := hid hpc
          have HPX : Hid (∀ w', Below (((w.alloc (.cells #[.int .i64 sn, .int .i64 st, .slice (some ⟨b, o, none⟩) sl sc] 55)).alloc (.cells #[.int .i64 x.k.k, .int .i64 x.k.i, .int .i64 x.k.s, .string x.k.t, .slice x.k.la x.k.ll x.k.lc, .slice x.k.fa x.k.fl x.k.fc, .int .i64 x.n, .int .i64 x.t, .slice x.ia x.il x.ic, .slice x.va x.vl x.vc] 58)).alloc (.cells #[.int .i64 k.k, .int .i64 k.i, .int .i64 k.s, .string k.t, .slice k.la k.ll k.lc, .slice k.fa k.fl k.fc] 28)).heap.size (((w.alloc (.cells #[.int .i64 sn, .int .i64 st, .slice (some ⟨b, o, none⟩) sl sc] 55)).alloc (.cells #[.int .i64 x.k.k, .int .i64 x.k.i, .int .i64 x.k.s, .string x.k.t, .slice x.k.la x.k.ll x.k.lc, .slice x.k.fa x.k.fl x.k.fc, .int .i64 x.n, .int .i64 x.t, .slice x.ia x.il x.ic, .slice x.va x.vl x.vc] 58)).alloc (.cells #[.int .i64 k.k, .int .i64 k.i, .int .i64 k.s, .string k.t, .slice k.la k.ll k.lc, .slice k.fa k.fl k.fc] 28)) w' → Calls Tryz.prog 37 #[.agg #[.int .i64 sn, .int .i64 st, .slice (some ⟨b, o, none⟩) sl sc], .agg #[.int .i64 x.k.k, .int .i64 x.k.i, .int .i64 x.k.s, .string x.k.t, .slice x.k.la x.k.ll x.k.lc, .slice x.k.fa x.k.fl x.k.fc]] w' fun e w2 => e = .returned (.tuple #[.int .i64 (pj : Nat), .bool pc]) ∧ Below w'.heap.size w' w2) := hid fun w' h => by
            have hc := place_call ⟨sn, st, (some ⟨b, o, none⟩), sl, sc⟩ d x.k dx.k w' (HUA.out w' h).2.1 (HUA.out w' h).2.2.1.k
            exact hc.mono fun e w2 h => ⟨h.1.trans (by rw [← hpj, ← hpc]), h.2⟩
          clear hpj hpc
          obtain ⟨⟨k0, k1, k2⟩, ⟨x0, x1, x2, x3, x4, x5, x6, x7, x8, x9⟩, ⟨v0, v1, v2, v3, v4, v5⟩⟩ := HBX.out _ HBT.out
          cases pc with
          | true =>
            go_wp2_with (go_at_call 37; refine (HPX.out _ HBT.out).mono ?_; rintro e wa ⟨rfl, hba⟩)
            go_ret
            exact ⟨rfl, (HUA.out _ (HBT.out.trans (hba.mono HBT.out.size))).1⟩
          | false =>
            have HPP : Hid (∀ w', Below (((w.alloc (.cells #[.int .i64 sn, .int .i64 st, .slice (some ⟨b, o, none⟩) sl sc] 55)).alloc (.cells #[.int .i64 x.k.k, .int .i64 x.k.i, .int .i64 x.k.s, .string x.k.t, .slice x.k.la x.k.ll x.k.lc, .slice x.k.fa x.k.fl x.k.fc, .int .i64 x.n, .int .i64 x.t, .slice x.ia x.il x.ic, .slice x.va x.vl x.vc] 58)).alloc (.cells #[.int .i64 k.k, .int .i64 k.i, .int .i64 k.s, .string k.t, .slice k.la k.ll k.lc, .slice k.fa k.fl k.fc] 28)).heap.size (((w.alloc (.cells #[.int .i64 sn, .int .i64 st, .slice (some ⟨b, o, none⟩) sl sc] 55)).alloc (.cells #[.int .i64 x.k.k, .int .i64 x.k.i, .int .i64 x.k.s, .string x.k.t, .slice x.k.la x.k.ll x.k.lc, .slice x.k.fa x.k.fl x.k.fc, .int .i64 x.n, .int .i64 x.t, .slice x.ia x.il x.ic, .slice x.va x.vl x.vc] 58)).alloc (.cells #[.int .i64 k.k, .int .i64 k.i, .int .i64 k.s, .string k.t, .slice k.la k.ll k.lc, .slice k.fa k.fl k.fc] 28)) w' → Calls Tryz.prog 51 #[.agg #[.int .i64 sn, .int .i64 st, .slice (some ⟨b, o, none⟩) sl sc], .agg #[.int .i64 x.k.k, .int .i64 x.k.i, .int .i64 x.k.s, .string x.k.t, .slice x.k.la x.k.ll x.k.lc, .slice x.k.fa x.k.fl x.k.fc, .int .i64 x.n, .int .i64 x.t, .slice x.ia x.il x.ic, .slice x.va x.vl x.vc]] w' (PutPost2 w' d dx)) := hid fun w' h => by
              obtain ⟨h1, h2, h3, h4⟩ := HUA.out w' h
              exact putF2_call ⟨sn, st, (some ⟨b, o, none⟩), sl, sc⟩ d x dx w' HSRT.out h2 h3 HPC.out.symm (by have := HL.out; omega)
            go_upto_region 16 with (first
              | (go_at_call 51; refine (HPP.out _ hba').mono ?_; rintro e wb ⟨cu, rfl, hbb, hiu⟩; have HIU := hid hiu; clear hiu)
              | (go_at_call 37; refine (HPX.out _ HBT.out).mono ?_; rintro e wa ⟨rfl, hba⟩; have hba' := HBT.out.trans (hba.mono HBT.out.size); clear k0 k1 k2 x0 x1 x2 x3 x4 x5 x6 x7 x8 x9 v0 v1 v2 v3 v4 v5; obtain ⟨⟨k0, k1, k2⟩, ⟨x0, x1, x2, x3, x4, x5, x6, x7, x8, x9⟩, ⟨v0, v1, v2, v3, v4, v5⟩⟩ := HBX.out _ (hba')))
            clear k0 k1 k2 x0 x1 x2 x3 x4 x5 x6 x7 x8 x9 v0 v1 v2 v3 v4 v5
            obtain ⟨wc, hwc⟩ : ∃ u, u = wb.alloc (.cells #[.int .i64 cu.n, .int .i64 cu.t, .slice cu.a cu.l cu.c] 55) := ⟨_, rfl⟩
            rw [← hwc]
            have HBC1 := hid (show Below wb.heap.size wb wc by rw [hwc]; exact (Below.refl _ _).alloc (Nat.le_refl _) _)
            have HWC := hid (hba'.trans ((hbb.trans (HBC1.out.mono hbb.size)).mono hba'.size))
            have H16 := hid (show wc.heap[wb.heap.size]? = some (.cells #[.int .i64 cu.n, .int .i64 cu.t, .slice cu.a cu.l cu.c] 55) by rw [hwc]; exact heap_alloc_new wb _)
            have HSU := hid (show IsSta (· < wc.heap.size) wc cu ⟨d.n, d.t, putL d.l dx⟩ from HIU.out.same fun b q => ⟨by have := HBC1.out.size; omega, HBC1.out.block b q.2⟩)
            clear hwc
            have HRM : Hid (Calls Tryz.prog 53 #[.agg #[.int .i64 cu.n, .int .i64 cu.t, .slice cu.a cu.l cu.c], .agg #[.int .i64 x.k.k, .int .i64 x.k.i, .int .i64 x.k.s, .string x.k.t, .slice x.k.la x.k.ll x.k.lc, .slice x.k.fa x.k.fl x.k.fc]] wc (RemPost wc ⟨d.n, d.t, putL d.l dx⟩ dx.k)) := hid (remT_call cu ⟨d.n, d.t, putL d.l dx⟩ x.k dx.k wc (putL_srt HSRT.out dx) HSU.out (HUA.out _ HWC.out).2.2.1.k (putL_found _ _) (by have := putL_le d.l dx; have := HL.out; dsimp only; omega))
            obtain ⟨⟨k0, k1, k2⟩, ⟨x0, x1, x2, x3, x4, x5, x6, x7, x8, x9⟩, ⟨v0, v1, v2, v3, v4, v5⟩⟩ := HBX.out _ HWC.out
            have u0 := cellOf H16.out 0; have u1 := cellOf H16.out 1; have u2 := cellOf H16.out 2
            (try dsimp only at u0 u1 u2)
            go_upto_region 17 with (go_at_call 53; refine HRM.out.mono ?_; rintro e wd ⟨cb, rfl, hbd, hib⟩; have HIB := hid hib; clear hib)
            clear k0 k1 k2 x0 x1 x2 x3 x4 x5 x6 x7 x8 x9 v0 v1 v2 v3 v4 v5 u0 u1 u2
            obtain ⟨we, hwe⟩ : ∃ u, u = wd.alloc (.cells #[.int .i64 cb.n, .int .i64 cb.t, .slice cb.a cb.l cb.c] 55) := ⟨_, rfl⟩
            rw [← hwe]
            have HBE1 := hid (show Below wd.heap.size wd we by rw [hwe]; exact (Below.refl _ _).alloc (Nat.le_refl _) _)
            have HWE := hid (HWC.out.trans ((hbd.trans (HBE1.out.mono hbd.size)).mono HWC.out.size))
            have H18 := hid (show we.heap[wd.heap.size]? = some (.cells #[.int .i64 cb.n, .int .i64 cb.t, .slice cb.a cb.l cb.c] 55) by rw [hwe]; exact heap_alloc_new wd _)
            clear hwe
            have HSAQ : Hid (Calls Tryz.prog 41 #[.agg #[.int .i64 cb.n, .int .i64 cb.t, .slice cb.a cb.l cb.c], .agg #[.int .i64 sn, .int .i64 st, .slice (some ⟨b, o, none⟩) sl sc]] we fun e w2 => e = .returned (.bool true) ∧ Below we.heap.size we w2) := hid (by
              have h1 : IsSta (· < we.heap.size) we cb ⟨d.n, d.t, delL (putL d.l dx) dx.k⟩ := HIB.out.same fun b q => ⟨by have := HBE1.out.size; omega, HBE1.out.block b q.2⟩
              rw [delL_put HPC.out.symm] at h1
              have hc := sameSta_call cb ⟨sn, st, (some ⟨b, o, none⟩), sl, sc⟩ _ _ we h1 (HUA.out _ HWE.out).2.1
              rw [staEqB_refl] at hc
              exact hc)
            obtain ⟨⟨k0, k1, k2⟩, ⟨x0, x1, x2, x3, x4, x5, x6, x7, x8, x9⟩, ⟨v0, v1, v2, v3, v4, v5⟩⟩ := HBX.out _ HWE.out
            have u0 := cellOf H18.out 0; have u1 := cellOf H18.out 1; have u2 := cellOf H18.out 2
            (try dsimp only at u0 u1 u2)
            go_wp2_with (go_at_call 41; refine HSAQ.out.mono ?_; rintro e wf ⟨rfl, hbf⟩)
            go_ret
            exact ⟨rfl, (HUA.out _ (HWE.out.trans (hbf.mono HWE.out.size))).1⟩
        refine AllReadyH.cons (o := _) rfl (fun K hK => ?_) AllReadyH.nil
        go_simp
        obtain ⟨wQ, hwQ⟩ : ∃ u, u = w1q.alloc (.cells #[.int .i64 0, .int .i64 0, .slice none 0 0] 55) := ⟨_, rfl⟩
        rw [← hwQ]
        obtain ⟨nQ, hnQ⟩ : ∃ u, u = w1q.heap.size := ⟨_, rfl⟩
        (try rw [← hnQ])
        have hbwQ : Below w1q.heap.size w1q wQ := by rw [hwQ]; exact (Below.refl _ _).alloc (Nat.le_refl _) _
        have hgnQ : wv.heap.size ≤ nQ := by rw [hnQ]; exact HSc.out.size
        have HGNnQ := hid hgnQ
        have HSc0 := HSc
        have HSc := hid (show Below wv.heap.size wv wQ from HSc.out.trans (hbwQ.mono HSc.out.size))
        have HQc := hid (show wQ.heap[nQ]? = some (.cells #[.int .i64 0, .int .i64 0, .slice none 0 0] 55) by rw [hnQ, hwQ]; exact heap_alloc_new w1q _)
        have HQ0 := HQc
        have HNQ := hid (show ∀ r, (Value.slice a1 pi cap1).ownBlock = some r → r ≠ nQ from fun r e => by have := (HKc.out.own r e).2; rw [hnQ]; omega)
        have HKc := hid (HKc.out.ext (Nat.le_trans HWS.out HSc0.out.size) hbwQ)
        clear hwQ hnQ hbwQ hgnQ
        refine hK.out _ _ (HSc.out) (fun hS => ?_)
        clear hK K
        (try simp only [Act.put, List.getElem_toArray, List.getElem_cons_succ, List.getElem_cons_zero, List.setIfInBounds_toArray, List.set_cons_zero, List.set_cons_succ])
        refine wpAnyH_ready (rs := [15]) (by kernel_rfl) (by simp) ?_
        refine AllReadyH.cons (o := _) rfl (fun K hK => ?_) AllReadyH.nil
        have hct := HCT.out wQ HSc.out
        obtain ⟨a2, cap2, w2q, hr1, hk1, hg1, hat1⟩ := run_append_kept (K := slK) (P := Tryz.prog) (w := wQ) (ty := 53) Tryz.underlying53 hi hz0 (by rw [hz1]) (by rw [hz2]; omega) rfl one_sl HKc.out (sc - (pi + 1)) (hAc.out _ HSc.out) (l2 := d.l.drop (pi + 1)) (by rw [List.length_drop]; have := HL.out; omega) (drop_els hct.2.2 (pi + 1)) hct.1 (by omega)
        skip
        skip
        refine step_append_run (by rfl) _ _ _ (by rfl) _ _ _ _ (by rfl) (by rfl) hr1 ?_
        clear hr1 hct
        have HKc := hid hk1
        have hbg : Below wv.heap.size wQ w2q := grown_below hg1 HATc.out HSc.out.size
        have HQp := HQc
        have HQc := hid (show w2q.heap[nQ]? = some (.cells #[.int .i64 0, .int .i64 0, .slice none 0 0] 55) from (hg1.block nQ (ltOf HQc.out) (fun e => HNQ.out nQ e.symm rfl)).trans HQc.out)
        have HNQ := hid (show ∀ r, (Value.slice a2 (pi + (sl - (pi + 1))) cap2).ownBlock = some r → r ≠ nQ from fun r e => (hat1 r e).elim (fun e => HNQ.out r e) (fun e => by rw [e]; have := ltOf HQp.out; omega))
        have HATc := hid (show ∀ r, (Value.slice a2 (pi + (sl - (pi + 1))) cap2).ownBlock = some r → wv.heap.size ≤ r from fun r e => (hat1 r e).elim (fun e => HATc.out r e) (fun e => by rw [e]; exact HSc.out.size))
        have HSc := hid (HSc.out.trans hbg)
        clear hbg hk1 hat1 hg1
        refine hK.out _ _ (HSc.out) (fun hS => ?_)
        clear hK K
        (try simp only [Act.put, List.getElem_toArray, List.getElem_cons_succ, List.getElem_cons_zero, List.setIfInBounds_toArray, List.set_cons_zero, List.set_cons_succ])
        refine wpAnyH_take (i := 16) (oi := _) (v := ?_) rfl (by kernel_rfl) (by kernel_rfl) (by kernel_rfl) (fun _ _ _ h => h) (Or.inl ⟨by rfl, ?_⟩) hS ?_
        rotate_left
        · intro w' hw'
          have hcells := HC8.out w' hw'
          go_simp
          (try with_reducible rfl)
        simp only [Act.put, List.getElem_toArray, List.getElem_cons_succ, List.getElem_cons_zero, List.setIfInBounds_toArray, List.set_cons_zero, List.set_cons_succ]
        refine wpAnyH_done (by kernel_rfl) ?_ _
        (try dsimp only)
        obtain ⟨wF, hwF⟩ : ∃ u, u = w2q := ⟨_, rfl⟩
        rw [← hwF] at HSc HKc HQc ⊢
        clear hS hwF hA
        have q0 := cellOf HQc.out 0; have q1 := cellOf HQc.out 1; have q2 := cellOf HQc.out 2; have qf0 := freeOf HQc.out 0; have qf1 := freeOf HQc.out 1; have qf2 := freeOf HQc.out 2
        (try dsimp only at q0 q1 q2)
        go_upto_region 9 with (fail)
        clear q0 q1 q2 qf0 qf1 qf2
        obtain ⟨wG, hwG⟩ : ∃ u, u = ((wF.setCell ⟨nQ, 0, none⟩ (.int .i64 sn)).setCell ⟨nQ, 1, none⟩ (.int .i64 st)).setCell ⟨nQ, 2, none⟩ (.slice a2 (pi + (sl - (pi + 1))) cap2) := ⟨_, rfl⟩
        rw [← hwG]
        have HNG := hid (show wG.heap[nQ]? = some (.cells #[.int .i64 sn, .int .i64 st, .slice a2 (pi + (sl - (pi + 1))) cap2] 55) by
          rw [hwG]
          have h := heapSet (o := 2) (.slice a2 (pi + (sl - (pi + 1))) cap2) (heapSet (o := 1) (.int .i64 st) (heapSet (o := 0) (.int .i64 sn) HQc.out))
          simpa only [List.setIfInBounds_toArray, List.set_cons_zero, List.set_cons_succ] using h)
        have hgn := HGNnQ.out
        have HBG := hid (show Below wv.heap.size wv wG by rw [hwG]; exact ((HSc.out.setCell (p := ⟨nQ, 0, none⟩) hgn _).setCell (p := ⟨nQ, 1, none⟩) hgn _).setCell (p := ⟨nQ, 2, none⟩) hgn _)
        have hkg : Kept slK 58 w.heap.size wG (.slice a2 (pi + (sl - (pi + 1))) cap2) (pi + (sl - (pi + 1))) (d.l.take pi ++ d.l.drop (pi + 1)) := by
          have hw := HWS.out
          have hne : (Value.slice a2 (pi + (sl - (pi + 1))) cap2).ownBlock ≠ some nQ := fun e => HNQ.out nQ e rfl
          rw [hwG]
          exact ((HKc.out.set (⟨nQ, 0, none⟩ : Addr) _ (by dsimp only; omega) hne).set (⟨nQ, 1, none⟩ : Addr) _ (by dsimp only; omega) hne).set (⟨nQ, 2, none⟩ : Addr) _ (by dsimp only; omega) hne
        have HSG := hid (show IsSta (· < wG.heap.size) wG ⟨sn, st, a2, pi + (sl - (pi + 1)), cap2⟩ ⟨d.n, d.t, delL d.l kd⟩ by
          refine ⟨HD.out.n, HD.out.rn, HD.out.t, HD.out.rt, ?_⟩
          rw [show delL d.l kd = d.l.take pi ++ d.l.drop (pi + 1) by rw [delL, ← HPI.out]]
          exact hkg.row (Nat.le_trans HWS.out HBG.out.size) (by dsimp only; omega))
        clear hwG hgn hkg
        have HWG := hid (HVA.out.trans (HBG.out.mono HVA.out.size))
        have HC9 : Hid (∀ w', Below wG.heap.size wG w' → (w'.cell? ⟨w7.heap.size, 0, none⟩ = some (.int .i64 cr.n) ∧ w'.cell? ⟨w7.heap.size, 1, none⟩ = some (.int .i64 cr.t) ∧ w'.cell? ⟨w7.heap.size, 2, none⟩ = some (.slice cr.a cr.l cr.c)) ∧ (w'.cell? ⟨nQ, 0, none⟩ = some (.int .i64 sn) ∧ w'.cell? ⟨nQ, 1, none⟩ = some (.int .i64 st) ∧ w'.cell? ⟨nQ, 2, none⟩ = some (.slice a2 (pi + (sl - (pi + 1))) cap2))) := hid fun w' h => by
          have h1 := heapExt (HBG.out.trans (h.mono HBG.out.size)) H7V.out
          have h2 := heapExt h HNG.out
          exact ⟨⟨cellOf h1 0, cellOf h1 1, cellOf h1 2⟩, ⟨cellOf h2 0, cellOf h2 1, cellOf h2 2⟩⟩
        have HSRv : Hid (∀ w', Below wG.heap.size wG w' → IsSta (· < w'.heap.size) w' cr ⟨d.n, d.t, delL d.l kd⟩) := hid fun w' h => HSRV.out w' (HBG.out.trans (h.mono HBG.out.size))
        have HGE : Hid (∀ w', Below wG.heap.size wG w' → Calls Tryz.prog 36 #[.agg #[.int .i64 cr.n, .int .i64 cr.t, .slice cr.a cr.l cr.c], .agg #[.int .i64 k.k, .int .i64 k.i, .int .i64 k.s, .string k.t, .slice k.la k.ll k.lc, .slice k.fa k.fl k.fc]] w' fun e w2 => ∃ y : SlC, e = .returned (.tuple #[.agg #[.int .i64 y.k.k, .int .i64 y.k.i, .int .i64 y.k.s, .string y.k.t, .slice y.k.la y.k.ll y.k.lc, .slice y.k.fa y.k.fl y.k.fc, .int .i64 y.n, .int .i64 y.t, .slice y.ia y.il y.ic, .slice y.va y.vl y.vc], .bool false]) ∧ Below w'.heap.size w' w2) := hid fun w' h => by
          have hc := get_call cr ⟨d.n, d.t, delL d.l kd⟩ k kd w' (HSRv.out w' h) (HUA.out w' (HWG.out.trans (h.mono HWG.out.size))).2.2.2
          refine hc.mono fun e w2 hh => ?_
          obtain ⟨y, dy, q1, q2, _⟩ := hh
          have e1 : findB (delL d.l kd) kd = false := by rw [findB_place (delL_srt HSRT.out kd)]; exact delL_gone HSRT.out HPB.out
          dsimp only at q1
          rw [e1] at q1
          exact ⟨y, q1, q2⟩
        have HSA1 : Hid (∀ w', Below wG.heap.size wG w' → Calls Tryz.prog 41 #[.agg #[.int .i64 cr.n, .int .i64 cr.t, .slice cr.a cr.l cr.c], .agg #[.int .i64 sn, .int .i64 st, .slice a2 (pi + (sl - (pi + 1))) cap2]] w' fun e w2 => e = .returned (.bool true) ∧ Below w'.heap.size w' w2) := hid fun w' h => by
          have hc := sameSta_call cr ⟨sn, st, a2, pi + (sl - (pi + 1)), cap2⟩ _ _ w' (HSRv.out w' h) (HSG.out.same fun b q => ⟨Nat.lt_of_lt_of_le q h.size, h.block b q⟩)
          rw [staEqB_refl] at hc
          exact hc
        have HSO1 : Hid (∀ w', Below wG.heap.size wG w' → Calls Tryz.prog 34 #[.agg #[.int .i64 cr.n, .int .i64 cr.t, .slice cr.a cr.l cr.c]] w' fun e w2 => e = .returned (.bool true) ∧ Below w'.heap.size w' w2) := hid fun w' h => by
          have hc := sorted_call cr _ w' (HSRv.out w' h)
          refine hc.mono fun e w2 hh => ?_
          obtain ⟨⟨b', rfl, _, q⟩, hb⟩ := hh
          obtain rfl : b' = true := q (delL_srt HSRT.out kd)
          exact ⟨rfl, hb⟩
        obtain ⟨⟨k0, k1, k2⟩, ⟨x0, x1, x2, x3, x4, x5, x6, x7, x8, x9⟩, ⟨v0, v1, v2, v3, v4, v5⟩⟩ := HBX.out _ HWG.out
        obtain ⟨⟨u0, u1, u2⟩, ⟨m0, m1, m2⟩⟩ := HC9.out _ (Below.refl _ _)
        go_upto_region 10 with (go_at_call 36; refine (HGE.out _ (Below.refl _ _)).mono ?_; rintro e wh ⟨y, rfl, hbh⟩)
        clear k0 k1 k2 x0 x1 x2 x3 x4 x5 x6 x7 x8 x9 v0 v1 v2 v3 v4 v5 u0 u1 u2 m0 m1 m2
        obtain ⟨wi, hwi⟩ : ∃ u, u = wh.alloc (.cells #[.int .i64 y.k.k, .int .i64 y.k.i, .int .i64 y.k.s, .string y.k.t, .slice y.k.la y.k.ll y.k.lc, .slice y.k.fa y.k.fl y.k.fc, .int .i64 y.n, .int .i64 y.t, .slice y.ia y.il y.ic, .slice y.va y.vl y.vc] 58) := ⟨_, rfl⟩
        rw [← hwi]
        have HBI := hid (show Below wG.heap.size wG wi by rw [hwi]; exact hbh.alloc hbh.size _)
        clear hwi
        obtain ⟨⟨u0, u1, u2⟩, ⟨m0, m1, m2⟩⟩ := HC9.out _ HBI.out
        go_upto_region 12 with (first
          | (go_at_call 34; refine (HSO1.out _ hbj').mono ?_; rintro e wk ⟨rfl, hbk⟩; have hbk' := hbj'.trans (hbk.mono hbj'.size))
          | (go_at_call 41; refine (HSA1.out _ HBI.out).mono ?_; rintro e wj ⟨rfl, hbj⟩; have hbj' := HBI.out.trans (hbj.mono HBI.out.size); clear u0 u1 u2 m0 m1 m2; obtain ⟨⟨u0, u1, u2⟩, ⟨m0, m1, m2⟩⟩ := HC9.out _ hbj'))
        clear u0 u1 u2 m0 m1 m2
        obtain ⟨wT, hwT⟩ : ∃ u, u = wk := ⟨_, rfl⟩
        have HBT := hid (show Below (((w.alloc (.cells #[.int .i64 sn, .int .i64 st, .slice (some ⟨b, o, none⟩) sl sc] 55)).alloc (.cells #[.int .i64 x.k.k, .int .i64 x.k.i, .int .i64 x.k.s, .string x.k.t, .slice x.k.la x.k.ll x.k.lc, .slice x.k.fa x.k.fl x.k.fc, .int .i64 x.n, .int .i64 x.t, .slice x.ia x.il x.ic, .slice x.va x.vl x.vc] 58)).alloc (.cells #[.int .i64 k.k, .int .i64 k.i, .int .i64 k.s, .string k.t, .slice k.la k.ll k.lc, .slice k.fa k.fl k.fc] 28)).heap.size (((w.alloc (.cells #[.int .i64 sn, .int .i64 st, .slice (some ⟨b, o, none⟩) sl sc] 55)).alloc (.cells #[.int .i64 x.k.k, .int .i64 x.k.i, .int .i64 x.k.s, .string x.k.t, .slice x.k.la x.k.ll x.k.lc, .slice x.k.fa x.k.fl x.k.fc, .int .i64 x.n, .int .i64 x.t, .slice x.ia x.il x.ic, .slice x.va x.vl x.vc] 58)).alloc (.cells #[.int .i64 k.k, .int .i64 k.i, .int .i64 k.s, .string k.t, .slice k.la k.ll k.lc, .slice k.fa k.fl k.fc] 28)) wT by rw [hwT]; exact HWG.out.trans (hbk'.mono HWG.out.size))
        rw [← hwT]
        clear hwT
        obtain ⟨pj, hpj⟩ : ∃ p, p = placeI d.l dx.k := ⟨_, rfl⟩
        obtain ⟨pc, hpc⟩ : ∃ p, p = placeB d.l dx.k := ⟨_, rfl⟩
        have HPJ := hid hpj
        have HPC := hid hpc
        have HPX : Hid (∀ w', Below (((w.alloc (.cells #[.int .i64 sn, .int .i64 st, .slice (some ⟨b, o, none⟩) sl sc] 55)).alloc (.cells #[.int .i64 x.k.k, .int .i64 x.k.i, .int .i64 x.k.s, .string x.k.t, .slice x.k.la x.k.ll x.k.lc, .slice x.k.fa x.k.fl x.k.fc, .int .i64 x.n, .int .i64 x.t, .slice x.ia x.il x.ic, .slice x.va x.vl x.vc] 58)).alloc (.cells #[.int .i64 k.k, .int .i64 k.i, .int .i64 k.s, .string k.t, .slice k.la k.ll k.lc, .slice k.fa k.fl k.fc] 28)).heap.size (((w.alloc (.cells #[.int .i64 sn, .int .i64 st, .slice (some ⟨b, o, none⟩) sl sc] 55)).alloc (.cells #[.int .i64 x.k.k, .int .i64 x.k.i, .int .i64 x.k.s, .string x.k.t, .slice x.k.la x.k.ll x.k.lc, .slice x.k.fa x.k.fl x.k.fc, .int .i64 x.n, .int .i64 x.t, .slice x.ia x.il x.ic, .slice x.va x.vl x.vc] 58)).alloc (.cells #[.int .i64 k.k, .int .i64 k.i, .int .i64 k.s, .string k.t, .slice k.la k.ll k.lc, .slice k.fa k.fl k.fc] 28)) w' → Calls Tryz.prog 37 #[.agg #[.int .i64 sn, .int .i64 st, .slice (some ⟨b, o, none⟩) sl sc], .agg #[.int .i64 x.k.k, .int .i64 x.k.i, .int .i64 x.k.s, .string x.k.t, .slice x.k.la x.k.ll x.k.lc, .slice x.k.fa x.k.fl x.k.fc]] w' fun e w2 => e = .returned (.tuple #[.int .i64 (pj : Nat), .bool pc]) ∧ Below w'.heap.size w' w2) := hid fun w' h => by
          have hc := place_call ⟨sn, st, (some ⟨b, o, none⟩), sl, sc⟩ d x.k dx.k w' (HUA.out w' h).2.1 (HUA.out w' h).2.2.1.k
          exact hc.mono fun e w2 h => ⟨h.1.trans (by rw [← hpj, ← hpc]), h.2⟩
        clear hpj hpc
        obtain ⟨⟨k0, k1, k2⟩, ⟨x0, x1, x2, x3, x4, x5, x6, x7, x8, x9⟩, ⟨v0, v1, v2, v3, v4, v5⟩⟩ := HBX.out _ HBT.out
        cases pc with
        | true =>
          go_wp2_with (go_at_call 37; refine (HPX.out _ HBT.out).mono ?_; rintro e wa ⟨rfl, hba⟩)
          go_ret
          exact ⟨rfl, (HUA.out _ (HBT.out.trans (hba.mono HBT.out.size))).1⟩
        | false =>
          have HPP : Hid (∀ w', Below (((w.alloc (.cells #[.int .i64 sn, .int .i64 st, .slice (some ⟨b, o, none⟩) sl sc] 55)).alloc (.cells #[.int .i64 x.k.k, .int .i64 x.k.i, .int .i64 x.k.s, .string x.k.t, .slice x.k.la x.k.ll x.k.lc, .slice x.k.fa x.k.fl x.k.fc, .int .i64 x.n, .int .i64 x.t, .slice x.ia x.il x.ic, .slice x.va x.vl x.vc] 58)).alloc (.cells #[.int .i64 k.k, .int .i64 k.i, .int .i64 k.s, .string k.t, .slice k.la k.ll k.lc, .slice k.fa k.fl k.fc] 28)).heap.size (((w.alloc (.cells #[.int .i64 sn, .int .i64 st, .slice (some ⟨b, o, none⟩) sl sc] 55)).alloc (.cells #[.int .i64 x.k.k, .int .i64 x.k.i, .int .i64 x.k.s, .string x.k.t, .slice x.k.la x.k.ll x.k.lc, .slice x.k.fa x.k.fl x.k.fc, .int .i64 x.n, .int .i64 x.t, .slice x.ia x.il x.ic, .slice x.va x.vl x.vc] 58)).alloc (.cells #[.int .i64 k.k, .int .i64 k.i, .int .i64 k.s, .string k.t, .slice k.la k.ll k.lc, .slice k.fa k.fl k.fc] 28)) w' → Calls Tryz.prog 51 #[.agg #[.int .i64 sn, .int .i64 st, .slice (some ⟨b, o, none⟩) sl sc], .agg #[.int .i64 x.k.k, .int .i64 x.k.i, .int .i64 x.k.s, .string x.k.t, .slice x.k.la x.k.ll x.k.lc, .slice x.k.fa x.k.fl x.k.fc, .int .i64 x.n, .int .i64 x.t, .slice x.ia x.il x.ic, .slice x.va x.vl x.vc]] w' (PutPost2 w' d dx)) := hid fun w' h => by
            obtain ⟨h1, h2, h3, h4⟩ := HUA.out w' h
            exact putF2_call ⟨sn, st, (some ⟨b, o, none⟩), sl, sc⟩ d x dx w' HSRT.out h2 h3 HPC.out.symm (by have := HL.out; omega)
          go_upto_region 16 with (first
            | (go_at_call 51; refine (HPP.out _ hba').mono ?_; rintro e wb ⟨cu, rfl, hbb, hiu⟩; have HIU := hid hiu; clear hiu)
            | (go_at_call 37; refine (HPX.out _ HBT.out).mono ?_; rintro e wa ⟨rfl, hba⟩; have hba' := HBT.out.trans (hba.mono HBT.out.size); clear k0 k1 k2 x0 x1 x2 x3 x4 x5 x6 x7 x8 x9 v0 v1 v2 v3 v4 v5; obtain ⟨⟨k0, k1, k2⟩, ⟨x0, x1, x2, x3, x4, x5, x6, x7, x8, x9⟩, ⟨v0, v1, v2, v3, v4, v5⟩⟩ := HBX.out _ (hba')))
          clear k0 k1 k2 x0 x1 x2 x3 x4 x5 x6 x7 x8 x9 v0 v1 v2 v3 v4 v5
          obtain ⟨wc, hwc⟩ : ∃ u, u = wb.alloc (.cells #[.int .i64 cu.n, .int .i64 cu.t, .slice cu.a cu.l cu.c] 55) := ⟨_, rfl⟩
          rw [← hwc]
          have HBC1 := hid (show Below wb.heap.size wb wc by rw [hwc]; exact (Below.refl _ _).alloc (Nat.le_refl _) _)
          have HWC := hid (hba'.trans ((hbb.trans (HBC1.out.mono hbb.size)).mono hba'.size))
          have H16 := hid (show wc.heap[wb.heap.size]? = some (.cells #[.int .i64 cu.n, .int .i64 cu.t, .slice cu.a cu.l cu.c] 55) by rw [hwc]; exact heap_alloc_new wb _)
          have HSU := hid (show IsSta (· < wc.heap.size) wc cu ⟨d.n, d.t, putL d.l dx⟩ from HIU.out.same fun b q => ⟨by have := HBC1.out.size; omega, HBC1.out.block b q.2⟩)
          clear hwc
          have HRM : Hid (Calls Tryz.prog 53 #[.agg #[.int .i64 cu.n, .int .i64 cu.t, .slice cu.a cu.l cu.c], .agg #[.int .i64 x.k.k, .int .i64 x.k.i, .int .i64 x.k.s, .string x.k.t, .slice x.k.la x.k.ll x.k.lc, .slice x.k.fa x.k.fl x.k.fc]] wc (RemPost wc ⟨d.n, d.t, putL d.l dx⟩ dx.k)) := hid (remT_call cu ⟨d.n, d.t, putL d.l dx⟩ x.k dx.k wc (putL_srt HSRT.out dx) HSU.out (HUA.out _ HWC.out).2.2.1.k (putL_found _ _) (by have := putL_le d.l dx; have := HL.out; dsimp only; omega))
          obtain ⟨⟨k0, k1, k2⟩, ⟨x0, x1, x2, x3, x4, x5, x6, x7, x8, x9⟩, ⟨v0, v1, v2, v3, v4, v5⟩⟩ := HBX.out _ HWC.out
          have u0 := cellOf H16.out 0; have u1 := cellOf H16.out 1; have u2 := cellOf H16.out 2
          (try dsimp only at u0 u1 u2)
          go_upto_region 17 with (go_at_call 53; refine HRM.out.mono ?_; rintro e wd ⟨cb, rfl, hbd, hib⟩; have HIB := hid hib; clear hib)
          clear k0 k1 k2 x0 x1 x2 x3 x4 x5 x6 x7 x8 x9 v0 v1 v2 v3 v4 v5 u0 u1 u2
          obtain ⟨we, hwe⟩ : ∃ u, u = wd.alloc (.cells #[.int .i64 cb.n, .int .i64 cb.t, .slice cb.a cb.l cb.c] 55) := ⟨_, rfl⟩
          rw [← hwe]
          have HBE1 := hid (show Below wd.heap.size wd we by rw [hwe]; exact (Below.refl _ _).alloc (Nat.le_refl _) _)
          have HWE := hid (HWC.out.trans ((hbd.trans (HBE1.out.mono hbd.size)).mono HWC.out.size))
          have H18 := hid (show we.heap[wd.heap.size]? = some (.cells #[.int .i64 cb.n, .int .i64 cb.t, .slice cb.a cb.l cb.c] 55) by rw [hwe]; exact heap_alloc_new wd _)
          clear hwe
          have HSAQ : Hid (Calls Tryz.prog 41 #[.agg #[.int .i64 cb.n, .int .i64 cb.t, .slice cb.a cb.l cb.c], .agg #[.int .i64 sn, .int .i64 st, .slice (some ⟨b, o, none⟩) sl sc]] we fun e w2 => e = .returned (.bool true) ∧ Below we.heap.size we w2) := hid (by
            have h1 : IsSta (· < we.heap.size) we cb ⟨d.n, d.t, delL (putL d.l dx) dx.k⟩ := HIB.out.same fun b q => ⟨by have := HBE1.out.size; omega, HBE1.out.block b q.2⟩
            rw [delL_put HPC.out.symm] at h1
            have hc := sameSta_call cb ⟨sn, st, (some ⟨b, o, none⟩), sl, sc⟩ _ _ we h1 (HUA.out _ HWE.out).2.1
            rw [staEqB_refl] at hc
            exact hc)
          obtain ⟨⟨k0, k1, k2⟩, ⟨x0, x1, x2, x3, x4, x5, x6, x7, x8, x9⟩, ⟨v0, v1, v2, v3, v4, v5⟩⟩ := HBX.out _ HWE.out
          have u0 := cellOf H18.out 0; have u1 := cellOf H18.out 1; have u2 := cellOf H18.out 2
          (try dsimp only at u0 u1 u2)
          go_wp2_with (go_at_call 41; refine HSAQ.out.mono ?_; rintro e wf ⟨rfl, hbf⟩)
          go_ret
          exact ⟨rfl, (HUA.out _ (HWE.out.trans (hbf.mono HWE.out.size))).1⟩
      refine AllReadyH.cons (o := _) rfl (fun K hK => ?_) AllReadyH.nil
      go_simp
      obtain ⟨wQ, hwQ⟩ : ∃ u, u = wE.alloc (.cells #[.int .i64 0, .int .i64 0, .slice none 0 0] 55) := ⟨_, rfl⟩
      rw [← hwQ]
      obtain ⟨nQ, hnQ⟩ : ∃ u, u = wE.heap.size := ⟨_, rfl⟩
      (try rw [← hnQ])
      have hbwQ : Below wE.heap.size wE wQ := by rw [hwQ]; exact (Below.refl _ _).alloc (Nat.le_refl _) _
      have hgnQ : wv.heap.size ≤ nQ := by rw [hnQ]; exact HSc.out.size
      have HGNnQ := hid hgnQ
      have HSc0 := HSc
      have HSc := hid (show Below wv.heap.size wv wQ from HSc.out.trans (hbwQ.mono HSc.out.size))
      have HQc := hid (show wQ.heap[nQ]? = some (.cells #[.int .i64 0, .int .i64 0, .slice none 0 0] 55) by rw [hnQ, hwQ]; exact heap_alloc_new wE _)
      have HQ0 := HQc
      have HNQ := hid (show ∀ r, (Value.slice (some ⟨nE, 0, none⟩) 0 0).ownBlock = some r → r ≠ nQ from fun r e => by have := (HKc.out.own r e).2; rw [hnQ]; omega)
      have HKc := hid (HKc.out.ext (Nat.le_trans HWS.out HSc0.out.size) hbwQ)
      clear hwQ hnQ hbwQ hgnQ
      refine hK.out _ _ (HSc.out) (fun hS => ?_)
      clear hK K
      (try simp only [Act.put, List.getElem_toArray, List.getElem_cons_succ, List.getElem_cons_zero, List.setIfInBounds_toArray, List.set_cons_zero, List.set_cons_succ])
      refine wpAnyH_ready (rs := [9]) (by kernel_rfl) (by simp) ?_
      refine AllReadyH.cons (o := _) rfl (fun K hK => ?_) AllReadyH.nil
      have hct := HCT.out wQ HSc.out
      obtain ⟨a1, cap1, w1q, hr1, hk1, hg1, hat1⟩ := run_append_kept (K := slK) (P := Tryz.prog) (w := wQ) (ty := 53) Tryz.underlying53 hi hz0 (by rw [hz1]) (by rw [hz2]; omega) rfl one_sl HKc.out sc (cl_take hct.2.1 pi HPL.out) (l2 := d.l.take pi) (by rw [List.length_take]; have := HL.out; have := HPL.out; omega) (take_els hct.2.2 pi) hct.1 (by omega)
      rw [Nat.zero_add] at hr1 hk1 hat1
      rw [List.nil_append] at hk1
      refine step_append_run (by rfl) _ _ _ (by rfl) _ _ _ _ (by rfl) (by rfl) hr1 ?_
      clear hr1 hct
      have HKc := hid hk1
      have hbg : Below wv.heap.size wQ w1q := grown_below hg1 HATc.out HSc.out.size
      have HQp := HQc
      have HQc := hid (show w1q.heap[nQ]? = some (.cells #[.int .i64 0, .int .i64 0, .slice none 0 0] 55) from (hg1.block nQ (ltOf HQc.out) (fun e => HNQ.out nQ e.symm rfl)).trans HQc.out)
      have HNQ := hid (show ∀ r, (Value.slice a1 pi cap1).ownBlock = some r → r ≠ nQ from fun r e => (hat1 r e).elim (fun e => HNQ.out r e) (fun e => by rw [e]; have := ltOf HQp.out; omega))
      have HATc := hid (show ∀ r, (Value.slice a1 pi cap1).ownBlock = some r → wv.heap.size ≤ r from fun r e => (hat1 r e).elim (fun e => HATc.out r e) (fun e => by rw [e]; exact HSc.out.size))
      have HSc := hid (HSc.out.trans hbg)
      clear hbg hk1 hat1 hg1
      refine hK.out _ _ (HSc.out) (fun hS => ?_)
      clear hK K
      (try simp only [Act.put, List.getElem_toArray, List.getElem_cons_succ, List.getElem_cons_zero, List.setIfInBounds_toArray, List.set_cons_zero, List.set_cons_succ])
      refine wpAnyH_ready (rs := [15]) (by kernel_rfl) (by simp) ?_
      refine AllReadyH.cons (o := _) rfl (fun K hK => ?_) AllReadyH.nil
      have hct := HCT.out w1q HSc.out
      obtain ⟨a2, cap2, w2q, hr1, hk1, hg1, hat1⟩ := run_append_kept (K := slK) (P := Tryz.prog) (w := w1q) (ty := 53) Tryz.underlying53 hi hz0 (by rw [hz1]) (by rw [hz2]; omega) rfl one_sl HKc.out (sc - (pi + 1)) (hAc.out _ HSc.out) (l2 := d.l.drop (pi + 1)) (by rw [List.length_drop]; have := HL.out; omega) (drop_els hct.2.2 (pi + 1)) hct.1 (by omega)
      skip
      skip
      refine step_append_run (by rfl) _ _ _ (by rfl) _ _ _ _ (by rfl) (by rfl) hr1 ?_
      clear hr1 hct
      have HKc := hid hk1
      have hbg : Below wv.heap.size w1q w2q := grown_below hg1 HATc.out HSc.out.size
      have HQp := HQc
      have HQc := hid (show w2q.heap[nQ]? = some (.cells #[.int .i64 0, .int .i64 0, .slice none 0 0] 55) from (hg1.block nQ (ltOf HQc.out) (fun e => HNQ.out nQ e.symm rfl)).trans HQc.out)
      have HNQ := hid (show ∀ r, (Value.slice a2 (pi + (sl - (pi + 1))) cap2).ownBlock = some r → r ≠ nQ from fun r e => (hat1 r e).elim (fun e => HNQ.out r e) (fun e => by rw [e]; have := ltOf HQp.out; omega))
      have HATc := hid (show ∀ r, (Value.slice a2 (pi + (sl - (pi + 1))) cap2).ownBlock = some r → wv.heap.size ≤ r from fun r e => (hat1 r e).elim (fun e => HATc.out r e) (fun e => by rw [e]; exact HSc.out.size))
      have HSc := hid (HSc.out.trans hbg)
      clear hbg hk1 hat1 hg1
      refine hK.out _ _ (HSc.out) (fun hS => ?_)
      clear hK K
      (try simp only [Act.put, List.getElem_toArray, List.getElem_cons_succ, List.getElem_cons_zero, List.setIfInBounds_toArray, List.set_cons_zero, List.set_cons_succ])
      refine wpAnyH_take (i := 16) (oi := _) (v := ?_) rfl (by kernel_rfl) (by kernel_rfl) (by kernel_rfl) (fun _ _ _ h => h) (Or.inl ⟨by rfl, ?_⟩) hS ?_
      rotate_left
      · intro w' hw'
        have hcells := HC8.out w' hw'
        go_simp
        (try with_reducible rfl)
      simp only [Act.put, List.getElem_toArray, List.getElem_cons_succ, List.getElem_cons_zero, List.setIfInBounds_toArray, List.set_cons_zero, List.set_cons_succ]
      refine wpAnyH_done (by kernel_rfl) ?_ _
      (try dsimp only)
      obtain ⟨wF, hwF⟩ : ∃ u, u = w2q := ⟨_, rfl⟩
      rw [← hwF] at HSc HKc HQc ⊢
      clear hS hwF hA
      have q0 := cellOf HQc.out 0; have q1 := cellOf HQc.out 1; have q2 := cellOf HQc.out 2; have qf0 := freeOf HQc.out 0; have qf1 := freeOf HQc.out 1; have qf2 := freeOf HQc.out 2
      (try dsimp only at q0 q1 q2)
      go_upto_region 9 with (fail)
      clear q0 q1 q2 qf0 qf1 qf2
      obtain ⟨wG, hwG⟩ : ∃ u, u = ((wF.setCell ⟨nQ, 0, none⟩ (.int .i64 sn)).setCell ⟨nQ, 1, none⟩ (.int .i64 st)).setCell ⟨nQ, 2, none⟩ (.slice a2 (pi + (sl - (pi + 1))) cap2) := ⟨_, rfl⟩
      rw [← hwG]
      have HNG := hid (show wG.heap[nQ]? = some (.cells #[.int .i64 sn, .int .i64 st, .slice a2 (pi + (sl - (pi + 1))) cap2] 55) by
        rw [hwG]
        have h := heapSet (o := 2) (.slice a2 (pi + (sl - (pi + 1))) cap2) (heapSet (o := 1) (.int .i64 st) (heapSet (o := 0) (.int .i64 sn) HQc.out))
        simpa only [List.setIfInBounds_toArray, List.set_cons_zero, List.set_cons_succ] using h)
      have hgn := HGNnQ.out
      have HBG := hid (show Below wv.heap.size wv wG by rw [hwG]; exact ((HSc.out.setCell (p := ⟨nQ, 0, none⟩) hgn _).setCell (p := ⟨nQ, 1, none⟩) hgn _).setCell (p := ⟨nQ, 2, none⟩) hgn _)
      have hkg : Kept slK 58 w.heap.size wG (.slice a2 (pi + (sl - (pi + 1))) cap2) (pi + (sl - (pi + 1))) (d.l.take pi ++ d.l.drop (pi + 1)) := by
        have hw := HWS.out
        have hne : (Value.slice a2 (pi + (sl - (pi + 1))) cap2).ownBlock ≠ some nQ := fun e => HNQ.out nQ e rfl
        rw [hwG]
        exact ((HKc.out.set (⟨nQ, 0, none⟩ : Addr) _ (by dsimp only; omega) hne).set (⟨nQ, 1, none⟩ : Addr) _ (by dsimp only; omega) hne).set (⟨nQ, 2, none⟩ : Addr) _ (by dsimp only; omega) hne
      have HSG := hid (show IsSta (· < wG.heap.size) wG ⟨sn, st, a2, pi + (sl - (pi + 1)), cap2⟩ ⟨d.n, d.t, delL d.l kd⟩ by
        refine ⟨HD.out.n, HD.out.rn, HD.out.t, HD.out.rt, ?_⟩
        rw [show delL d.l kd = d.l.take pi ++ d.l.drop (pi + 1) by rw [delL, ← HPI.out]]
        exact hkg.row (Nat.le_trans HWS.out HBG.out.size) (by dsimp only; omega))
      clear hwG hgn hkg
      have HWG := hid (HVA.out.trans (HBG.out.mono HVA.out.size))
      have HC9 : Hid (∀ w', Below wG.heap.size wG w' → (w'.cell? ⟨w7.heap.size, 0, none⟩ = some (.int .i64 cr.n) ∧ w'.cell? ⟨w7.heap.size, 1, none⟩ = some (.int .i64 cr.t) ∧ w'.cell? ⟨w7.heap.size, 2, none⟩ = some (.slice cr.a cr.l cr.c)) ∧ (w'.cell? ⟨nQ, 0, none⟩ = some (.int .i64 sn) ∧ w'.cell? ⟨nQ, 1, none⟩ = some (.int .i64 st) ∧ w'.cell? ⟨nQ, 2, none⟩ = some (.slice a2 (pi + (sl - (pi + 1))) cap2))) := hid fun w' h => by
        have h1 := heapExt (HBG.out.trans (h.mono HBG.out.size)) H7V.out
        have h2 := heapExt h HNG.out
        exact ⟨⟨cellOf h1 0, cellOf h1 1, cellOf h1 2⟩, ⟨cellOf h2 0, cellOf h2 1, cellOf h2 2⟩⟩
      have HSRv : Hid (∀ w', Below wG.heap.size wG w' → IsSta (· < w'.heap.size) w' cr ⟨d.n, d.t, delL d.l kd⟩) := hid fun w' h => HSRV.out w' (HBG.out.trans (h.mono HBG.out.size))
      have HGE : Hid (∀ w', Below wG.heap.size wG w' → Calls Tryz.prog 36 #[.agg #[.int .i64 cr.n, .int .i64 cr.t, .slice cr.a cr.l cr.c], .agg #[.int .i64 k.k, .int .i64 k.i, .int .i64 k.s, .string k.t, .slice k.la k.ll k.lc, .slice k.fa k.fl k.fc]] w' fun e w2 => ∃ y : SlC, e = .returned (.tuple #[.agg #[.int .i64 y.k.k, .int .i64 y.k.i, .int .i64 y.k.s, .string y.k.t, .slice y.k.la y.k.ll y.k.lc, .slice y.k.fa y.k.fl y.k.fc, .int .i64 y.n, .int .i64 y.t, .slice y.ia y.il y.ic, .slice y.va y.vl y.vc], .bool false]) ∧ Below w'.heap.size w' w2) := hid fun w' h => by
        have hc := get_call cr ⟨d.n, d.t, delL d.l kd⟩ k kd w' (HSRv.out w' h) (HUA.out w' (HWG.out.trans (h.mono HWG.out.size))).2.2.2
        refine hc.mono fun e w2 hh => ?_
        obtain ⟨y, dy, q1, q2, _⟩ := hh
        have e1 : findB (delL d.l kd) kd = false := by rw [findB_place (delL_srt HSRT.out kd)]; exact delL_gone HSRT.out HPB.out
        dsimp only at q1
        rw [e1] at q1
        exact ⟨y, q1, q2⟩
      have HSA1 : Hid (∀ w', Below wG.heap.size wG w' → Calls Tryz.prog 41 #[.agg #[.int .i64 cr.n, .int .i64 cr.t, .slice cr.a cr.l cr.c], .agg #[.int .i64 sn, .int .i64 st, .slice a2 (pi + (sl - (pi + 1))) cap2]] w' fun e w2 => e = .returned (.bool true) ∧ Below w'.heap.size w' w2) := hid fun w' h => by
        have hc := sameSta_call cr ⟨sn, st, a2, pi + (sl - (pi + 1)), cap2⟩ _ _ w' (HSRv.out w' h) (HSG.out.same fun b q => ⟨Nat.lt_of_lt_of_le q h.size, h.block b q⟩)
        rw [staEqB_refl] at hc
        exact hc
      have HSO1 : Hid (∀ w', Below wG.heap.size wG w' → Calls Tryz.prog 34 #[.agg #[.int .i64 cr.n, .int .i64 cr.t, .slice cr.a cr.l cr.c]] w' fun e w2 => e = .returned (.bool true) ∧ Below w'.heap.size w' w2) := hid fun w' h => by
        have hc := sorted_call cr _ w' (HSRv.out w' h)
        refine hc.mono fun e w2 hh => ?_
        obtain ⟨⟨b', rfl, _, q⟩, hb⟩ := hh
        obtain rfl : b' = true := q (delL_srt HSRT.out kd)
        exact ⟨rfl, hb⟩
      obtain ⟨⟨k0, k1, k2⟩, ⟨x0, x1, x2, x3, x4, x5, x6, x7, x8, x9⟩, ⟨v0, v1, v2, v3, v4, v5⟩⟩ := HBX.out _ HWG.out
      obtain ⟨⟨u0, u1, u2⟩, ⟨m0, m1, m2⟩⟩ := HC9.out _ (Below.refl _ _)
      go_upto_region 10 with (go_at_call 36; refine (HGE.out _ (Below.refl _ _)).mono ?_; rintro e wh ⟨y, rfl, hbh⟩)
      clear k0 k1 k2 x0 x1 x2 x3 x4 x5 x6 x7 x8 x9 v0 v1 v2 v3 v4 v5 u0 u1 u2 m0 m1 m2
      obtain ⟨wi, hwi⟩ : ∃ u, u = wh.alloc (.cells #[.int .i64 y.k.k, .int .i64 y.k.i, .int .i64 y.k.s, .string y.k.t, .slice y.k.la y.k.ll y.k.lc, .slice y.k.fa y.k.fl y.k.fc, .int .i64 y.n, .int .i64 y.t, .slice y.ia y.il y.ic, .slice y.va y.vl y.vc] 58) := ⟨_, rfl⟩
      rw [← hwi]
      have HBI := hid (show Below wG.heap.size wG wi by rw [hwi]; exact hbh.alloc hbh.size _)
      clear hwi
      obtain ⟨⟨u0, u1, u2⟩, ⟨m0, m1, m2⟩⟩ := HC9.out _ HBI.out
      go_upto_region 12 with (first
        | (go_at_call 34; refine (HSO1.out _ hbj').mono ?_; rintro e wk ⟨rfl, hbk⟩; have hbk' := hbj'.trans (hbk.mono hbj'.size))
        | (go_at_call 41; refine (HSA1.out _ HBI.out).mono ?_; rintro e wj ⟨rfl, hbj⟩; have hbj' := HBI.out.trans (hbj.mono HBI.out.size); clear u0 u1 u2 m0 m1 m2; obtain ⟨⟨u0, u1, u2⟩, ⟨m0, m1, m2⟩⟩ := HC9.out _ hbj'))
      clear u0 u1 u2 m0 m1 m2
      obtain ⟨wT, hwT⟩ : ∃ u, u = wk := ⟨_, rfl⟩
      have HBT := hid (show Below (((w.alloc (.cells #[.int .i64 sn, .int .i64 st, .slice (some ⟨b, o, none⟩) sl sc] 55)).alloc (.cells #[.int .i64 x.k.k, .int .i64 x.k.i, .int .i64 x.k.s, .string x.k.t, .slice x.k.la x.k.ll x.k.lc, .slice x.k.fa x.k.fl x.k.fc, .int .i64 x.n, .int .i64 x.t, .slice x.ia x.il x.ic, .slice x.va x.vl x.vc] 58)).alloc (.cells #[.int .i64 k.k, .int .i64 k.i, .int .i64 k.s, .string k.t, .slice k.la k.ll k.lc, .slice k.fa k.fl k.fc] 28)).heap.size (((w.alloc (.cells #[.int .i64 sn, .int .i64 st, .slice (some ⟨b, o, none⟩) sl sc] 55)).alloc (.cells #[.int .i64 x.k.k, .int .i64 x.k.i, .int .i64 x.k.s, .string x.k.t, .slice x.k.la x.k.ll x.k.lc, .slice x.k.fa x.k.fl x.k.fc, .int .i64 x.n, .int .i64 x.t, .slice x.ia x.il x.ic, .slice x.va x.vl x.vc] 58)).alloc (.cells #[.int .i64 k.k, .int .i64 k.i, .int .i64 k.s, .string k.t, .slice k.la k.ll k.lc, .slice k.fa k.fl k.fc] 28)) wT by rw [hwT]; exact HWG.out.trans (hbk'.mono HWG.out.size))
      rw [← hwT]
      clear hwT
      obtain ⟨pj, hpj⟩ : ∃ p, p = placeI d.l dx.k := ⟨_, rfl⟩
      obtain ⟨pc, hpc⟩ : ∃ p, p = placeB d.l dx.k := ⟨_, rfl⟩
      have HPJ := hid hpj
      have HPC := hid hpc
      have HPX : Hid (∀ w', Below (((w.alloc (.cells #[.int .i64 sn, .int .i64 st, .slice (some ⟨b, o, none⟩) sl sc] 55)).alloc (.cells #[.int .i64 x.k.k, .int .i64 x.k.i, .int .i64 x.k.s, .string x.k.t, .slice x.k.la x.k.ll x.k.lc, .slice x.k.fa x.k.fl x.k.fc, .int .i64 x.n, .int .i64 x.t, .slice x.ia x.il x.ic, .slice x.va x.vl x.vc] 58)).alloc (.cells #[.int .i64 k.k, .int .i64 k.i, .int .i64 k.s, .string k.t, .slice k.la k.ll k.lc, .slice k.fa k.fl k.fc] 28)).heap.size (((w.alloc (.cells #[.int .i64 sn, .int .i64 st, .slice (some ⟨b, o, none⟩) sl sc] 55)).alloc (.cells #[.int .i64 x.k.k, .int .i64 x.k.i, .int .i64 x.k.s, .string x.k.t, .slice x.k.la x.k.ll x.k.lc, .slice x.k.fa x.k.fl x.k.fc, .int .i64 x.n, .int .i64 x.t, .slice x.ia x.il x.ic, .slice x.va x.vl x.vc] 58)).alloc (.cells #[.int .i64 k.k, .int .i64 k.i, .int .i64 k.s, .string k.t, .slice k.la k.ll k.lc, .slice k.fa k.fl k.fc] 28)) w' → Calls Tryz.prog 37 #[.agg #[.int .i64 sn, .int .i64 st, .slice (some ⟨b, o, none⟩) sl sc], .agg #[.int .i64 x.k.k, .int .i64 x.k.i, .int .i64 x.k.s, .string x.k.t, .slice x.k.la x.k.ll x.k.lc, .slice x.k.fa x.k.fl x.k.fc]] w' fun e w2 => e = .returned (.tuple #[.int .i64 (pj : Nat), .bool pc]) ∧ Below w'.heap.size w' w2) := hid fun w' h => by
        have hc := place_call ⟨sn, st, (some ⟨b, o, none⟩), sl, sc⟩ d x.k dx.k w' (HUA.out w' h).2.1 (HUA.out w' h).2.2.1.k
        exact hc.mono fun e w2 h => ⟨h.1.trans (by rw [← hpj, ← hpc]), h.2⟩
      clear hpj hpc
      obtain ⟨⟨k0, k1, k2⟩, ⟨x0, x1, x2, x3, x4, x5, x6, x7, x8, x9⟩, ⟨v0, v1, v2, v3, v4, v5⟩⟩ := HBX.out _ HBT.out
      cases pc with
      | true =>
        go_wp2_with (go_at_call 37; refine (HPX.out _ HBT.out).mono ?_; rintro e wa ⟨rfl, hba⟩)
        go_ret
        exact ⟨rfl, (HUA.out _ (HBT.out.trans (hba.mono HBT.out.size))).1⟩
      | false =>
        have HPP : Hid (∀ w', Below (((w.alloc (.cells #[.int .i64 sn, .int .i64 st, .slice (some ⟨b, o, none⟩) sl sc] 55)).alloc (.cells #[.int .i64 x.k.k, .int .i64 x.k.i, .int .i64 x.k.s, .string x.k.t, .slice x.k.la x.k.ll x.k.lc, .slice x.k.fa x.k.fl x.k.fc, .int .i64 x.n, .int .i64 x.t, .slice x.ia x.il x.ic, .slice x.va x.vl x.vc] 58)).alloc (.cells #[.int .i64 k.k, .int .i64 k.i, .int .i64 k.s, .string k.t, .slice k.la k.ll k.lc, .slice k.fa k.fl k.fc] 28)).heap.size (((w.alloc (.cells #[.int .i64 sn, .int .i64 st, .slice (some ⟨b, o, none⟩) sl sc] 55)).alloc (.cells #[.int .i64 x.k.k, .int .i64 x.k.i, .int .i64 x.k.s, .string x.k.t, .slice x.k.la x.k.ll x.k.lc, .slice x.k.fa x.k.fl x.k.fc, .int .i64 x.n, .int .i64 x.t, .slice x.ia x.il x.ic, .slice x.va x.vl x.vc] 58)).alloc (.cells #[.int .i64 k.k, .int .i64 k.i, .int .i64 k.s, .string k.t, .slice k.la k.ll k.lc, .slice k.fa k.fl k.fc] 28)) w' → Calls Tryz.prog 51 #[.agg #[.int .i64 sn, .int .i64 st, .slice (some ⟨b, o, none⟩) sl sc], .agg #[.int .i64 x.k.k, .int .i64 x.k.i, .int .i64 x.k.s, .string x.k.t, .slice x.k.la x.k.ll x.k.lc, .slice x.k.fa x.k.fl x.k.fc, .int .i64 x.n, .int .i64 x.t, .slice x.ia x.il x.ic, .slice x.va x.vl x.vc]] w' (PutPost2 w' d dx)) := hid fun w' h => by
          obtain ⟨h1, h2, h3, h4⟩ := HUA.out w' h
          exact putF2_call ⟨sn, st, (some ⟨b, o, none⟩), sl, sc⟩ d x dx w' HSRT.out h2 h3 HPC.out.symm (by have := HL.out; omega)
        go_upto_region 16 with (first
          | (go_at_call 51; refine (HPP.out _ hba').mono ?_; rintro e wb ⟨cu, rfl, hbb, hiu⟩; have HIU := hid hiu; clear hiu)
          | (go_at_call 37; refine (HPX.out _ HBT.out).mono ?_; rintro e wa ⟨rfl, hba⟩; have hba' := HBT.out.trans (hba.mono HBT.out.size); clear k0 k1 k2 x0 x1 x2 x3 x4 x5 x6 x7 x8 x9 v0 v1 v2 v3 v4 v5; obtain ⟨⟨k0, k1, k2⟩, ⟨x0, x1, x2, x3, x4, x5, x6, x7, x8, x9⟩, ⟨v0, v1, v2, v3, v4, v5⟩⟩ := HBX.out _ (hba')))
        clear k0 k1 k2 x0 x1 x2 x3 x4 x5 x6 x7 x8 x9 v0 v1 v2 v3 v4 v5
        obtain ⟨wc, hwc⟩ : ∃ u, u = wb.alloc (.cells #[.int .i64 cu.n, .int .i64 cu.t, .slice cu.a cu.l cu.c] 55) := ⟨_, rfl⟩
        rw [← hwc]
        have HBC1 := hid (show Below wb.heap.size wb wc by rw [hwc]; exact (Below.refl _ _).alloc (Nat.le_refl _) _)
        have HWC := hid (hba'.trans ((hbb.trans (HBC1.out.mono hbb.size)).mono hba'.size))
        have H16 := hid (show wc.heap[wb.heap.size]? = some (.cells #[.int .i64 cu.n, .int .i64 cu.t, .slice cu.a cu.l cu.c] 55) by rw [hwc]; exact heap_alloc_new wb _)
        have HSU := hid (show IsSta (· < wc.heap.size) wc cu ⟨d.n, d.t, putL d.l dx⟩ from HIU.out.same fun b q => ⟨by have := HBC1.out.size; omega, HBC1.out.block b q.2⟩)
        clear hwc
        have HRM : Hid (Calls Tryz.prog 53 #[.agg #[.int .i64 cu.n, .int .i64 cu.t, .slice cu.a cu.l cu.c], .agg #[.int .i64 x.k.k, .int .i64 x.k.i, .int .i64 x.k.s, .string x.k.t, .slice x.k.la x.k.ll x.k.lc, .slice x.k.fa x.k.fl x.k.fc]] wc (RemPost wc ⟨d.n, d.t, putL d.l dx⟩ dx.k)) := hid (remT_call cu ⟨d.n, d.t, putL d.l dx⟩ x.k dx.k wc (putL_srt HSRT.out dx) HSU.out (HUA.out _ HWC.out).2.2.1.k (putL_found _ _) (by have := putL_le d.l dx; have := HL.out; dsimp only; omega))
        obtain ⟨⟨k0, k1, k2⟩, ⟨x0, x1, x2, x3, x4, x5, x6, x7, x8, x9⟩, ⟨v0, v1, v2, v3, v4, v5⟩⟩ := HBX.out _ HWC.out
        have u0 := cellOf H16.out 0; have u1 := cellOf H16.out 1; have u2 := cellOf H16.out 2
        (try dsimp only at u0 u1 u2)
        go_upto_region 17 with (go_at_call 53; refine HRM.out.mono ?_; rintro e wd ⟨cb, rfl, hbd, hib⟩; have HIB := hid hib; clear hib)
        clear k0 k1 k2 x0 x1 x2 x3 x4 x5 x6 x7 x8 x9 v0 v1 v2 v3 v4 v5 u0 u1 u2
        obtain ⟨we, hwe⟩ : ∃ u, u = wd.alloc (.cells #[.int .i64 cb.n, .int .i64 cb.t, .slice cb.a cb.l cb.c] 55) := ⟨_, rfl⟩
        rw [← hwe]
        have HBE1 := hid (show Below wd.heap.size wd we by rw [hwe]; exact (Below.refl _ _).alloc (Nat.le_refl _) _)
        have HWE := hid (HWC.out.trans ((hbd.trans (HBE1.out.mono hbd.size)).mono HWC.out.size))
        have H18 := hid (show we.heap[wd.heap.size]? = some (.cells #[.int .i64 cb.n, .int .i64 cb.t, .slice cb.a cb.l cb.c] 55) by rw [hwe]; exact heap_alloc_new wd _)
        clear hwe
        have HSAQ : Hid (Calls Tryz.prog 41 #[.agg #[.int .i64 cb.n, .int .i64 cb.t, .slice cb.a cb.l cb.c], .agg #[.int .i64 sn, .int .i64 st, .slice (some ⟨b, o, none⟩) sl sc]] we fun e w2 => e = .returned (.bool true) ∧ Below we.heap.size we w2) := hid (by
          have h1 : IsSta (· < we.heap.size) we cb ⟨d.n, d.t, delL (putL d.l dx) dx.k⟩ := HIB.out.same fun b q => ⟨by have := HBE1.out.size; omega, HBE1.out.block b q.2⟩
          rw [delL_put HPC.out.symm] at h1
          have hc := sameSta_call cb ⟨sn, st, (some ⟨b, o, none⟩), sl, sc⟩ _ _ we h1 (HUA.out _ HWE.out).2.1
          rw [staEqB_refl] at hc
          exact hc)
        obtain ⟨⟨k0, k1, k2⟩, ⟨x0, x1, x2, x3, x4, x5, x6, x7, x8, x9⟩, ⟨v0, v1, v2, v3, v4, v5⟩⟩ := HBX.out _ HWE.out
        have u0 := cellOf H18.out 0; have u1 := cellOf H18.out 1; have u2 := cellOf H18.out 2
        (try dsimp only at u0 u1 u2)
        go_wp2_with (go_at_call 41; refine HSAQ.out.mono ?_; rintro e wf ⟨rfl, hbf⟩)
        go_ret
        exact ⟨rfl, (HUA.out _ (HWE.out.trans (hbf.mono HWE.out.size))).1⟩
    refine AllReadyH.cons (o := _) rfl (fun K hK => ?_) AllReadyH.nil
    go_simp
    obtain ⟨wQ, hwQ⟩ : ∃ u, u = (wv.alloc (.cells #[.int .i64 0, .int .i64 0, .slice none 0 0] 55)).drew := ⟨_, rfl⟩
    rw [← hwQ]
    obtain ⟨nQ, hnQ⟩ : ∃ u, u = wv.heap.size := ⟨_, rfl⟩
    (try rw [← hnQ])
    have hbwQ : Below wv.heap.size wv wQ := by rw [hwQ]; exact ((Below.refl _ _).alloc (Nat.le_refl _) _).drew
    have hgnQ : wv.heap.size ≤ nQ := by rw [hnQ]; exact Nat.le_refl _
    have HGNnQ := hid hgnQ
    have HSc := hid (show Below wv.heap.size wv wQ from hbwQ)
    have HQc := hid (show wQ.heap[nQ]? = some (.cells #[.int .i64 0, .int .i64 0, .slice none 0 0] 55) by rw [hnQ, hwQ]; exact heap_alloc_new wv _)
    have HQ0 := HQc
    clear hwQ hnQ hbwQ hgnQ
    refine hK.out _ _ (HSc.out) (fun hS => ?_)
    clear hK K
    (try simp only [Act.put, List.getElem_toArray, List.getElem_cons_succ, List.getElem_cons_zero, List.setIfInBounds_toArray, List.set_cons_zero, List.set_cons_succ])
    refine wpAnyH_ready (rs := [4]) (by kernel_rfl) (by simp) ?_
    refine AllReadyH.cons (o := _) rfl (fun K hK => ?_) AllReadyH.nil
    go_simp
    obtain ⟨wE, hwE⟩ : ∃ u, u = wQ.alloc (.cells #[] 58) := ⟨_, rfl⟩
    rw [← hwE]
    obtain ⟨nE, hnE⟩ : ∃ u, u = wQ.heap.size := ⟨_, rfl⟩
    (try rw [← hnE])
    have hbwE : Below wQ.heap.size wQ wE := by rw [hwE]; exact (Below.refl _ _).alloc (Nat.le_refl _) _
    have hgnE : wv.heap.size ≤ nE := by rw [hnE]; exact HSc.out.size
    have HGNnE := hid hgnE
    have HSc0 := HSc
    have HSc := hid (show Below wv.heap.size wv wE from HSc.out.trans (hbwE.mono HSc.out.size))
    have HKc := hid (show Kept slK 58 w.heap.size wE (.slice (some ⟨nE, 0, none⟩) 0 0) 0 [] by rw [hnE, hwE]; exact Kept.made (K := slK) (T := 58) #[] 0 (Nat.le_trans HWS.out HSc0.out.size) (by unfold maxLen; omega) rfl)
    have HATc := hid (show ∀ r, (Value.slice (some ⟨nE, 0, none⟩) 0 0).ownBlock = some r → wv.heap.size ≤ r from fun r e => by injection e with e; rw [← e]; exact HGNnE.out)
    have HQc := hid (heapExt hbwE HQc.out)
    have HNQ := hid (show ∀ r, (Value.slice (some ⟨nE, 0, none⟩) 0 0).ownBlock = some r → r ≠ nQ from fun r e => by have e' : nE = r := Option.some.inj e; have h2 := ltOf HQ0.out; rw [← e', hnE]; omega)
    clear hwE hnE hbwE hgnE
    refine hK.out _ _ (HSc.out) (fun hS => ?_)
    clear hK K
    (try simp only [Act.put, List.getElem_toArray, List.getElem_cons_succ, List.getElem_cons_zero, List.setIfInBounds_toArray, List.set_cons_zero, List.set_cons_succ])
    refine wpAnyH_ready (rs := [9]) (by kernel_rfl) (by simp) ?_
    refine AllReadyH.cons (o := _) rfl (fun K hK => ?_) AllReadyH.nil
    have hct := HCT.out wE HSc.out
    obtain ⟨a1, cap1, w1q, hr1, hk1, hg1, hat1⟩ := run_append_kept (K := slK) (P := Tryz.prog) (w := wE) (ty := 53) Tryz.underlying53 hi hz0 (by rw [hz1]) (by rw [hz2]; omega) rfl one_sl HKc.out sc (cl_take hct.2.1 pi HPL.out) (l2 := d.l.take pi) (by rw [List.length_take]; have := HL.out; have := HPL.out; omega) (take_els hct.2.2 pi) hct.1 (by omega)
    rw [Nat.zero_add] at hr1 hk1 hat1
    rw [List.nil_append] at hk1
    refine step_append_run (by rfl) _ _ _ (by rfl) _ _ _ _ (by rfl) (by rfl) hr1 ?_
    clear hr1 hct
    have HKc := hid hk1
    have hbg : Below wv.heap.size wE w1q := grown_below hg1 HATc.out HSc.out.size
    have HQp := HQc
    have HQc := hid (show w1q.heap[nQ]? = some (.cells #[.int .i64 0, .int .i64 0, .slice none 0 0] 55) from (hg1.block nQ (ltOf HQc.out) (fun e => HNQ.out nQ e.symm rfl)).trans HQc.out)
    have HNQ := hid (show ∀ r, (Value.slice a1 pi cap1).ownBlock = some r → r ≠ nQ from fun r e => (hat1 r e).elim (fun e => HNQ.out r e) (fun e => by rw [e]; have := ltOf HQp.out; omega))
    have HATc := hid (show ∀ r, (Value.slice a1 pi cap1).ownBlock = some r → wv.heap.size ≤ r from fun r e => (hat1 r e).elim (fun e => HATc.out r e) (fun e => by rw [e]; exact HSc.out.size))
    have HSc := hid (HSc.out.trans hbg)
    clear hbg hk1 hat1 hg1
    refine hK.out _ _ (HSc.out) (fun hS => ?_)
    clear hK K
    (try simp only [Act.put, List.getElem_toArray, List.getElem_cons_succ, List.getElem_cons_zero, List.setIfInBounds_toArray, List.set_cons_zero, List.set_cons_succ])
    refine wpAnyH_ready (rs := [15]) (by kernel_rfl) (by simp) ?_
    refine AllReadyH.cons (o := _) rfl (fun K hK => ?_) AllReadyH.nil
    have hct := HCT.out w1q HSc.out
    obtain ⟨a2, cap2, w2q, hr1, hk1, hg1, hat1⟩ := run_append_kept (K := slK) (P := Tryz.prog) (w := w1q) (ty := 53) Tryz.underlying53 hi hz0 (by rw [hz1]) (by rw [hz2]; omega) rfl one_sl HKc.out (sc - (pi + 1)) (hAc.out _ HSc.out) (l2 := d.l.drop (pi + 1)) (by rw [List.length_drop]; have := HL.out; omega) (drop_els hct.2.2 (pi + 1)) hct.1 (by omega)
    skip
    skip
    refine step_append_run (by rfl) _ _ _ (by rfl) _ _ _ _ (by rfl) (by rfl) hr1 ?_
    clear hr1 hct
    have HKc := hid hk1
    have hbg : Below wv.heap.size w1q w2q := grown_below hg1 HATc.out HSc.out.size
    have HQp := HQc
    have HQc := hid (show w2q.heap[nQ]? = some (.cells #[.int .i64 0, .int .i64 0, .slice none 0 0] 55) from (hg1.block nQ (ltOf HQc.out) (fun e => HNQ.out nQ e.symm rfl)).trans HQc.out)
    have HNQ := hid (show ∀ r, (Value.slice a2 (pi + (sl - (pi + 1))) cap2).ownBlock = some r → r ≠ nQ from fun r e => (hat1 r e).elim (fun e => HNQ.out r e) (fun e => by rw [e]; have := ltOf HQp.out; omega))
    have HATc := hid (show ∀ r, (Value.slice a2 (pi + (sl - (pi + 1))) cap2).ownBlock = some r → wv.heap.size ≤ r from fun r e => (hat1 r e).elim (fun e => HATc.out r e) (fun e => by rw [e]; exact HSc.out.size))
    have HSc := hid (HSc.out.trans hbg)
    clear hbg hk1 hat1 hg1
    refine hK.out _ _ (HSc.out) (fun hS => ?_)
    clear hK K
    (try simp only [Act.put, List.getElem_toArray, List.getElem_cons_succ, List.getElem_cons_zero, List.setIfInBounds_toArray, List.set_cons_zero, List.set_cons_succ])
    refine wpAnyH_take (i := 16) (oi := _) (v := ?_) rfl (by kernel_rfl) (by kernel_rfl) (by kernel_rfl) (fun _ _ _ h => h) (Or.inl ⟨by rfl, ?_⟩) hS ?_
    rotate_left
    · intro w' hw'
      have hcells := HC8.out w' hw'
      go_simp
      (try with_reducible rfl)
    simp only [Act.put, List.getElem_toArray, List.getElem_cons_succ, List.getElem_cons_zero, List.setIfInBounds_toArray, List.set_cons_zero, List.set_cons_succ]
    refine wpAnyH_done (by kernel_rfl) ?_ _
    (try dsimp only)
    obtain ⟨wF, hwF⟩ : ∃ u, u = w2q := ⟨_, rfl⟩
    rw [← hwF] at HSc HKc HQc ⊢
    clear hS hwF hA
    have q0 := cellOf HQc.out 0; have q1 := cellOf HQc.out 1; have q2 := cellOf HQc.out 2; have qf0 := freeOf HQc.out 0; have qf1 := freeOf HQc.out 1; have qf2 := freeOf HQc.out 2
    (try dsimp only at q0 q1 q2)
    go_upto_region 9 with (fail)
    clear q0 q1 q2 qf0 qf1 qf2
    obtain ⟨wG, hwG⟩ : ∃ u, u = ((wF.setCell ⟨nQ, 0, none⟩ (.int .i64 sn)).setCell ⟨nQ, 1, none⟩ (.int .i64 st)).setCell ⟨nQ, 2, none⟩ (.slice a2 (pi + (sl - (pi + 1))) cap2) := ⟨_, rfl⟩
    rw [← hwG]
    have HNG := hid (show wG.heap[nQ]? = some (.cells #[.int .i64 sn, .int .i64 st, .slice a2 (pi + (sl - (pi + 1))) cap2] 55) by
      rw [hwG]
      have h := heapSet (o := 2) (.slice a2 (pi + (sl - (pi + 1))) cap2) (heapSet (o := 1) (.int .i64 st) (heapSet (o := 0) (.int .i64 sn) HQc.out))
      simpa only [List.setIfInBounds_toArray, List.set_cons_zero, List.set_cons_succ] using h)
    have hgn := HGNnQ.out
    have HBG := hid (show Below wv.heap.size wv wG by rw [hwG]; exact ((HSc.out.setCell (p := ⟨nQ, 0, none⟩) hgn _).setCell (p := ⟨nQ, 1, none⟩) hgn _).setCell (p := ⟨nQ, 2, none⟩) hgn _)
    have hkg : Kept slK 58 w.heap.size wG (.slice a2 (pi + (sl - (pi + 1))) cap2) (pi + (sl - (pi + 1))) (d.l.take pi ++ d.l.drop (pi + 1)) := by
      have hw := HWS.out
      have hne : (Value.slice a2 (pi + (sl - (pi + 1))) cap2).ownBlock ≠ some nQ := fun e => HNQ.out nQ e rfl
      rw [hwG]
      exact ((HKc.out.set (⟨nQ, 0, none⟩ : Addr) _ (by dsimp only; omega) hne).set (⟨nQ, 1, none⟩ : Addr) _ (by dsimp only; omega) hne).set (⟨nQ, 2, none⟩ : Addr) _ (by dsimp only; omega) hne
    have HSG := hid (show IsSta (· < wG.heap.size) wG ⟨sn, st, a2, pi + (sl - (pi + 1)), cap2⟩ ⟨d.n, d.t, delL d.l kd⟩ by
      refine ⟨HD.out.n, HD.out.rn, HD.out.t, HD.out.rt, ?_⟩
      rw [show delL d.l kd = d.l.take pi ++ d.l.drop (pi + 1) by rw [delL, ← HPI.out]]
      exact hkg.row (Nat.le_trans HWS.out HBG.out.size) (by dsimp only; omega))
    clear hwG hgn hkg
    have HWG := hid (HVA.out.trans (HBG.out.mono HVA.out.size))
    have HC9 : Hid (∀ w', Below wG.heap.size wG w' → (w'.cell? ⟨w7.heap.size, 0, none⟩ = some (.int .i64 cr.n) ∧ w'.cell? ⟨w7.heap.size, 1, none⟩ = some (.int .i64 cr.t) ∧ w'.cell? ⟨w7.heap.size, 2, none⟩ = some (.slice cr.a cr.l cr.c)) ∧ (w'.cell? ⟨nQ, 0, none⟩ = some (.int .i64 sn) ∧ w'.cell? ⟨nQ, 1, none⟩ = some (.int .i64 st) ∧ w'.cell? ⟨nQ, 2, none⟩ = some (.slice a2 (pi + (sl - (pi + 1))) cap2))) := hid fun w' h => by
      have h1 := heapExt (HBG.out.trans (h.mono HBG.out.size)) H7V.out
      have h2 := heapExt h HNG.out
      exact ⟨⟨cellOf h1 0, cellOf h1 1, cellOf h1 2⟩, ⟨cellOf h2 0, cellOf h2 1, cellOf h2 2⟩⟩
    have HSRv : Hid (∀ w', Below wG.heap.size wG w' → IsSta (· < w'.heap.size) w' cr ⟨d.n, d.t, delL d.l kd⟩) := hid fun w' h => HSRV.out w' (HBG.out.trans (h.mono HBG.out.size))
    have HGE : Hid (∀ w', Below wG.heap.size wG w' → Calls Tryz.prog 36 #[.agg #[.int .i64 cr.n, .int .i64 cr.t, .slice cr.a cr.l cr.c], .agg #[.int .i64 k.k, .int .i64 k.i, .int .i64 k.s, .string k.t, .slice k.la k.ll k.lc, .slice k.fa k.fl k.fc]] w' fun e w2 => ∃ y : SlC, e = .returned (.tuple #[.agg #[.int .i64 y.k.k, .int .i64 y.k.i, .int .i64 y.k.s, .string y.k.t, .slice y.k.la y.k.ll y.k.lc, .slice y.k.fa y.k.fl y.k.fc, .int .i64 y.n, .int .i64 y.t, .slice y.ia y.il y.ic, .slice y.va y.vl y.vc], .bool false]) ∧ Below w'.heap.size w' w2) := hid fun w' h => by
      have hc := get_call cr ⟨d.n, d.t, delL d.l kd⟩ k kd w' (HSRv.out w' h) (HUA.out w' (HWG.out.trans (h.mono HWG.out.size))).2.2.2
      refine hc.mono fun e w2 hh => ?_
      obtain ⟨y, dy, q1, q2, _⟩ := hh
      have e1 : findB (delL d.l kd) kd = false := by rw [findB_place (delL_srt HSRT.out kd)]; exact delL_gone HSRT.out HPB.out
      dsimp only at q1
      rw [e1] at q1
      exact ⟨y, q1, q2⟩
    have HSA1 : Hid (∀ w', Below wG.heap.size wG w' → Calls Tryz.prog 41 #[.agg #[.int .i64 cr.n, .int .i64 cr.t, .slice cr.a cr.l cr.c], .agg #[.int .i64 sn, .int .i64 st, .slice a2 (pi + (sl - (pi + 1))) cap2]] w' fun e w2 => e = .returned (.bool true) ∧ Below w'.heap.size w' w2) := hid fun w' h => by
      have hc := sameSta_call cr ⟨sn, st, a2, pi + (sl - (pi + 1)), cap2⟩ _ _ w' (HSRv.out w' h) (HSG.out.same fun b q => ⟨Nat.lt_of_lt_of_le q h.size, h.block b q⟩)
      rw [staEqB_refl] at hc
      exact hc
    have HSO1 : Hid (∀ w', Below wG.heap.size wG w' → Calls Tryz.prog 34 #[.agg #[.int .i64 cr.n, .int .i64 cr.t, .slice cr.a cr.l cr.c]] w' fun e w2 => e = .returned (.bool true) ∧ Below w'.heap.size w' w2) := hid fun w' h => by
      have hc := sorted_call cr _ w' (HSRv.out w' h)
      refine hc.mono fun e w2 hh => ?_
      obtain ⟨⟨b', rfl, _, q⟩, hb⟩ := hh
      obtain rfl : b' = true := q (delL_srt HSRT.out kd)
      exact ⟨rfl, hb⟩
    obtain ⟨⟨k0, k1, k2⟩, ⟨x0, x1, x2, x3, x4, x5, x6, x7, x8, x9⟩, ⟨v0, v1, v2, v3, v4, v5⟩⟩ := HBX.out _ HWG.out
    obtain ⟨⟨u0, u1, u2⟩, ⟨m0, m1, m2⟩⟩ := HC9.out _ (Below.refl _ _)
    go_upto_region 10 with (go_at_call 36; refine (HGE.out _ (Below.refl _ _)).mono ?_; rintro e wh ⟨y, rfl, hbh⟩)
    clear k0 k1 k2 x0 x1 x2 x3 x4 x5 x6 x7 x8 x9 v0 v1 v2 v3 v4 v5 u0 u1 u2 m0 m1 m2
    obtain ⟨wi, hwi⟩ : ∃ u, u = wh.alloc (.cells #[.int .i64 y.k.k, .int .i64 y.k.i, .int .i64 y.k.s, .string y.k.t, .slice y.k.la y.k.ll y.k.lc, .slice y.k.fa y.k.fl y.k.fc, .int .i64 y.n, .int .i64 y.t, .slice y.ia y.il y.ic, .slice y.va y.vl y.vc] 58) := ⟨_, rfl⟩
    rw [← hwi]
    have HBI := hid (show Below wG.heap.size wG wi by rw [hwi]; exact hbh.alloc hbh.size _)
    clear hwi
    obtain ⟨⟨u0, u1, u2⟩, ⟨m0, m1, m2⟩⟩ := HC9.out _ HBI.out
    go_upto_region 12 with (first
      | (go_at_call 34; refine (HSO1.out _ hbj').mono ?_; rintro e wk ⟨rfl, hbk⟩; have hbk' := hbj'.trans (hbk.mono hbj'.size))
      | (go_at_call 41; refine (HSA1.out _ HBI.out).mono ?_; rintro e wj ⟨rfl, hbj⟩; have hbj' := HBI.out.trans (hbj.mono HBI.out.size); clear u0 u1 u2 m0 m1 m2; obtain ⟨⟨u0, u1, u2⟩, ⟨m0, m1, m2⟩⟩ := HC9.out _ hbj'))
    clear u0 u1 u2 m0 m1 m2
    obtain ⟨wT, hwT⟩ : ∃ u, u = wk := ⟨_, rfl⟩
    have HBT := hid (show Below (((w.alloc (.cells #[.int .i64 sn, .int .i64 st, .slice (some ⟨b, o, none⟩) sl sc] 55)).alloc (.cells #[.int .i64 x.k.k, .int .i64 x.k.i, .int .i64 x.k.s, .string x.k.t, .slice x.k.la x.k.ll x.k.lc, .slice x.k.fa x.k.fl x.k.fc, .int .i64 x.n, .int .i64 x.t, .slice x.ia x.il x.ic, .slice x.va x.vl x.vc] 58)).alloc (.cells #[.int .i64 k.k, .int .i64 k.i, .int .i64 k.s, .string k.t, .slice k.la k.ll k.lc, .slice k.fa k.fl k.fc] 28)).heap.size (((w.alloc (.cells #[.int .i64 sn, .int .i64 st, .slice (some ⟨b, o, none⟩) sl sc] 55)).alloc (.cells #[.int .i64 x.k.k, .int .i64 x.k.i, .int .i64 x.k.s, .string x.k.t, .slice x.k.la x.k.ll x.k.lc, .slice x.k.fa x.k.fl x.k.fc, .int .i64 x.n, .int .i64 x.t, .slice x.ia x.il x.ic, .slice x.va x.vl x.vc] 58)).alloc (.cells #[.int .i64 k.k, .int .i64 k.i, .int .i64 k.s, .string k.t, .slice k.la k.ll k.lc, .slice k.fa k.fl k.fc] 28)) wT by rw [hwT]; exact HWG.out.trans (hbk'.mono HWG.out.size))
    rw [← hwT]
    clear hwT
    obtain ⟨pj, hpj⟩ : ∃ p, p = placeI d.l dx.k := ⟨_, rfl⟩
    obtain ⟨pc, hpc⟩ : ∃ p, p = placeB d.l dx.k := ⟨_, rfl⟩
    have HPJ := hid hpj
    have HPC := hid hpc
    have HPX : Hid (∀ w', Below (((w.alloc (.cells #[.int .i64 sn, .int .i64 st, .slice (some ⟨b, o, none⟩) sl sc] 55)).alloc (.cells #[.int .i64 x.k.k, .int .i64 x.k.i, .int .i64 x.k.s, .string x.k.t, .slice x.k.la x.k.ll x.k.lc, .slice x.k.fa x.k.fl x.k.fc, .int .i64 x.n, .int .i64 x.t, .slice x.ia x.il x.ic, .slice x.va x.vl x.vc] 58)).alloc (.cells #[.int .i64 k.k, .int .i64 k.i, .int .i64 k.s, .string k.t, .slice k.la k.ll k.lc, .slice k.fa k.fl k.fc] 28)).heap.size (((w.alloc (.cells #[.int .i64 sn, .int .i64 st, .slice (some ⟨b, o, none⟩) sl sc] 55)).alloc (.cells #[.int .i64 x.k.k, .int .i64 x.k.i, .int .i64 x.k.s, .string x.k.t, .slice x.k.la x.k.ll x.k.lc, .slice x.k.fa x.k.fl x.k.fc, .int .i64 x.n, .int .i64 x.t, .slice x.ia x.il x.ic, .slice x.va x.vl x.vc] 58)).alloc (.cells #[.int .i64 k.k, .int .i64 k.i, .int .i64 k.s, .string k.t, .slice k.la k.ll k.lc, .slice k.fa k.fl k.fc] 28)) w' → Calls Tryz.prog 37 #[.agg #[.int .i64 sn, .int .i64 st, .slice (some ⟨b, o, none⟩) sl sc], .agg #[.int .i64 x.k.k, .int .i64 x.k.i, .int .i64 x.k.s, .string x.k.t, .slice x.k.la x.k.ll x.k.lc, .slice x.k.fa x.k.fl x.k.fc]] w' fun e w2 => e = .returned (.tuple #[.int .i64 (pj : Nat), .bool pc]) ∧ Below w'.heap.size w' w2) := hid fun w' h => by
      have hc := place_call ⟨sn, st, (some ⟨b, o, none⟩), sl, sc⟩ d x.k dx.k w' (HUA.out w' h).2.1 (HUA.out w' h).2.2.1.k
      exact hc.mono fun e w2 h => ⟨h.1.trans (by rw [← hpj, ← hpc]), h.2⟩
    clear hpj hpc
    obtain ⟨⟨k0, k1, k2⟩, ⟨x0, x1, x2, x3, x4, x5, x6, x7, x8, x9⟩, ⟨v0, v1, v2, v3, v4, v5⟩⟩ := HBX.out _ HBT.out
    cases pc with
    | true =>
      go_wp2_with (go_at_call 37; refine (HPX.out _ HBT.out).mono ?_; rintro e wa ⟨rfl, hba⟩)
      go_ret
      exact ⟨rfl, (HUA.out _ (HBT.out.trans (hba.mono HBT.out.size))).1⟩
    | false =>
      have HPP : Hid (∀ w', Below (((w.alloc (.cells #[.int .i64 sn, .int .i64 st, .slice (some ⟨b, o, none⟩) sl sc] 55)).alloc (.cells #[.int .i64 x.k.k, .int .i64 x.k.i, .int .i64 x.k.s, .string x.k.t, .slice x.k.la x.k.ll x.k.lc, .slice x.k.fa x.k.fl x.k.fc, .int .i64 x.n, .int .i64 x.t, .slice x.ia x.il x.ic, .slice x.va x.vl x.vc] 58)).alloc (.cells #[.int .i64 k.k, .int .i64 k.i, .int .i64 k.s, .string k.t, .slice k.la k.ll k.lc, .slice k.fa k.fl k.fc] 28)).heap.size (((w.alloc (.cells #[.int .i64 sn, .int .i64 st, .slice (some ⟨b, o, none⟩) sl sc] 55)).alloc (.cells #[.int .i64 x.k.k, .int .i64 x.k.i, .int .i64 x.k.s, .string x.k.t, .slice x.k.la x.k.ll x.k.lc, .slice x.k.fa x.k.fl x.k.fc, .int .i64 x.n, .int .i64 x.t, .slice x.ia x.il x.ic, .slice x.va x.vl x.vc] 58)).alloc (.cells #[.int .i64 k.k, .int .i64 k.i, .int .i64 k.s, .string k.t, .slice k.la k.ll k.lc, .slice k.fa k.fl k.fc] 28)) w' → Calls Tryz.prog 51 #[.agg #[.int .i64 sn, .int .i64 st, .slice (some ⟨b, o, none⟩) sl sc], .agg #[.int .i64 x.k.k, .int .i64 x.k.i, .int .i64 x.k.s, .string x.k.t, .slice x.k.la x.k.ll x.k.lc, .slice x.k.fa x.k.fl x.k.fc, .int .i64 x.n, .int .i64 x.t, .slice x.ia x.il x.ic, .slice x.va x.vl x.vc]] w' (PutPost2 w' d dx)) := hid fun w' h => by
        obtain ⟨h1, h2, h3, h4⟩ := HUA.out w' h
        exact putF2_call ⟨sn, st, (some ⟨b, o, none⟩), sl, sc⟩ d x dx w' HSRT.out h2 h3 HPC.out.symm (by have := HL.out; omega)
      go_upto_region 16 with (first
        | (go_at_call 51; refine (HPP.out _ hba').mono ?_; rintro e wb ⟨cu, rfl, hbb, hiu⟩; have HIU := hid hiu; clear hiu)
        | (go_at_call 37; refine (HPX.out _ HBT.out).mono ?_; rintro e wa ⟨rfl, hba⟩; have hba' := HBT.out.trans (hba.mono HBT.out.size); clear k0 k1 k2 x0 x1 x2 x3 x4 x5 x6 x7 x8 x9 v0 v1 v2 v3 v4 v5; obtain ⟨⟨k0, k1, k2⟩, ⟨x0, x1, x2, x3, x4, x5, x6, x7, x8, x9⟩, ⟨v0, v1, v2, v3, v4, v5⟩⟩ := HBX.out _ (hba')))
      clear k0 k1 k2 x0 x1 x2 x3 x4 x5 x6 x7 x8 x9 v0 v1 v2 v3 v4 v5
      obtain ⟨wc, hwc⟩ : ∃ u, u = wb.alloc (.cells #[.int .i64 cu.n, .int .i64 cu.t, .slice cu.a cu.l cu.c] 55) := ⟨_, rfl⟩
      rw [← hwc]
      have HBC1 := hid (show Below wb.heap.size wb wc by rw [hwc]; exact (Below.refl _ _).alloc (Nat.le_refl _) _)
      have HWC := hid (hba'.trans ((hbb.trans (HBC1.out.mono hbb.size)).mono hba'.size))
      have H16 := hid (show wc.heap[wb.heap.size]? = some (.cells #[.int .i64 cu.n, .int .i64 cu.t, .slice cu.a cu.l cu.c] 55) by rw [hwc]; exact heap_alloc_new wb _)
      have HSU := hid (show IsSta (· < wc.heap.size) wc cu ⟨d.n, d.t, putL d.l dx⟩ from HIU.out.same fun b q => ⟨by have := HBC1.out.size; omega, HBC1.out.block b q.2⟩)
      clear hwc
      have HRM : Hid (Calls Tryz.prog 53 #[.agg #[.int .i64 cu.n, .int .i64 cu.t, .slice cu.a cu.l cu.c], .agg #[.int .i64 x.k.k, .int .i64 x.k.i, .int .i64 x.k.s, .string x.k.t, .slice x.k.la x.k.ll x.k.lc, .slice x.k.fa x.k.fl x.k.fc]] wc (RemPost wc ⟨d.n, d.t, putL d.l dx⟩ dx.k)) := hid (remT_call cu ⟨d.n, d.t, putL d.l dx⟩ x.k dx.k wc (putL_srt HSRT.out dx) HSU.out (HUA.out _ HWC.out).2.2.1.k (putL_found _ _) (by have := putL_le d.l dx; have := HL.out; dsimp only; omega))
      obtain ⟨⟨k0, k1, k2⟩, ⟨x0, x1, x2, x3, x4, x5, x6, x7, x8, x9⟩, ⟨v0, v1, v2, v3, v4, v5⟩⟩ := HBX.out _ HWC.out
      have u0 := cellOf H16.out 0; have u1 := cellOf H16.out 1; have u2 := cellOf H16.out 2
      (try dsimp only at u0 u1 u2)
      go_upto_region 17 with (go_at_call 53; refine HRM.out.mono ?_; rintro e wd ⟨cb, rfl, hbd, hib⟩; have HIB := hid hib; clear hib)
      clear k0 k1 k2 x0 x1 x2 x3 x4 x5 x6 x7 x8 x9 v0 v1 v2 v3 v4 v5 u0 u1 u2
      obtain ⟨we, hwe⟩ : ∃ u, u = wd.alloc (.cells #[.int .i64 cb.n, .int .i64 cb.t, .slice cb.a cb.l cb.c] 55) := ⟨_, rfl⟩
      rw [← hwe]
      have HBE1 := hid (show Below wd.heap.size wd we by rw [hwe]; exact (Below.refl _ _).alloc (Nat.le_refl _) _)
      have HWE := hid (HWC.out.trans ((hbd.trans (HBE1.out.mono hbd.size)).mono HWC.out.size))
      have H18 := hid (show we.heap[wd.heap.size]? = some (.cells #[.int .i64 cb.n, .int .i64 cb.t, .slice cb.a cb.l cb.c] 55) by rw [hwe]; exact heap_alloc_new wd _)
      clear hwe
      have HSAQ : Hid (Calls Tryz.prog 41 #[.agg #[.int .i64 cb.n, .int .i64 cb.t, .slice cb.a cb.l cb.c], .agg #[.int .i64 sn, .int .i64 st, .slice (some ⟨b, o, none⟩) sl sc]] we fun e w2 => e = .returned (.bool true) ∧ Below we.heap.size we w2) := hid (by
        have h1 : IsSta (· < we.heap.size) we cb ⟨d.n, d.t, delL (putL d.l dx) dx.k⟩ := HIB.out.same fun b q => ⟨by have := HBE1.out.size; omega, HBE1.out.block b q.2⟩
        rw [delL_put HPC.out.symm] at h1
        have hc := sameSta_call cb ⟨sn, st, (some ⟨b, o, none⟩), sl, sc⟩ _ _ we h1 (HUA.out _ HWE.out).2.1
        rw [staEqB_refl] at hc
        exact hc)
      obtain ⟨⟨k0, k1, k2⟩, ⟨x0, x1, x2, x3, x4, x5, x6, x7, x8, x9⟩, ⟨v0, v1, v2, v3, v4, v5⟩⟩ := HBX.out _ HWE.out
      have u0 := cellOf H18.out 0; have u1 := cellOf H18.out 1; have u2 := cellOf H18.out 2
      (try dsimp only at u0 u1 u2)
      go_wp2_with (go_at_call 41; refine HSAQ.out.mono ?_; rintro e wf ⟨rfl, hbf⟩)
      go_ret
      exact ⟨rfl, (HUA.out _ (HWE.out.trans (hbf.mono HWE.out.size))).1⟩
  | false =>
    have HPB := hid hpb.symm
    clear hpb
    have HRC : Hid (Calls Tryz.prog 53 #[.agg #[.int .i64 sn, .int .i64 st, .slice a sl sc], .agg #[.int .i64 k.k, .int .i64 k.i, .int .i64 k.s, .string k.t, .slice k.la k.ll k.lc, .slice k.fa k.fl k.fc]] w6 fun e w' => e = .returned (.tuple #[.agg #[.int .i64 0, .int .i64 0, .slice none 0 0], .bool false]) ∧ Below w6.heap.size w6 w') := hid (remF_call ⟨sn, st, a, sl, sc⟩ d k kd w6 HSRT.out (HUA.out _ hb6).2.1 (HUA.out _ hb6).2.2.2 HPB.out)
    have HSZ : Hid (∀ w', Calls Tryz.prog 41 #[.agg #[.int .i64 0, .int .i64 0, .slice none 0 0], .agg #[.int .i64 0, .int .i64 0, .slice none 0 0]] w' fun e w2 => e = .returned (.bool true) ∧ Below w'.heap.size w' w2) := hid fun w' => by
      have z : IsSta (· < w'.heap.size) w' ⟨0, 0, none, 0, 0⟩ ⟨0, 0, []⟩ := ⟨rfl, (show I64 0 from ⟨by decide, by decide⟩), rfl, (show I64 0 from ⟨by decide, by decide⟩), row_nil' _ _⟩
      have hc := sameSta_call ⟨0, 0, none, 0, 0⟩ ⟨0, 0, none, 0, 0⟩ _ _ w' z z
      rw [staEqB_refl] at hc
      exact hc
    go_upto_region 12 with (first
      | (go_at_call 41; refine (HSZ.out _).mono ?_; rintro e wq ⟨rfl, hbq⟩; have hbq' := hbp'.trans (hbq.mono hbp'.size))
      | (go_at_call 37; refine (HPLC.out _ hb8).mono ?_; rintro e wp ⟨rfl, hbp⟩; have hbp' := hb8.trans (hbp.mono hb8.size); have g7 := heapExt hbp H7N.out; have u0 := cellOf g7 0; have u1 := cellOf g7 1; have u2 := cellOf g7 2; (try dsimp only at u0 u1 u2); clear g7; clear k0 k1 k2 x0 x1 x2 x3 x4 x5 x6 x7 x8 x9 v0 v1 v2 v3 v4 v5; obtain ⟨⟨k0, k1, k2⟩, ⟨x0, x1, x2, x3, x4, x5, x6, x7, x8, x9⟩, ⟨v0, v1, v2, v3, v4, v5⟩⟩ := HBX.out _ (hbp'))
      | (go_at_call 53; refine HRC.out.mono ?_; rintro e w7 ⟨rfl, hb7⟩; have hb7' := hb6.trans (hb7.mono hb6.size); have hb8 := hb7'.alloc hb7'.size (.cells #[.int .i64 0, .int .i64 0, .slice none 0 0] 55); have H7N := hid (heap_alloc_new w7 (.cells #[.int .i64 0, .int .i64 0, .slice none 0 0] 55)); clear hb7; clear k0 k1 k2 x0 x1 x2 x3 x4 x5 x6 x7 x8 x9 v0 v1 v2 v3 v4 v5; obtain ⟨⟨k0, k1, k2⟩, ⟨x0, x1, x2, x3, x4, x5, x6, x7, x8, x9⟩, ⟨v0, v1, v2, v3, v4, v5⟩⟩ := HBX.out _ (hb8)))
    clear k0 k1 k2 x0 x1 x2 x3 x4 x5 x6 x7 x8 x9 v0 v1 v2 v3 v4 v5 u0 u1 u2
    obtain ⟨wT, hwT⟩ : ∃ u, u = wq := ⟨_, rfl⟩
    have HBT := hid (show Below (((w.alloc (.cells #[.int .i64 sn, .int .i64 st, .slice a sl sc] 55)).alloc (.cells #[.int .i64 x.k.k, .int .i64 x.k.i, .int .i64 x.k.s, .string x.k.t, .slice x.k.la x.k.ll x.k.lc, .slice x.k.fa x.k.fl x.k.fc, .int .i64 x.n, .int .i64 x.t, .slice x.ia x.il x.ic, .slice x.va x.vl x.vc] 58)).alloc (.cells #[.int .i64 k.k, .int .i64 k.i, .int .i64 k.s, .string k.t, .slice k.la k.ll k.lc, .slice k.fa k.fl k.fc] 28)).heap.size (((w.alloc (.cells #[.int .i64 sn, .int .i64 st, .slice a sl sc] 55)).alloc (.cells #[.int .i64 x.k.k, .int .i64 x.k.i, .int .i64 x.k.s, .string x.k.t, .slice x.k.la x.k.ll x.k.lc, .slice x.k.fa x.k.fl x.k.fc, .int .i64 x.n, .int .i64 x.t, .slice x.ia x.il x.ic, .slice x.va x.vl x.vc] 58)).alloc (.cells #[.int .i64 k.k, .int .i64 k.i, .int .i64 k.s, .string k.t, .slice k.la k.ll k.lc, .slice k.fa k.fl k.fc] 28)) wT by rw [hwT]; exact hbq')
    rw [← hwT]
    clear hwT
    obtain ⟨pj, hpj⟩ : ∃ p, p = placeI d.l dx.k := ⟨_, rfl⟩
    obtain ⟨pc, hpc⟩ : ∃ p, p = placeB d.l dx.k := ⟨_, rfl⟩
    have HPJ := hid hpj
    have HPC := hid hpc
    have HPX : Hid (∀ w', Below (((w.alloc (.cells #[.int .i64 sn, .int .i64 st, .slice a sl sc] 55)).alloc (.cells #[.int .i64 x.k.k, .int .i64 x.k.i, .int .i64 x.k.s, .string x.k.t, .slice x.k.la x.k.ll x.k.lc, .slice x.k.fa x.k.fl x.k.fc, .int .i64 x.n, .int .i64 x.t, .slice x.ia x.il x.ic, .slice x.va x.vl x.vc] 58)).alloc (.cells #[.int .i64 k.k, .int .i64 k.i, .int .i64 k.s, .string k.t, .slice k.la k.ll k.lc, .slice k.fa k.fl k.fc] 28)).heap.size (((w.alloc (.cells #[.int .i64 sn, .int .i64 st, .slice a sl sc] 55)).alloc (.cells #[.int .i64 x.k.k, .int .i64 x.k.i, .int .i64 x.k.s, .string x.k.t, .slice x.k.la x.k.ll x.k.lc, .slice x.k.fa x.k.fl x.k.fc, .int .i64 x.n, .int .i64 x.t, .slice x.ia x.il x.ic, .slice x.va x.vl x.vc] 58)).alloc (.cells #[.int .i64 k.k, .int .i64 k.i, .int .i64 k.s, .string k.t, .slice k.la k.ll k.lc, .slice k.fa k.fl k.fc] 28)) w' → Calls Tryz.prog 37 #[.agg #[.int .i64 sn, .int .i64 st, .slice a sl sc], .agg #[.int .i64 x.k.k, .int .i64 x.k.i, .int .i64 x.k.s, .string x.k.t, .slice x.k.la x.k.ll x.k.lc, .slice x.k.fa x.k.fl x.k.fc]] w' fun e w2 => e = .returned (.tuple #[.int .i64 (pj : Nat), .bool pc]) ∧ Below w'.heap.size w' w2) := hid fun w' h => by
      have hc := place_call ⟨sn, st, a, sl, sc⟩ d x.k dx.k w' (HUA.out w' h).2.1 (HUA.out w' h).2.2.1.k
      exact hc.mono fun e w2 h => ⟨h.1.trans (by rw [← hpj, ← hpc]), h.2⟩
    clear hpj hpc
    obtain ⟨⟨k0, k1, k2⟩, ⟨x0, x1, x2, x3, x4, x5, x6, x7, x8, x9⟩, ⟨v0, v1, v2, v3, v4, v5⟩⟩ := HBX.out _ HBT.out
    cases pc with
    | true =>
      go_wp2_with (go_at_call 37; refine (HPX.out _ HBT.out).mono ?_; rintro e wa ⟨rfl, hba⟩)
      go_ret
      exact ⟨rfl, (HUA.out _ (HBT.out.trans (hba.mono HBT.out.size))).1⟩
    | false =>
      have HPP : Hid (∀ w', Below (((w.alloc (.cells #[.int .i64 sn, .int .i64 st, .slice a sl sc] 55)).alloc (.cells #[.int .i64 x.k.k, .int .i64 x.k.i, .int .i64 x.k.s, .string x.k.t, .slice x.k.la x.k.ll x.k.lc, .slice x.k.fa x.k.fl x.k.fc, .int .i64 x.n, .int .i64 x.t, .slice x.ia x.il x.ic, .slice x.va x.vl x.vc] 58)).alloc (.cells #[.int .i64 k.k, .int .i64 k.i, .int .i64 k.s, .string k.t, .slice k.la k.ll k.lc, .slice k.fa k.fl k.fc] 28)).heap.size (((w.alloc (.cells #[.int .i64 sn, .int .i64 st, .slice a sl sc] 55)).alloc (.cells #[.int .i64 x.k.k, .int .i64 x.k.i, .int .i64 x.k.s, .string x.k.t, .slice x.k.la x.k.ll x.k.lc, .slice x.k.fa x.k.fl x.k.fc, .int .i64 x.n, .int .i64 x.t, .slice x.ia x.il x.ic, .slice x.va x.vl x.vc] 58)).alloc (.cells #[.int .i64 k.k, .int .i64 k.i, .int .i64 k.s, .string k.t, .slice k.la k.ll k.lc, .slice k.fa k.fl k.fc] 28)) w' → Calls Tryz.prog 51 #[.agg #[.int .i64 sn, .int .i64 st, .slice a sl sc], .agg #[.int .i64 x.k.k, .int .i64 x.k.i, .int .i64 x.k.s, .string x.k.t, .slice x.k.la x.k.ll x.k.lc, .slice x.k.fa x.k.fl x.k.fc, .int .i64 x.n, .int .i64 x.t, .slice x.ia x.il x.ic, .slice x.va x.vl x.vc]] w' (PutPost2 w' d dx)) := hid fun w' h => by
        obtain ⟨h1, h2, h3, h4⟩ := HUA.out w' h
        exact putF2_call ⟨sn, st, a, sl, sc⟩ d x dx w' HSRT.out h2 h3 HPC.out.symm (by have := HL.out; omega)
      go_upto_region 16 with (first
        | (go_at_call 51; refine (HPP.out _ hba').mono ?_; rintro e wb ⟨cu, rfl, hbb, hiu⟩; have HIU := hid hiu; clear hiu)
        | (go_at_call 37; refine (HPX.out _ HBT.out).mono ?_; rintro e wa ⟨rfl, hba⟩; have hba' := HBT.out.trans (hba.mono HBT.out.size); clear k0 k1 k2 x0 x1 x2 x3 x4 x5 x6 x7 x8 x9 v0 v1 v2 v3 v4 v5; obtain ⟨⟨k0, k1, k2⟩, ⟨x0, x1, x2, x3, x4, x5, x6, x7, x8, x9⟩, ⟨v0, v1, v2, v3, v4, v5⟩⟩ := HBX.out _ (hba')))
      clear k0 k1 k2 x0 x1 x2 x3 x4 x5 x6 x7 x8 x9 v0 v1 v2 v3 v4 v5
      obtain ⟨wc, hwc⟩ : ∃ u, u = wb.alloc (.cells #[.int .i64 cu.n, .int .i64 cu.t, .slice cu.a cu.l cu.c] 55) := ⟨_, rfl⟩
      rw [← hwc]
      have HBC1 := hid (show Below wb.heap.size wb wc by rw [hwc]; exact (Below.refl _ _).alloc (Nat.le_refl _) _)
      have HWC := hid (hba'.trans ((hbb.trans (HBC1.out.mono hbb.size)).mono hba'.size))
      have H16 := hid (show wc.heap[wb.heap.size]? = some (.cells #[.int .i64 cu.n, .int .i64 cu.t, .slice cu.a cu.l cu.c] 55) by rw [hwc]; exact heap_alloc_new wb _)
      have HSU := hid (show IsSta (· < wc.heap.size) wc cu ⟨d.n, d.t, putL d.l dx⟩ from HIU.out.same fun b q => ⟨by have := HBC1.out.size; omega, HBC1.out.block b q.2⟩)
      clear hwc
      have HRM : Hid (Calls Tryz.prog 53 #[.agg #[.int .i64 cu.n, .int .i64 cu.t, .slice cu.a cu.l cu.c], .agg #[.int .i64 x.k.k, .int .i64 x.k.i, .int .i64 x.k.s, .string x.k.t, .slice x.k.la x.k.ll x.k.lc, .slice x.k.fa x.k.fl x.k.fc]] wc (RemPost wc ⟨d.n, d.t, putL d.l dx⟩ dx.k)) := hid (remT_call cu ⟨d.n, d.t, putL d.l dx⟩ x.k dx.k wc (putL_srt HSRT.out dx) HSU.out (HUA.out _ HWC.out).2.2.1.k (putL_found _ _) (by have := putL_le d.l dx; have := HL.out; dsimp only; omega))
      obtain ⟨⟨k0, k1, k2⟩, ⟨x0, x1, x2, x3, x4, x5, x6, x7, x8, x9⟩, ⟨v0, v1, v2, v3, v4, v5⟩⟩ := HBX.out _ HWC.out
      have u0 := cellOf H16.out 0; have u1 := cellOf H16.out 1; have u2 := cellOf H16.out 2
      (try dsimp only at u0 u1 u2)
      go_upto_region 17 with (go_at_call 53; refine HRM.out.mono ?_; rintro e wd ⟨cb, rfl, hbd, hib⟩; have HIB := hid hib; clear hib)
      clear k0 k1 k2 x0 x1 x2 x3 x4 x5 x6 x7 x8 x9 v0 v1 v2 v3 v4 v5 u0 u1 u2
      obtain ⟨we, hwe⟩ : ∃ u, u = wd.alloc (.cells #[.int .i64 cb.n, .int .i64 cb.t, .slice cb.a cb.l cb.c] 55) := ⟨_, rfl⟩
      rw [← hwe]
      have HBE1 := hid (show Below wd.heap.size wd we by rw [hwe]; exact (Below.refl _ _).alloc (Nat.le_refl _) _)
      have HWE := hid (HWC.out.trans ((hbd.trans (HBE1.out.mono hbd.size)).mono HWC.out.size))
      have H18 := hid (show we.heap[wd.heap.size]? = some (.cells #[.int .i64 cb.n, .int .i64 cb.t, .slice cb.a cb.l cb.c] 55) by rw [hwe]; exact heap_alloc_new wd _)
      clear hwe
      have HSAQ : Hid (Calls Tryz.prog 41 #[.agg #[.int .i64 cb.n, .int .i64 cb.t, .slice cb.a cb.l cb.c], .agg #[.int .i64 sn, .int .i64 st, .slice a sl sc]] we fun e w2 => e = .returned (.bool true) ∧ Below we.heap.size we w2) := hid (by
        have h1 : IsSta (· < we.heap.size) we cb ⟨d.n, d.t, delL (putL d.l dx) dx.k⟩ := HIB.out.same fun b q => ⟨by have := HBE1.out.size; omega, HBE1.out.block b q.2⟩
        rw [delL_put HPC.out.symm] at h1
        have hc := sameSta_call cb ⟨sn, st, a, sl, sc⟩ _ _ we h1 (HUA.out _ HWE.out).2.1
        rw [staEqB_refl] at hc
        exact hc)
      obtain ⟨⟨k0, k1, k2⟩, ⟨x0, x1, x2, x3, x4, x5, x6, x7, x8, x9⟩, ⟨v0, v1, v2, v3, v4, v5⟩⟩ := HBX.out _ HWE.out
      have u0 := cellOf H18.out 0; have u1 := cellOf H18.out 1; have u2 := cellOf H18.out 2
      (try dsimp only at u0 u1 u2)
      go_wp2_with (go_at_call 41; refine HSAQ.out.mono ?_; rintro e wf ⟨rfl, hbf⟩)
      go_ret
      exact ⟨rfl, (HUA.out _ (HWE.out.trans (hbf.mono HWE.out.size))).1⟩
end Go.Proofs.YthjlgpmajeafpaaGreatDoor
