/-
  manifoldlaw30.check returns the first error of a state. Conditions: the state can be read as data; Tabs.
-/
import Derived.Test.YthjlgpmajeafpaaGreatDoorSymmMrg
import Derived.Test.YthjlgpmajeafpaaGreatDoorFateAMrg
namespace Go.Proofs.YthjlgpmajeafpaaGreatDoor
open Go Go.RowKit Go.Shelf
set_option linter.unusedVariables false
set_option linter.unusedSimpArgs false

theorem in_call (n t : Int) (w : World) : Calls Tryz.prog 79 #[.int .i64 n, .int .i64 t] w fun e w' => e = .returned (.bool (decide (numE n t = 0))) ∧ w = w' := by
  go_enter Tryz.func79, Tryz.ntmps79
  by_cases h1 : -999999999999999 ≤ n <;> by_cases h2 : n ≤ 999999999999999 <;> by_cases h3 : 0 ≤ t <;> by_cases h4 : t ≤ 17592186044416
  all_goals go_wp2
  all_goals go_ret
  all_goals (refine ⟨retB ?_, rfl⟩; rw [numE]; split <;> simp <;> omega)
theorem numE_two {n t : Int} (h : ¬ numE n t = 0) : numE n t = 2 := by
  rw [numE] at h ⊢
  split
  · rfl
  · rename_i h2; exact absurd (if_neg h2) h
theorem slotE_bad {acc : List Msg} {nv : Nat} {x : Slot} (h : ¬ numE x.n x.t = 0) : (slotE acc nv x).1 = 2 := by rw [slotE, if_pos h]; exact numE_two h
theorem restE {acc : List Msg} {nv : Nat} {x : Slot} (h : numE x.n x.t = 0) (r : List Slot) : (if (slotE acc nv x).1 ≠ 0 then (slotE acc nv x).1 else slotsE (some x.k) (slotE acc nv x).2.1 (slotE acc nv x).2.2 r) =
    if (itemsE acc x.items).1 ≠ 0 then (itemsE acc x.items).1 else if (valsE nv x.vals).1 ≠ 0 then (valsE nv x.vals).1 else slotsE (some x.k) (itemsE acc x.items).2 (valsE nv x.vals).2 r := by
  have h1 : slotE acc nv x = if (itemsE acc x.items).1 ≠ 0 then ((itemsE acc x.items).1, (itemsE acc x.items).2, nv) else ((valsE nv x.vals).1, (itemsE acc x.items).2, (valsE nv x.vals).2) := by rw [slotE, if_neg (fun g => g h)]
  by_cases q : (itemsE acc x.items).1 = 0
  · have h2 : slotE acc nv x = ((valsE nv x.vals).1, (itemsE acc x.items).2, (valsE nv x.vals).2) := by rw [h1]; simp [q]
    rw [h2]; simp [q]
  · have h2 : slotE acc nv x = ((itemsE acc x.items).1, (itemsE acc x.items).2, nv) := by rw [h1]; simp [q]
    rw [h2]; simp [q]

set_option maxRecDepth 100000 in
set_option maxHeartbeats 16000000 in
theorem lawCheck30_call (c : StC) (d : Sta) (w : World) (hd : IsSta (· < w.heap.size) w c d) (hT : Tabs w) : Calls Tryz.prog 32 #[c.v] w fun e w' => e = .returned (.int .i64 (checkE d)) ∧ Below w.heap.size w w' := by
  obtain ⟨ti, hi, hz0, hz1, hz2⟩ := info_parts infoSt
  obtain ⟨sn, st, a, sl, sc⟩ := c
  have hbig := hd.l.big
  have HL := hid hd.l.len
  have HDL := hid hd.l
  have HT := hid hT
  have HNT := hid (And.intro hd.n hd.t)
  dsimp only at hbig HL HDL HNT
  obtain ⟨wb, hwb⟩ : ∃ wb, wb = w.alloc (.cells #[.int .i64 sn, .int .i64 st, .slice a sl sc] 55) := ⟨_, rfl⟩
  have hb0 : Below w.heap.size w wb := by rw [hwb]; exact (Below.refl _ w).alloc (Nat.le_refl _) _
  have hsb : wb.heap.size = w.heap.size + 1 := by rw [hwb]; simp
  have g1 : wb.heap[w.heap.size]? = some (.cells #[.int .i64 sn, .int .i64 st, .slice a sl sc] 55) := by rw [hwb]; exact heap_alloc_new w _
  have HWB := hid hwb
  have HB0 := hid hb0
  have G1 := hid g1
  have HSB := hid hsb
  clear hd hT hwb hb0 hsb
  have k0 := cellOf g1 0
  have k1 := cellOf g1 1
  have k2 := cellOf g1 2
  (try dsimp only at k0 k1 k2)
  rw [HWB.out] at k0 k1 k2
  clear g1
  dsimp only [StC.v]
  go_enter Tryz.func32, Tryz.ntmps32
  obtain ⟨u, hu⟩ : ∃ u, u = decide (numE sn st = 0) := ⟨_, rfl⟩
  have HU := hid hu
  have HNU : Hid (∀ w', Calls Tryz.prog 79 #[.int .i64 sn, .int .i64 st] w' fun e w2 => e = .returned (.bool u) ∧ w' = w2) := hid fun w' => by rw [hu]; exact in_call sn st w'
  clear hu
  cases u with
  | false =>
    have h1 : ¬ numE sn st = 0 := of_decide_eq_false HU.out.symm
    have r := hid (show checkE d = 2 by rw [checkE, ← HNT.out.1, ← HNT.out.2, if_pos h1]; exact numE_two h1)
    clear h1
    go_wp2_with (go_at_call 79; refine (HNU.out _).mono ?_; rintro e w2 ⟨rfl, rfl⟩)
    go_ret
    exact ⟨retI r.out.symm, by rw [← HWB.out]; exact HB0.out⟩
  | true =>
  have HU0 := hid (show numE sn st = 0 from of_decide_eq_true HU.out.symm)
  by_cases hbl : 1024 < sl
  · have hbl' : (1024 : Int) < (sl : Int) := by omega
    have r := hid (show checkE d = 9 by rw [checkE, ← HNT.out.1, ← HNT.out.2, if_neg (fun h => h HU0.out), if_pos (by rw [← HL.out]; exact hbl)])
    go_wp2_with (go_at_call 79; refine (HNU.out _).mono ?_; rintro e w2 ⟨rfl, rfl⟩)
    go_ret
    exact ⟨retI r.out.symm, by rw [← HWB.out]; exact HB0.out⟩
  have hbl' : ¬ (1024 : Int) < (sl : Int) := by omega
  have R0 := hid (show checkE d = slotsE none [] 0 d.l by rw [checkE, ← HNT.out.1, ← HNT.out.2, if_neg (fun h => h HU0.out), if_neg (by rw [← HL.out]; exact hbl)])
  go_wp2_with (go_at_call 79; refine (HNU.out _).mono ?_; rintro e w2 ⟨rfl, rfl⟩)
  clear k0 k1 k2 HNU HU HU0 HNT
  rw [← HWB.out]
  go_loopw [3, 4, 5] (fun s nvv i wr => ∃ (k nv la : Nat) (acc : List Msg) (s1 : Value), s1 = s ∧ la = acc.length ∧ k ≤ sl ∧ i = .int .i64 k ∧ nvv = .int .i64 nv ∧ KeepB (w.heap.size + 1) wb [] wr ∧ Kept stK 24 (w.heap.size + 1) wr s1 la (acc.map (·.st)) ∧ slotsE none [] 0 d.l = slotsE (prevK d.l k) acc nv (d.l.drop k) ∧ la ≤ 256 ∧ nv ≤ 4096) (fun _ _ i _ => sl - (intOf i).toNat)
  case atStart => exact ⟨0, 0, 0, [], _, rfl, rfl, Nat.zero_le _, rfl, rfl, ⟨Below.refl _ _, by have := HSB.out; omega, fun p hp => by simp at hp⟩, Kept.nil _ _ _, by rw [List.drop_zero]; rfl, by omega, by omega⟩
  case round =>
  obtain ⟨k, nv, la, acc, s0, rfl, hla, hks, rfl, rfl, hkb, hrb, hit, hm4, hv4⟩ := hrel
  have HLA := hid hla
  clear hla
  obtain ⟨wp, rfl⟩ : ∃ w1 : World, w1 = wr := ⟨_, rfl⟩
  have hbwp := hkb.b
  have HIT := hid hit
  have HBWP := hid hbwp
  have HRB := hid hrb
  have hsz : w.heap.size + 1 ≤ wp.heap.size := hkb.n
  have HNB := hid (show ∀ r, s0.ownBlock = some r → r ≠ wp.heap.size from fun r e => by have := (hrb.own r e).2; omega)
  clear hit hkb hrb
  by_cases hlt : k < sl
  · have hkl : k < d.l.length := by have := HL.out; omega
    obtain ⟨b, o, rfl, hb, hx⟩ := HDL.out.slot (show 0 < sl by omega)
    obtain ⟨x, hxa, hxi⟩ := hx k hkl
    obtain ⟨ds, hds⟩ : ∃ ds, ds = d.l[k] := ⟨_, rfl⟩
    rw [← hds] at hxi
    have HDR := hid (show d.l.drop k = ds :: d.l.drop (k + 1) by rw [hds]; exact List.drop_eq_getElem_cons hkl)
    have HPN := hid (show prevK d.l (k + 1) = some ds.k by rw [hds]; exact prevK_succ d.l k hkl)
    clear hds
    have hbw : Below w.heap.size w wp := HB0.out.trans (hbwp.mono (by omega))
    obtain ⟨x0, x1, x2, x3, x4, x5, x6, x7, x8, x9⟩ := (hxa.same (hbw.block b hb)).slot
    have hlt' : (k : Int) < (sl : Int) := by omega
    have hk0 : (0 : Int) ≤ (k : Int) := by omega
    have hsl : (sl : Int) ≤ 1024 := by omega
    have HB := hid hb
    have HX := hid hx
    have HXI := hid (show IsSl (· < w.heap.size) w x ds from hxi)
    have HLI := hid hxi.items.len
    have HLV := hid hxi.vals.len
    have HDI := hid hxi.items
    have HDV := hid hxi.vals
    have hbigI := hxi.items.big
    have hbigV := hxi.vals.big
    dsimp only at hbigI hbigV
    obtain ⟨pn, hpn⟩ : ∃ pn, pn = decide (numE ds.n ds.t = 0) := ⟨_, rfl⟩
    have HIN : Hid (∀ w', Calls Tryz.prog 79 #[.int .i64 x.n, .int .i64 x.t] w' fun e w2 => e = .returned (.bool pn) ∧ w' = w2) := hid fun w' => by rw [hpn, ← HXI.out.n, ← HXI.out.t]; exact in_call x.n x.t w'
    have HPN0 := hid hpn
    have HBA := hid (show Below (w.heap.size + 1) wp (wp.alloc (.cells #[.int .i64 x.k.k, .int .i64 x.k.i, .int .i64 x.k.s, .string x.k.t, .slice x.k.la x.k.ll x.k.lc, .slice x.k.fa x.k.fl x.k.fc, .int .i64 x.n, .int .i64 x.t, .slice x.ia x.il x.ic, .slice x.va x.vl x.vc] 58)) from (Below.refl _ wp).alloc (by omega) _)
    have HSA := hid (show w.heap.size + 1 ≤ (wp.alloc (.cells #[.int .i64 x.k.k, .int .i64 x.k.i, .int .i64 x.k.s, .string x.k.t, .slice x.k.la x.k.ll x.k.lc, .slice x.k.fa x.k.fl x.k.fc, .int .i64 x.n, .int .i64 x.t, .slice x.ia x.il x.ic, .slice x.va x.vl x.vc] 58)).heap.size by simp; omega)
    have HC : Hid (∀ w', Below (wp.alloc (.cells #[.int .i64 x.k.k, .int .i64 x.k.i, .int .i64 x.k.s, .string x.k.t, .slice x.k.la x.k.ll x.k.lc, .slice x.k.fa x.k.fl x.k.fc, .int .i64 x.n, .int .i64 x.t, .slice x.ia x.il x.ic, .slice x.va x.vl x.vc] 58)).heap.size (wp.alloc (.cells #[.int .i64 x.k.k, .int .i64 x.k.i, .int .i64 x.k.s, .string x.k.t, .slice x.k.la x.k.ll x.k.lc, .slice x.k.fa x.k.fl x.k.fc, .int .i64 x.n, .int .i64 x.t, .slice x.ia x.il x.ic, .slice x.va x.vl x.vc] 58)) w' → (w'.cell? ⟨w.heap.size, 0, none⟩ = some (.int .i64 sn) ∧ w'.cell? ⟨w.heap.size, 1, none⟩ = some (.int .i64 st) ∧ w'.cell? ⟨w.heap.size, 2, none⟩ = some (.slice (some ⟨b, o, none⟩) sl sc)) ∧ (w'.cell? ⟨wp.heap.size, 0, none⟩ = some (.int .i64 x.k.k) ∧ w'.cell? ⟨wp.heap.size, 1, none⟩ = some (.int .i64 x.k.i) ∧ w'.cell? ⟨wp.heap.size, 2, none⟩ = some (.int .i64 x.k.s) ∧ w'.cell? ⟨wp.heap.size, 3, none⟩ = some (.string x.k.t) ∧ w'.cell? ⟨wp.heap.size, 4, none⟩ = some (.slice x.k.la x.k.ll x.k.lc) ∧ w'.cell? ⟨wp.heap.size, 5, none⟩ = some (.slice x.k.fa x.k.fl x.k.fc) ∧ w'.cell? ⟨wp.heap.size, 6, none⟩ = some (.int .i64 x.n) ∧ w'.cell? ⟨wp.heap.size, 7, none⟩ = some (.int .i64 x.t) ∧ w'.cell? ⟨wp.heap.size, 8, none⟩ = some (.slice x.ia x.il x.ic) ∧ w'.cell? ⟨wp.heap.size, 9, none⟩ = some (.slice x.va x.vl x.vc))) := hid fun w' h => by
      have h1 := heapExt h (heap_alloc_new wp (.cells #[.int .i64 x.k.k, .int .i64 x.k.i, .int .i64 x.k.s, .string x.k.t, .slice x.k.la x.k.ll x.k.lc, .slice x.k.fa x.k.fl x.k.fc, .int .i64 x.n, .int .i64 x.t, .slice x.ia x.il x.ic, .slice x.va x.vl x.vc] 58))
      have h2 := heapExt h (heapAlloc (.cells #[.int .i64 x.k.k, .int .i64 x.k.i, .int .i64 x.k.s, .string x.k.t, .slice x.k.la x.k.ll x.k.lc, .slice x.k.fa x.k.fl x.k.fc, .int .i64 x.n, .int .i64 x.t, .slice x.ia x.il x.ic, .slice x.va x.vl x.vc] 58) (heapBelow hbwp G1.out (by omega)))
      exact ⟨⟨cellOf h2 0, cellOf h2 1, cellOf h2 2⟩, cellOf h1 0, cellOf h1 1, cellOf h1 2, cellOf h1 3, cellOf h1 4, cellOf h1 5, cellOf h1 6, cellOf h1 7, cellOf h1 8, cellOf h1 9⟩
    have hbwa : Below w.heap.size w (wp.alloc (.cells #[.int .i64 x.k.k, .int .i64 x.k.i, .int .i64 x.k.s, .string x.k.t, .slice x.k.la x.k.ll x.k.lc, .slice x.k.fa x.k.fl x.k.fc, .int .i64 x.n, .int .i64 x.t, .slice x.ia x.il x.ic, .slice x.va x.vl x.vc] 58)) := hbw.alloc hbw.size _
    obtain ⟨v, hv⟩ : ∃ v, v = chkVal ds.k := ⟨_, rfl⟩
    obtain ⟨z, hz⟩ : ∃ z, z = isNullV ds.k := ⟨_, rfl⟩
    have HVC : Hid (∀ w', Below (wp.alloc (.cells #[.int .i64 x.k.k, .int .i64 x.k.i, .int .i64 x.k.s, .string x.k.t, .slice x.k.la x.k.ll x.k.lc, .slice x.k.fa x.k.fl x.k.fc, .int .i64 x.n, .int .i64 x.t, .slice x.ia x.il x.ic, .slice x.va x.vl x.vc] 58)).heap.size (wp.alloc (.cells #[.int .i64 x.k.k, .int .i64 x.k.i, .int .i64 x.k.s, .string x.k.t, .slice x.k.la x.k.ll x.k.lc, .slice x.k.fa x.k.fl x.k.fc, .int .i64 x.n, .int .i64 x.t, .slice x.ia x.il x.ic, .slice x.va x.vl x.vc] 58)) w' → Calls Tryz.prog 75 #[.agg #[.int .i64 x.k.k, .int .i64 x.k.i, .int .i64 x.k.s, .string x.k.t, .slice x.k.la x.k.ll x.k.lc, .slice x.k.fa x.k.fl x.k.fc]] w' fun e w2 => e = .returned (.int .i64 v) ∧ Below w'.heap.size w' w2) := hid fun w' h => by
      have hw := hbwa.trans (h.mono hbwa.size)
      have hs := hw.size
      rw [hv]; exact check_call x.k _ _ (HXI.out.k.same fun b q => ⟨by omega, hw.block b q⟩) (HT.out.below hw)
    have HIS : Hid (Calls Tryz.prog 76 #[.agg #[.int .i64 x.k.k, .int .i64 x.k.i, .int .i64 x.k.s, .string x.k.t, .slice x.k.la x.k.ll x.k.lc, .slice x.k.fa x.k.fl x.k.fc]] (wp.alloc (.cells #[.int .i64 x.k.k, .int .i64 x.k.i, .int .i64 x.k.s, .string x.k.t, .slice x.k.la x.k.ll x.k.lc, .slice x.k.fa x.k.fl x.k.fc, .int .i64 x.n, .int .i64 x.t, .slice x.ia x.il x.ic, .slice x.va x.vl x.vc] 58)) fun e w2 => e = .returned (.bool z) ∧ Below (wp.alloc (.cells #[.int .i64 x.k.k, .int .i64 x.k.i, .int .i64 x.k.s, .string x.k.t, .slice x.k.la x.k.ll x.k.lc, .slice x.k.fa x.k.fl x.k.fc, .int .i64 x.n, .int .i64 x.t, .slice x.ia x.il x.ic, .slice x.va x.vl x.vc] 58)).heap.size (wp.alloc (.cells #[.int .i64 x.k.k, .int .i64 x.k.i, .int .i64 x.k.s, .string x.k.t, .slice x.k.la x.k.ll x.k.lc, .slice x.k.fa x.k.fl x.k.fc, .int .i64 x.n, .int .i64 x.t, .slice x.ia x.il x.ic, .slice x.va x.vl x.vc] 58)) w2) := hid (by rw [hz, isNullV_of hxi.k]; exact isNull_call _ _ _ _ _ _ _ _ _ _ _)
    have HV := hid hv
    have HZ := hid hz
    have p2 := cellOf (heapBelow hbwp G1.out (by omega)) 2
    (try dsimp only at p2)
    clear hxa hxi hx hb hbw hbwa hv hz hbwp hpn
    obtain ⟨⟨q0, q1, q2⟩, m0, m1, m2, m3, m4, m5, m6, m7, m8, m9⟩ := HC.out _ (Below.refl _ _)
    cases z with
    | true =>
      have HKEY := hid (show ¬ (chkVal ds.k ≠ 0 ∧ isNullV ds.k = false) from fun h => by rw [← HZ.out] at h; cases h.2)
      by_cases hkz : k = 0
      · have hkf : decide ((0 : Int) < (k : Int)) = false := by simp; omega
        have hkf2 : decide (0 < k) = false := by simp; omega
        have HKZ := hid (show prevK d.l k = none by rw [hkz, prevK])
        clear hkz
        have HNEXT := hid (show slotsE none [] 0 d.l = if (slotE acc nv ds).1 ≠ 0 then (slotE acc nv ds).1 else slotsE (some ds.k) (slotE acc nv ds).2.1 (slotE acc nv ds).2.2 (d.l.drop (k + 1)) by
          rw [HIT.out, HDR.out, slotsE, if_neg HKEY.out, if_neg (by rw [HKZ.out]; exact (show ¬ (1 : Int) = 0 by decide)), if_neg (by rw [HKZ.out]; exact (show ¬ (1 : Int) = -1 by decide))])
        go_upto_region 21 with (go_at_call 76; refine HIS.out.mono ?_; rintro e w3 ⟨rfl, hb3⟩; clear q0 q1 q2 m0 m1 m2 m3 m4 m5 m6 m7 m8 m9; obtain ⟨⟨q0, q1, q2⟩, m0, m1, m2, m3, m4, m5, m6, m7, m8, m9⟩ := HC.out _ (hb3))
        cases pn with
        | false =>
          have r := hid (show checkE d = 2 by rw [R0.out, HNEXT.out, if_pos (by rw [slotE_bad (of_decide_eq_false HPN0.out.symm)]; decide), slotE_bad (of_decide_eq_false HPN0.out.symm)])
          go_wp2_with (go_at_call 79; refine (HIN.out _).mono ?_; rintro e w5 ⟨rfl, rfl⟩)
          go_ret
          exact ⟨retI r.out.symm, HB0.out.trans ((HBWP.out.trans (HBA.out.trans (hb3.mono HSA.out))).mono (by omega))⟩
        | true =>
          have HREST := hid (HNEXT.out.trans (restE (of_decide_eq_true HPN0.out.symm) _))
          go_wp2_with (go_at_call 79; refine (HIN.out _).mono ?_; rintro e w5 ⟨rfl, rfl⟩)
          have hup := HBWP.out.trans (HBA.out.trans (hb3.mono HSA.out))
          have HKB0 : Hid (KeepB (w.heap.size + 1) wb [(wp.heap.size, (.cells #[.int .i64 x.k.k, .int .i64 x.k.i, .int .i64 x.k.s, .string x.k.t, .slice x.k.la x.k.ll x.k.lc, .slice x.k.fa x.k.fl x.k.fc, .int .i64 x.n, .int .i64 x.t, .slice x.ia x.il x.ic, .slice x.va x.vl x.vc] 58))] w3) := hid ⟨hup, by have h1 := hup.size; have h2 := HSB.out; omega, fun p hp => by
            simp only [List.mem_cons, List.not_mem_nil, or_false] at hp
            rw [hp]
            exact heapExt hb3 (heap_alloc_new wp (.cells #[.int .i64 x.k.k, .int .i64 x.k.i, .int .i64 x.k.s, .string x.k.t, .slice x.k.la x.k.ll x.k.lc, .slice x.k.fa x.k.fl x.k.fc, .int .i64 x.n, .int .i64 x.t, .slice x.ia x.il x.ic, .slice x.va x.vl x.vc] 58))⟩
          have HRB0 := hid (HRB.out.ext (by omega) (((Below.refl _ wp).alloc (Nat.le_refl _) (.cells #[.int .i64 x.k.k, .int .i64 x.k.i, .int .i64 x.k.s, .string x.k.t, .slice x.k.la x.k.ll x.k.lc, .slice x.k.fa x.k.fl x.k.fc, .int .i64 x.n, .int .i64 x.t, .slice x.ia x.il x.ic, .slice x.va x.vl x.vc] 58)).trans (hb3.mono (by simp))))
          clear hup hb3 q0 q1 q2 m0 m1 m2 m3 m4 m5 m6 m7 m8 m9 HNEXT
          go_loopw [3, 8] (fun s i wr => ∃ (j ln : Nat) (acc1 : List Msg) (s1 : Value), s1 = s ∧ ln = acc1.length ∧ j ≤ x.il ∧ i = .int .i64 j ∧ KeepB (w.heap.size + 1) wb [(wp.heap.size, (.cells #[.int .i64 x.k.k, .int .i64 x.k.i, .int .i64 x.k.s, .string x.k.t, .slice x.k.la x.k.ll x.k.lc, .slice x.k.fa x.k.fl x.k.fc, .int .i64 x.n, .int .i64 x.t, .slice x.ia x.il x.ic, .slice x.va x.vl x.vc] 58))] wr ∧ Kept stK 24 (w.heap.size + 1) wr s1 ln (acc1.map (·.st)) ∧ (∀ r, s1.ownBlock = some r → r ≠ wp.heap.size) ∧ itemsE acc ds.items = itemsE acc1 (ds.items.drop j) ∧ ln ≤ 256) (fun _ i _ => x.il - (intOf i).toNat)
          case atStart => exact ⟨0, la, acc, _, rfl, HLA.out, Nat.zero_le _, rfl, HKB0.out, HRB0.out, HNB.out, by rw [List.drop_zero], hm4⟩
          case round =>
          obtain ⟨j, ln, acc1, s1, rfl, hln, hj, rfl, hkb, hrb, hnb, hit1, hm1⟩ := hrel
          have HLN := hid hln
          clear hln
          obtain ⟨wq, rfl⟩ : ∃ w1 : World, w1 = wr := ⟨_, rfl⟩
          obtain ⟨va, vcap, rfl, hvc⟩ := hrb.shape
          clear HKB0 HRB0
          have HIT1 := hid hit1
          have HNB1 := hid hnb
          have HKB1 := hid hkb
          have HRB1 := hid hrb
          have hrb' := fun r e => (Kept.own (K := stK) HRB1.out r e)
          have HRO1 := hid hrb'
          clear hit1 hnb hrb hrb'
          by_cases hlt : j < x.il
          · have hjl : j < ds.items.length := by have := HLI.out; omega
            obtain ⟨bi, oi, hia, hbi, hx⟩ := HDI.out.slot (show 0 < x.il by omega)
            obtain ⟨y, hya, hyi⟩ := hx j hjl
            obtain ⟨dm, hdm⟩ : ∃ dm, dm = ds.items[j] := ⟨_, rfl⟩
            have HDI1 := hid (show ds.items.drop j = dm :: ds.items.drop (j + 1) by rw [hdm]; exact List.drop_eq_getElem_cons hjl)
            rw [← hdm] at hyi
            have HYI := hid (show IsMsg (· < w.heap.size) w y dm from hyi)
            have hw := HB0.out.trans (hkb.b.mono (by omega))
            have HCY : Hid (∀ w', KeepB (w.heap.size + 1) wb [(wp.heap.size, (.cells #[.int .i64 x.k.k, .int .i64 x.k.i, .int .i64 x.k.s, .string x.k.t, .slice x.k.la x.k.ll x.k.lc, .slice x.k.fa x.k.fl x.k.fc, .int .i64 x.n, .int .i64 x.t, .slice x.ia x.il x.ic, .slice x.va x.vl x.vc] 58))] w' → (w'.cell? ⟨wp.heap.size, 3 + 5, none⟩ = some (.slice (some ⟨bi, oi, none⟩) x.il x.ic)) ∧ (w'.cell? ⟨bi, oi + j * 10, none⟩ = some (.int .i64 y.st.e) ∧ w'.cell? ⟨bi, oi + j * 10 + 1, none⟩ = some (.slice y.st.a y.st.n y.st.c) ∧ w'.cell? ⟨bi, oi + j * 10 + 2, none⟩ = some (.int .i64 y.m) ∧ w'.cell? ⟨bi, oi + j * 10 + 3, none⟩ = some (.slice y.a y.n y.c) ∧ w'.cell? ⟨bi, oi + j * 10 + 4, none⟩ = some (.int .i64 y.b.k) ∧ w'.cell? ⟨bi, oi + j * 10 + 5, none⟩ = some (.int .i64 y.b.i) ∧ w'.cell? ⟨bi, oi + j * 10 + 6, none⟩ = some (.int .i64 y.b.s) ∧ w'.cell? ⟨bi, oi + j * 10 + 7, none⟩ = some (.string y.b.t) ∧ w'.cell? ⟨bi, oi + j * 10 + 8, none⟩ = some (.slice y.b.la y.b.ll y.b.lc) ∧ w'.cell? ⟨bi, oi + j * 10 + 9, none⟩ = some (.slice y.b.fa y.b.fl y.b.fc))) := hid fun w' h => by
              have h8 := cellOf (h.at 0 (by simp)) 8
              (try dsimp only [List.getElem_cons_zero] at h8)
              have hw' := HB0.out.trans (h.b.mono (by omega))
              obtain ⟨y0, y1, y2, y3, y4, y5, y6, y7, y8, y9⟩ := (hya.same (hw'.block bi hbi)).m
              exact ⟨h8.trans (by rw [hia]; rfl), y0, y1, y2, y3, y4, y5, y6, y7, y8, y9⟩
            obtain ⟨v1, hv⟩ : ∃ v1, v1 = msgE dm := ⟨_, rfl⟩
            have HMC : Hid (Calls Tryz.prog 80 #[.agg #[.int .i64 y.st.e, .slice y.st.a y.st.n y.st.c, .int .i64 y.m, .slice y.a y.n y.c, .int .i64 y.b.k, .int .i64 y.b.i, .int .i64 y.b.s, .string y.b.t, .slice y.b.la y.b.ll y.b.lc, .slice y.b.fa y.b.fl y.b.fc]] wq fun e w' => e = .returned (.int .i64 v1) ∧ Below wq.heap.size wq w') := hid (by rw [hv]; exact msgCheck_call y _ _ (hyi.same fun b q => ⟨by have := hkb.n; omega, hw.block b q⟩) (HT.out.below hw))
            have HV1 := hid hv
            have hlt' : (j : Int) < (x.il : Int) := by omega
            have hj0 : (0 : Int) ≤ (j : Int) := by omega
            clear hx hya hyi hia hbi hdm hv
            obtain ⟨q8, y0, y1, y2, y3, y4, y5, y6, y7, y8, y9⟩ := HCY.out _ hkb
            clear hkb
            by_cases ha : ln = 256
            · have ha1 : (256 : Int) ≤ (ln : Int) := by omega
              have ha2 : 256 ≤ ln := by omega
              have r := hid (show checkE d = 9 by rw [R0.out, HREST.out, HIT1.out, HDI1.out, itemsE, if_pos (HLN.out.symm.trans ha), if_pos (show (9 : Int) ≠ 0 by decide)])
              clear ha
              go_wp2
              go_ret
              exact ⟨retI r.out.symm, hw⟩
            have ha1 : ¬ (256 : Int) ≤ (ln : Int) := by omega
            have ha2 : ¬ 256 ≤ ln := by omega
            have ha3 : ln < 256 := by omega
            have HA6 := hid ha
            clear ha
            by_cases hv0 : v1 = 0
            case neg =>
              have r := hid (show checkE d = v1 by rw [R0.out, HREST.out, HIT1.out, HDI1.out, itemsE, if_neg (fun h => HA6.out (HLN.out.trans h)), ← HV1.out, if_pos hv0, if_pos hv0])
              go_wp2_with (go_at_call 80; refine HMC.out.mono ?_; rintro e w5 ⟨rfl, hb5⟩)
              go_ret
              exact ⟨retI r.out.symm, HB0.out.trans ((HKB1.out.ext hb5).b.mono (by omega))⟩
            case pos =>
            subst hv0
            go_wp2_with (go_at_call 80; refine HMC.out.mono ?_; rintro e w5 ⟨rfl, hb5⟩)
            have HKB2 := hid (HKB1.out.ext hb5)
            have HRB2 := hid (HRB1.out.ext HKB1.out.n hb5)
            clear q8 y0 y1 y2 y3 y4 y5 y6 y7 y8 y9 hb5 HMC
            go_loopw [10] (fun i wr => ∃ q : Nat, q ≤ ln ∧ i = .int .i64 q ∧ KeepB (w.heap.size + 1) wb [(wp.heap.size, (.cells #[.int .i64 x.k.k, .int .i64 x.k.i, .int .i64 x.k.s, .string x.k.t, .slice x.k.la x.k.ll x.k.lc, .slice x.k.fa x.k.fl x.k.fc, .int .i64 x.n, .int .i64 x.t, .slice x.ia x.il x.ic, .slice x.va x.vl x.vc] 58))] wr ∧ Kept stK 24 (w.heap.size + 1) wr (.slice va ln vcap) ln (acc1.map (·.st)) ∧ ∀ p (hp : p < acc1.length), p < q → stEqB acc1[p].st dm.st = false) (fun i _ => ln - (intOf i).toNat)
            case atStart => exact ⟨0, Nat.zero_le _, rfl, HKB2.out, HRB2.out, fun p _ h => absurd h (Nat.not_lt_zero p)⟩
            case round =>
            obtain ⟨q, hq, rfl, hkb, hrb, hall⟩ := hrel
            obtain ⟨ws, rfl⟩ : ∃ w1 : World, w1 = wr := ⟨_, rfl⟩
            clear HKB2 HRB2
            have HALL := hid hall
            have HKBS := hid hkb
            have HRBS := hid hrb
            by_cases hlt : q < ln
            · have hql : q < acc1.length := by have := HLN.out; omega
              have hrow := hrb.row hkb.n (by dsimp only; omega)
              obtain ⟨bs, os, rfl, hbs, hx⟩ := hrow.slot (show 0 < ln by omega)
              obtain ⟨z, hza, hzi⟩ := hx q (by rw [List.length_map]; exact hql)
              rw [List.getElem_map] at hzi
              obtain ⟨p, hp⟩ : ∃ p, p = stEqB acc1[q].st dm.st := ⟨_, rfl⟩
              have HSE : Hid (∀ w', Below ws.heap.size ws w' → Calls Tryz.prog 70 #[.agg #[.int .i64 z.e, .slice z.a z.n z.c], .agg #[.int .i64 y.st.e, .slice y.st.a y.st.n y.st.c]] w' fun e w2 => e = .returned (.bool p) ∧ Below w'.heap.size w' w2) := hid fun w' h => by
                have hk := HKBS.out.ext h
                have hs := h.size
                have hs2 := hk.n
                have hw := HB0.out.trans (hk.b.mono (by omega))
                rw [hp]
                exact stEqual_call z y.st _ _ w' (hzi.same fun b q => ⟨by omega, h.block b q⟩) (HYI.out.st.same fun b q => ⟨by omega, hw.block b q⟩)
              have HP1 := hid hp
              have HC5 : Hid (∀ w', Below ws.heap.size ws w' → (w'.cell? ⟨bs, os + q * 2, none⟩ = some (.int .i64 z.e) ∧ w'.cell? ⟨bs, os + q * 2 + 1, none⟩ = some (.slice z.a z.n z.c)) ∧ (w'.cell? ⟨wp.heap.size, 3 + 5, none⟩ = some (.slice (some ⟨bi, oi, none⟩) x.il x.ic)) ∧ (w'.cell? ⟨bi, oi + j * 10, none⟩ = some (.int .i64 y.st.e) ∧ w'.cell? ⟨bi, oi + j * 10 + 1, none⟩ = some (.slice y.st.a y.st.n y.st.c))) := hid fun w' h => by
                obtain ⟨z0, z1⟩ := (hza.same (h.block bs hbs)).two
                obtain ⟨h8, y0, y1, _⟩ := HCY.out w' (HKBS.out.ext h)
                exact ⟨⟨z0, z1⟩, h8, y0, y1⟩
              have hlt' : (q : Int) < (ln : Int) := by omega
              have hq0 : (0 : Int) ≤ (q : Int) := by omega
              clear hx hza hzi hbs hrow hkb hrb hall hp

              go_upto_region 34 with (fail)
              refine wp_region_held_drew (S := (fun w' => Below ws.heap.size ws w')) (by kernel_rfl) ((Below.refl _ _).drew) (fun hS => ?_)
              refine wpAnyH_take (i := 0) (oi := _) (v := ?_) rfl (by kernel_rfl) (by kernel_rfl) (by kernel_rfl) (fun _ _ _ h => h) (Or.inl ⟨by rfl, ?_⟩) hS ?_
              rotate_left
              · intro w' hw'
                have hcells := HC5.out w' hw'
                go_simp
                (try with_reducible rfl)
              simp only [Act.put, List.getElem_toArray, List.getElem_cons_succ, List.getElem_cons_zero, List.setIfInBounds_toArray, List.set_cons_zero, List.set_cons_succ]
              refine wpAnyH_take (i := 1) (oi := _) (v := ?_) rfl (by kernel_rfl) (by kernel_rfl) (by kernel_rfl) (fun _ _ _ h => h) (Or.inl ⟨by rfl, ?_⟩) hS ?_
              rotate_left
              · intro w' hw'
                have hcells := HC5.out w' hw'
                go_simp
                (try with_reducible rfl)
              simp only [Act.put, List.getElem_toArray, List.getElem_cons_succ, List.getElem_cons_zero, List.setIfInBounds_toArray, List.set_cons_zero, List.set_cons_succ]
              refine wpAnyH_take (i := 2) (oi := _) (v := ?_) rfl (by kernel_rfl) (by kernel_rfl) (by kernel_rfl) (fun _ _ _ h => h) (Or.inl ⟨by rfl, ?_⟩) hS ?_
              rotate_left
              · intro w' hw'
                have hcells := HC5.out w' hw'
                go_simp
                (try with_reducible rfl)
              simp only [Act.put, List.getElem_toArray, List.getElem_cons_succ, List.getElem_cons_zero, List.setIfInBounds_toArray, List.set_cons_zero, List.set_cons_succ]
              refine wpAnyH_take (i := 3) (oi := _) (v := ?_) rfl (by kernel_rfl) (by kernel_rfl) (by kernel_rfl) (fun _ _ _ h => h) (Or.inl ⟨by rfl, ?_⟩) hS ?_
              rotate_left
              · intro w' hw'
                have hcells := HC5.out w' hw'
                go_simp
                (try with_reducible rfl)
              simp only [Act.put, List.getElem_toArray, List.getElem_cons_succ, List.getElem_cons_zero, List.setIfInBounds_toArray, List.set_cons_zero, List.set_cons_succ]
              refine wpAnyH_take (i := 4) (oi := _) (v := ?_) rfl (by kernel_rfl) (by kernel_rfl) (by kernel_rfl) (fun _ _ _ h => h) (Or.inl ⟨by rfl, ?_⟩) hS ?_
              rotate_left
              · intro w' hw'
                have hcells := HC5.out w' hw'
                go_simp
                (try with_reducible rfl)
              simp only [Act.put, List.getElem_toArray, List.getElem_cons_succ, List.getElem_cons_zero, List.setIfInBounds_toArray, List.set_cons_zero, List.set_cons_succ]
              refine wpAnyH_take (i := 5) (oi := _) (v := ?_) rfl (by kernel_rfl) (by kernel_rfl) (by kernel_rfl) (fun _ _ _ h => h) (Or.inl ⟨by rfl, ?_⟩) hS ?_
              rotate_left
              · intro w' hw'
                have hcells := HC5.out w' hw'
                go_simp
                (try with_reducible rfl)
              simp only [Act.put, List.getElem_toArray, List.getElem_cons_succ, List.getElem_cons_zero, List.setIfInBounds_toArray, List.set_cons_zero, List.set_cons_succ]
              refine wpAnyH_take (i := 6) (oi := _) (v := ?_) rfl (by kernel_rfl) (by kernel_rfl) (by kernel_rfl) (fun _ _ _ h => h) (Or.inl ⟨by rfl, ?_⟩) hS ?_
              rotate_left
              · intro w' hw'
                have hcells := HC5.out w' hw'
                go_simp
                (try with_reducible rfl)
              simp only [Act.put, List.getElem_toArray, List.getElem_cons_succ, List.getElem_cons_zero, List.setIfInBounds_toArray, List.set_cons_zero, List.set_cons_succ]
              refine wpAnyH_take (i := 7) (oi := _) (v := ?_) rfl (by kernel_rfl) (by kernel_rfl) (by kernel_rfl) (fun _ _ _ h => h) (Or.inl ⟨by rfl, ?_⟩) hS ?_
              rotate_left
              · intro w' hw'
                have hcells := HC5.out w' hw'
                go_simp
                (try with_reducible rfl)
              simp only [Act.put, List.getElem_toArray, List.getElem_cons_succ, List.getElem_cons_zero, List.setIfInBounds_toArray, List.set_cons_zero, List.set_cons_succ]
              refine wpAnyH_take (i := 8) (oi := _) (v := ?_) rfl (by kernel_rfl) (by kernel_rfl) (by kernel_rfl) (fun _ _ _ h => h) (Or.inl ⟨by rfl, ?_⟩) hS ?_
              rotate_left
              · intro w' hw'
                have hcells := HC5.out w' hw'
                go_simp
                (try with_reducible rfl)
              simp only [Act.put, List.getElem_toArray, List.getElem_cons_succ, List.getElem_cons_zero, List.setIfInBounds_toArray, List.set_cons_zero, List.set_cons_succ]
              refine wpAnyH_take (i := 9) (oi := _) (v := ?_) rfl (by kernel_rfl) (by kernel_rfl) (by kernel_rfl) (fun _ _ _ h => h) (Or.inl ⟨by rfl, ?_⟩) hS ?_
              rotate_left
              · intro w' hw'
                have hcells := HC5.out w' hw'
                go_simp
                (try with_reducible rfl)
              simp only [Act.put, List.getElem_toArray, List.getElem_cons_succ, List.getElem_cons_zero, List.setIfInBounds_toArray, List.set_cons_zero, List.set_cons_succ]
              refine wpAnyH_ready (rs := [10]) (by kernel_rfl) (by simp) ?_
              refine AllReadyH.cons (o := _) rfl (fun K hK => ?_) AllReadyH.nil
              go_simp; go_at_call 70; refine (HSE.out _ hS).mono ?_
              rintro e w6 ⟨rfl, hb6⟩
              refine hK.out _ _ (hS.trans (hb6.mono hS.size)) (fun hS => ?_)
              clear hK K
              (try simp only [Act.put, List.getElem_toArray, List.getElem_cons_succ, List.getElem_cons_zero, List.setIfInBounds_toArray, List.set_cons_zero, List.set_cons_succ])
              refine wpAnyH_done (by kernel_rfl) ?_ _
              (try dsimp only)
              clear HC5 HSE
              have hk6 := HKBS.out.ext hS
              have hr6 := HRBS.out.ext HKBS.out.n hS
              clear hS hb6
              cases p with
              | true =>
                have r := hid (show checkE d = 7 by rw [R0.out, HREST.out, HIT1.out, HDI1.out, itemsE, if_neg (fun h => HA6.out (HLN.out.trans h)), ← HV1.out, if_neg (show ¬ (0 : Int) ≠ 0 by decide), if_pos (show hasSt acc1 dm.st = true by rw [hasSt, List.any_eq_true]; exact ⟨_, List.getElem_mem hql, HP1.out.symm⟩), if_pos (show (7 : Int) ≠ 0 by decide)])
                go_wp2
                go_ret
                exact ⟨retI r.out.symm, HB0.out.trans (hk6.b.mono (by omega))⟩
              | false =>
                go_wp2
                go_roundw
                case rel => exact ⟨q + 1, by omega, by go_num, hk6, hr6, fun p hp h => by
                  by_cases hpq : p < q
                  · exact HALL.out p hp hpq
                  · obtain rfl : p = q := by omega
                    exact HP1.out.symm⟩
                case measure => simp [intOf]; omega
            · obtain rfl : ln = q := by omega
              have HAS := hid (show hasSt acc1 dm.st = false by
                rw [Bool.eq_false_iff]
                intro h
                rw [hasSt, List.any_eq_true] at h
                obtain ⟨m, hm, he⟩ := h
                obtain ⟨p, hp, rfl⟩ := List.getElem_of_mem hm
                rw [HALL.out p hp (by have := HLN.out; omega)] at he
                cases he)
              obtain ⟨cs, hcs, hl0, hown, hel⟩ := hrb
              have HOWN := hid hown
              have HEL := hid hel
              have HCL := hid hcs
              have HRO := hid (fun r e => Kept.own (K := stK) HRBS.out r e)
              have hcap1 : ln + 1 ≤ maxLen := by unfold maxLen; omega
              have hcap2 : (ln + 1) * 32 ≤ 140737488355328 := by omega
              obtain ⟨q8, y0, y1, y2, y3, y4, y5, y6, y7, y8, y9⟩ := HCY.out _ hkb
              clear hown hel hcs hl0 hall HALL hkb hlt hq
              go_wp2_with (at_builtin; go_loud (refine wpList_append_lies _ (by rfl) _ _ 42 (by rfl) (w.heap.size + 1) 24 ti _ 2 32 Tryz.underlying42 hi hz0 hz1 hz2 rfl (by omega) (.slice va ln vcap) ln (cs.flatMap SC.cs) (by rfl) (HOWN.out.alloc (.cells #[.int .i64 y.st.e, .slice y.st.a y.st.n y.st.c] 24)) ⟨ws.heap.size, 0, none⟩ 1 1 (SC.cs y.st) (by rfl) (by rfl) (World.news_of_block (heap_alloc_new ws _)) (by simp [SC.cs, Value.oneCell']) (by omega) hcap1 hcap2 (by have h2 := HKBS.out.n; simp at h2 ⊢; omega) (ws.heap.size + 1) (by simp) ?_); intro gg cap5 w5 hown2 hgrow hat hlt2; have HO2 := hid hown2; have HG := hid hgrow; have HAT := hid hat; clear hown2 hgrow hat hlt2)
              go_roundw
              case rel =>
                have hsw : wp.heap.size < ws.heap.size := ltOf (HKBS.out.at 0 (by simp))
                have hne : ∀ r, ((.slice va ln vcap) : Value).ownBlock = some r → (w.heap.size + 1) ≤ r ∧ ∀ p ∈ ([(wp.heap.size, (.cells #[.int .i64 x.k.k, .int .i64 x.k.i, .int .i64 x.k.s, .string x.k.t, .slice x.k.la x.k.ll x.k.lc, .slice x.k.fa x.k.fl x.k.fc, .int .i64 x.n, .int .i64 x.t, .slice x.ia x.il x.ic, .slice x.va x.vl x.vc] 58))] : List (Nat × Obj)), p.1 ≠ r := fun r e => ⟨(HRO.out r e).1, fun p hp => by
                  have h1 := HNB1.out r e
                  simp only [List.mem_cons, List.not_mem_nil, or_false] at hp
                  rw [hp]
                  exact fun h => h1 h.symm⟩
                have hw := HB0.out.trans (HKBS.out.b.mono (by omega))
                have hk2 := Kept.push (K := stK) (w1 := ws) (c := y.st) (d := dm.st) (l := acc1.map (·.st)) HCL.out (by rw [List.length_map, HLN.out]) HEL.out HKBS.out.n (HYI.out.st.same fun b q => ⟨by omega, hw.block b q⟩) (fun r e => (hne r e).1) HO2.out HG.out
                refine ⟨j + 1, ln + 1, acc1 ++ [dm], _, rfl, by rw [List.length_append, HLN.out]; rfl, by omega, by go_num, (HKBS.out.ext ((Below.refl _ _).alloc (Nat.le_refl _) _)).grown HG.out hne, ?_, fun r e => ?_, ?_, ?_⟩
                · rw [List.map_append]
                  exact hk2
                · have hr : r = gg := (Option.some.inj e).symm
                  subst hr
                  rcases HAT.out with h | h
                  · exact HNB1.out r h
                  · (try simp at h); omega
                · rw [HIT1.out, HDI1.out, itemsE, if_neg (fun h => HA6.out (HLN.out.trans h)), ← HV1.out, if_neg (show ¬ (0 : Int) ≠ 0 by decide), HAS.out, if_neg (show ¬ false = true by decide)]
                · have := HA6.out
                  omega
              case measure => simp [intOf]; omega
          · obtain rfl : j = x.il := by omega
            have h8 := cellOf (hkb.at 0 (by simp)) 8
            have h9 := cellOf (hkb.at 0 (by simp)) 9
            (try dsimp only [List.getElem_cons_zero] at h8)
            (try dsimp only [List.getElem_cons_zero] at h9)
            have HIT2 := hid (show itemsE acc ds.items = (0, acc1) by rw [HIT1.out, show x.il = ds.items.length from HLI.out, List.drop_length, itemsE])
            clear hlt hkb
            go_wp2
            clear h8 h9
            go_loopw [4, 11] (fun nvv i wr => ∃ (q nv1 : Nat), nvv = .int .i64 nv1 ∧ q ≤ x.vl ∧ i = .int .i64 q ∧ KeepB (w.heap.size + 1) wb [(wp.heap.size, (.cells #[.int .i64 x.k.k, .int .i64 x.k.i, .int .i64 x.k.s, .string x.k.t, .slice x.k.la x.k.ll x.k.lc, .slice x.k.fa x.k.fl x.k.fc, .int .i64 x.n, .int .i64 x.t, .slice x.ia x.il x.ic, .slice x.va x.vl x.vc] 58))] wr ∧ Kept stK 24 (w.heap.size + 1) wr (.slice va ln vcap) ln (acc1.map (·.st)) ∧ valsE nv ds.vals = valsE nv1 (ds.vals.drop q) ∧ nv1 ≤ 4096) (fun _ i _ => x.vl - (intOf i).toNat)
            case atStart => exact ⟨0, nv, rfl, Nat.zero_le _, rfl, HKB1.out, HRB1.out, by rw [List.drop_zero], hv4⟩
            case round =>
            obtain ⟨q, nv1, rfl, hq, rfl, hkb, hrb, hvt, hv1⟩ := hrel
            obtain ⟨ws, rfl⟩ : ∃ w1 : World, w1 = wr := ⟨_, rfl⟩
            clear HKB1 HRB1
            have HVT := hid hvt
            have HKBS := hid hkb
            have HRBS := hid hrb
            clear hvt hrb
            by_cases hlt : q < x.vl
            · have hql : q < ds.vals.length := by have := HLV.out; omega
              obtain ⟨bi, oi, hia, hbi, hx⟩ := HDV.out.slot (show 0 < x.vl by omega)
              obtain ⟨y, hya, hyi⟩ := hx q hql
              have hw := HB0.out.trans (hkb.b.mono (by omega))
              have h9 := cellOf (hkb.at 0 (by simp)) 9
              (try dsimp only [List.getElem_cons_zero] at h9)
              replace h9 : ws.cell? ⟨wp.heap.size, 4 + 5, none⟩ = some (.slice (some ⟨bi, oi, none⟩) x.vl x.vc) := h9.trans (by rw [hia]; rfl)
              obtain ⟨y0, y1, y2, y3, y4, y5⟩ := (hya.same (hw.block bi hbi)).val
              obtain ⟨dv, hdv⟩ : ∃ dv, dv = ds.vals[q] := ⟨_, rfl⟩
              have HDV1 := hid (show ds.vals.drop q = dv :: ds.vals.drop (q + 1) by rw [hdv]; exact List.drop_eq_getElem_cons hql)
              rw [← hdv] at hyi
              obtain ⟨v1, hv⟩ : ∃ v1, v1 = chkVal dv := ⟨_, rfl⟩
              have HMC : Hid (Calls Tryz.prog 75 #[.agg #[.int .i64 y.k, .int .i64 y.i, .int .i64 y.s, .string y.t, .slice y.la y.ll y.lc, .slice y.fa y.fl y.fc]] ws fun e w' => e = .returned (.int .i64 v1) ∧ Below ws.heap.size ws w') := hid (by rw [hv]; exact check_call y _ _ (hyi.same fun b q => ⟨by have := hkb.n; omega, hw.block b q⟩) (HT.out.below hw))
              have HV1 := hid hv
              have hlt' : (q : Int) < (x.vl : Int) := by omega
              have hq0 : (0 : Int) ≤ (q : Int) := by omega
              clear hx hya hyi hia hbi hdv hv hkb
              by_cases ha : nv1 = 4096
              · have ha1 : (4096 : Int) ≤ (nv1 : Int) := by omega
                have ha2 : 4096 ≤ nv1 := by omega
                have r := hid (show checkE d = 9 by rw [R0.out, HREST.out, HIT2.out, if_neg (fun h => h rfl), HVT.out, HDV1.out, valsE, if_pos ha, if_pos (show (9 : Int) ≠ 0 by decide)])
                clear ha
                go_wp2
                go_ret
                exact ⟨retI r.out.symm, hw⟩
              have ha1 : ¬ (4096 : Int) ≤ (nv1 : Int) := by omega
              have ha2 : ¬ 4096 ≤ nv1 := by omega
              have ha3 : (nv1 : Int) < 4096 := by omega
              have HA6 := hid ha
              clear ha
              by_cases hv0 : v1 = 0
              case neg =>
                have r := hid (show checkE d = v1 by rw [R0.out, HREST.out, HIT2.out, if_neg (fun h => h rfl), HVT.out, HDV1.out, valsE, if_neg HA6.out, ← HV1.out, if_pos hv0, if_pos hv0])
                go_wp2_with (go_at_call 75; refine HMC.out.mono ?_; rintro e w6 ⟨rfl, hb6⟩)
                go_ret
                exact ⟨retI r.out.symm, HB0.out.trans ((HKBS.out.ext hb6).b.mono (by omega))⟩
              case pos =>
              subst hv0
              go_wp2_with (go_at_call 75; refine HMC.out.mono ?_; rintro e w6 ⟨rfl, hb6⟩)
              go_roundw
              case rel => exact ⟨q + 1, nv1 + 1, by go_num, by omega, by go_num, HKBS.out.ext hb6, HRBS.out.ext HKBS.out.n hb6, by rw [HVT.out, HDV1.out, valsE, if_neg HA6.out, ← HV1.out, if_neg (show ¬ (0 : Int) ≠ 0 by decide)], by have := HA6.out; omega⟩
              case measure => simp [intOf]; omega
            · obtain rfl : q = x.vl := by omega
              have h9 := cellOf (hkb.at 0 (by simp)) 9
              (try dsimp only [List.getElem_cons_zero] at h9)
              have HVE := hid (show valsE nv ds.vals = (0, nv1) by rw [HVT.out, show x.vl = ds.vals.length from HLV.out, List.drop_length, valsE])
              clear hlt hkb
              go_wp2
              go_roundw
              case rel => exact ⟨k + 1, nv1, ln, acc1, _, rfl, HLN.out, by omega, by go_num, rfl, HKBS.out.sub (by simp), HRBS.out, by rw [HREST.out, HIT2.out, if_neg (fun h => h rfl), HVE.out, if_neg (fun h => h rfl), HPN.out], hm1, hv1⟩
              case measure => simp [intOf]; omega
      · obtain ⟨k1, hk1⟩ : ∃ k1, k = k1 + 1 := ⟨k - 1, by omega⟩
        have hwr : IntKind.i64.wrap ((k : Int) - 1) = (k : Int) - 1 := IntWalk.i64_in _ (by omega)
        have hk1' : (0 : Int) ≤ (k : Int) - 1 := by omega
        have hk1'' : (1 : Int) ≤ (k : Int) := by omega
        have hk1N : 1 ≤ k := by omega
        have hk2' : (k : Int) - 1 < (sl : Int) := by omega
        have hkt : k - 1 = k1 := by omega
        have hkf : decide ((0 : Int) < (k : Int)) = true := by simp; omega
        have hkf2 : decide (0 < k) = true := by simp; omega
        have hk1l : k1 < d.l.length := by omega
        obtain ⟨y, hya, hyi⟩ := HX.out k1 hk1l
        obtain ⟨cc, hcc⟩ : ∃ cc, cc = cmpV d.l[k1].k ds.k := ⟨_, rfl⟩
        have HPK : prevK d.l k = some d.l[k1].k := by rw [show prevK d.l k = prevK d.l (k1 + 1) by rw [hk1]]; exact prevK_succ d.l k1 hk1l
        have HCC := hid (show cc = - cmpP (prevK d.l k) ds.k by rw [hcc, HPK]; exact cmpV_anti _ _)
        clear HPK
        have HY : Hid (∀ w', Below (wp.alloc (.cells #[.int .i64 x.k.k, .int .i64 x.k.i, .int .i64 x.k.s, .string x.k.t, .slice x.k.la x.k.ll x.k.lc, .slice x.k.fa x.k.fl x.k.fc, .int .i64 x.n, .int .i64 x.t, .slice x.ia x.il x.ic, .slice x.va x.vl x.vc] 58)).heap.size (wp.alloc (.cells #[.int .i64 x.k.k, .int .i64 x.k.i, .int .i64 x.k.s, .string x.k.t, .slice x.k.la x.k.ll x.k.lc, .slice x.k.fa x.k.fl x.k.fc, .int .i64 x.n, .int .i64 x.t, .slice x.ia x.il x.ic, .slice x.va x.vl x.vc] 58)) w' → w'.cell? ⟨b, o + (k - 1) * 10, none⟩ = some (.int .i64 y.k.k) ∧ w'.cell? ⟨b, o + (k - 1) * 10 + 1, none⟩ = some (.int .i64 y.k.i) ∧ w'.cell? ⟨b, o + (k - 1) * 10 + 2, none⟩ = some (.int .i64 y.k.s) ∧ w'.cell? ⟨b, o + (k - 1) * 10 + 3, none⟩ = some (.string y.k.t) ∧ w'.cell? ⟨b, o + (k - 1) * 10 + 4, none⟩ = some (.slice y.k.la y.k.ll y.k.lc) ∧ w'.cell? ⟨b, o + (k - 1) * 10 + 5, none⟩ = some (.slice y.k.fa y.k.fl y.k.fc)) := hid fun w' h => by
          have hw := HB0.out.trans ((HBWP.out.trans (HBA.out.trans (h.mono HSA.out))).mono (by omega))
          rw [hkt]
          obtain ⟨y0, y1, y2, y3, y4, y5, _⟩ := (hya.same (hw.block b HB.out)).slot
          exact ⟨y0, y1, y2, y3, y4, y5⟩
        have HCMP : Hid (∀ w', Below (wp.alloc (.cells #[.int .i64 x.k.k, .int .i64 x.k.i, .int .i64 x.k.s, .string x.k.t, .slice x.k.la x.k.ll x.k.lc, .slice x.k.fa x.k.fl x.k.fc, .int .i64 x.n, .int .i64 x.t, .slice x.ia x.il x.ic, .slice x.va x.vl x.vc] 58)).heap.size (wp.alloc (.cells #[.int .i64 x.k.k, .int .i64 x.k.i, .int .i64 x.k.s, .string x.k.t, .slice x.k.la x.k.ll x.k.lc, .slice x.k.fa x.k.fl x.k.fc, .int .i64 x.n, .int .i64 x.t, .slice x.ia x.il x.ic, .slice x.va x.vl x.vc] 58)) w' → Calls Tryz.prog 77 #[.agg #[.int .i64 y.k.k, .int .i64 y.k.i, .int .i64 y.k.s, .string y.k.t, .slice y.k.la y.k.ll y.k.lc, .slice y.k.fa y.k.fl y.k.fc], .agg #[.int .i64 x.k.k, .int .i64 x.k.i, .int .i64 x.k.s, .string x.k.t, .slice x.k.la x.k.ll x.k.lc, .slice x.k.fa x.k.fl x.k.fc]] w' fun e w2 => e = .returned (.int .i64 cc) ∧ Below w'.heap.size w' w2) := hid fun w' h => by
          have hw := HB0.out.trans ((HBWP.out.trans (HBA.out.trans (h.mono HSA.out))).mono (by omega))
          have hs := hw.size
          rw [hcc]
          exact compare_call y.k x.k _ _ w' (hyi.k.same fun b q => ⟨by omega, hw.block b q⟩) (HXI.out.k.same fun b q => ⟨by omega, hw.block b q⟩)
        clear hya hyi hcc hk1 hkz hkt hk1l
        go_upto_region 16 with (go_at_call 76; refine HIS.out.mono ?_; rintro e w3 ⟨rfl, hb3⟩; clear q0 q1 q2 m0 m1 m2 m3 m4 m5 m6 m7 m8 m9; obtain ⟨⟨q0, q1, q2⟩, m0, m1, m2, m3, m4, m5, m6, m7, m8, m9⟩ := HC.out _ (hb3))
        have HC4 : Hid (∀ w', Below w3.heap.size w3 w' → (w'.cell? ⟨w.heap.size, 2, none⟩ = some (.slice (some ⟨b, o, none⟩) sl sc)) ∧ (w'.cell? ⟨wp.heap.size, 0, none⟩ = some (.int .i64 x.k.k) ∧ w'.cell? ⟨wp.heap.size, 1, none⟩ = some (.int .i64 x.k.i) ∧ w'.cell? ⟨wp.heap.size, 2, none⟩ = some (.int .i64 x.k.s) ∧ w'.cell? ⟨wp.heap.size, 3, none⟩ = some (.string x.k.t) ∧ w'.cell? ⟨wp.heap.size, 4, none⟩ = some (.slice x.k.la x.k.ll x.k.lc) ∧ w'.cell? ⟨wp.heap.size, 5, none⟩ = some (.slice x.k.fa x.k.fl x.k.fc) ∧ w'.cell? ⟨wp.heap.size, 6, none⟩ = some (.int .i64 x.n) ∧ w'.cell? ⟨wp.heap.size, 7, none⟩ = some (.int .i64 x.t) ∧ w'.cell? ⟨wp.heap.size, 8, none⟩ = some (.slice x.ia x.il x.ic) ∧ w'.cell? ⟨wp.heap.size, 9, none⟩ = some (.slice x.va x.vl x.vc)) ∧ (w'.cell? ⟨b, o + (k - 1) * 10, none⟩ = some (.int .i64 y.k.k) ∧ w'.cell? ⟨b, o + (k - 1) * 10 + 1, none⟩ = some (.int .i64 y.k.i) ∧ w'.cell? ⟨b, o + (k - 1) * 10 + 2, none⟩ = some (.int .i64 y.k.s) ∧ w'.cell? ⟨b, o + (k - 1) * 10 + 3, none⟩ = some (.string y.k.t) ∧ w'.cell? ⟨b, o + (k - 1) * 10 + 4, none⟩ = some (.slice y.k.la y.k.ll y.k.lc) ∧ w'.cell? ⟨b, o + (k - 1) * 10 + 5, none⟩ = some (.slice y.k.fa y.k.fl y.k.fc))) := hid fun w' h => by
          have h1 := HC.out w' (hb3.trans (h.mono hb3.size))
          obtain ⟨⟨q0, q1, q2⟩, m0, m1, m2, m3, m4, m5, m6, m7, m8, m9⟩ := h1
          have h2 := HY.out w' (hb3.trans (h.mono hb3.size))
          exact ⟨q2, ⟨m0, m1, m2, m3, m4, m5, m6, m7, m8, m9⟩, h2⟩
        have HCP : Hid (∀ w', Below w3.heap.size w3 w' → Calls Tryz.prog 77 #[.agg #[.int .i64 y.k.k, .int .i64 y.k.i, .int .i64 y.k.s, .string y.k.t, .slice y.k.la y.k.ll y.k.lc, .slice y.k.fa y.k.fl y.k.fc], .agg #[.int .i64 x.k.k, .int .i64 x.k.i, .int .i64 x.k.s, .string x.k.t, .slice x.k.la x.k.ll x.k.lc, .slice x.k.fa x.k.fl x.k.fc]] w' fun e w2 => e = .returned (.int .i64 cc) ∧ Below w'.heap.size w' w2) := hid fun w' h => HCMP.out w' (hb3.trans (h.mono hb3.size))
        clear q0 q1 q2 m0 m1 m2 m3 m4 m5 m6 m7 m8 m9
        refine wp_region_held_drew (S := (fun w' => Below w3.heap.size w3 w')) (by kernel_rfl) ((Below.refl _ _).drew) (fun hS => ?_)
        refine wpAnyH_take (i := 0) (oi := _) (v := ?_) rfl (by kernel_rfl) (by kernel_rfl) (by kernel_rfl) (fun _ _ _ h => h) (Or.inl ⟨by rfl, ?_⟩) hS ?_
        rotate_left
        · intro w' hw'
          have hcells := HC4.out w' hw'
          go_simp
          (try with_reducible rfl)
        simp only [Act.put, List.getElem_toArray, List.getElem_cons_succ, List.getElem_cons_zero, List.setIfInBounds_toArray, List.set_cons_zero, List.set_cons_succ]
        refine wpAnyH_take (i := 1) (oi := _) (v := ?_) rfl (by kernel_rfl) (by kernel_rfl) (by kernel_rfl) (fun _ _ _ h => h) (Or.inl ⟨by rfl, ?_⟩) hS ?_
        rotate_left
        · intro w' hw'
          have hcells := HC4.out w' hw'
          go_simp
          (try with_reducible rfl)
        simp only [Act.put, List.getElem_toArray, List.getElem_cons_succ, List.getElem_cons_zero, List.setIfInBounds_toArray, List.set_cons_zero, List.set_cons_succ]
        refine wpAnyH_take (i := 2) (oi := _) (v := ?_) rfl (by kernel_rfl) (by kernel_rfl) (by kernel_rfl) (fun _ _ _ h => h) (Or.inl ⟨by rfl, ?_⟩) hS ?_
        rotate_left
        · intro w' hw'
          have hcells := HC4.out w' hw'
          go_simp
          (try with_reducible rfl)
        simp only [Act.put, List.getElem_toArray, List.getElem_cons_succ, List.getElem_cons_zero, List.setIfInBounds_toArray, List.set_cons_zero, List.set_cons_succ]
        refine wpAnyH_take (i := 3) (oi := _) (v := ?_) rfl (by kernel_rfl) (by kernel_rfl) (by kernel_rfl) (fun _ _ _ h => h) (Or.inl ⟨by rfl, ?_⟩) hS ?_
        rotate_left
        · intro w' hw'
          have hcells := HC4.out w' hw'
          go_simp
          (try with_reducible rfl)
        simp only [Act.put, List.getElem_toArray, List.getElem_cons_succ, List.getElem_cons_zero, List.setIfInBounds_toArray, List.set_cons_zero, List.set_cons_succ]
        refine wpAnyH_take (i := 4) (oi := _) (v := ?_) rfl (by kernel_rfl) (by kernel_rfl) (by kernel_rfl) (fun _ _ _ h => h) (Or.inl ⟨by rfl, ?_⟩) hS ?_
        rotate_left
        · intro w' hw'
          have hcells := HC4.out w' hw'
          go_simp
          (try with_reducible rfl)
        simp only [Act.put, List.getElem_toArray, List.getElem_cons_succ, List.getElem_cons_zero, List.setIfInBounds_toArray, List.set_cons_zero, List.set_cons_succ]
        refine wpAnyH_take (i := 5) (oi := _) (v := ?_) rfl (by kernel_rfl) (by kernel_rfl) (by kernel_rfl) (fun _ _ _ h => h) (Or.inl ⟨by rfl, ?_⟩) hS ?_
        rotate_left
        · intro w' hw'
          have hcells := HC4.out w' hw'
          go_simp
          (try with_reducible rfl)
        simp only [Act.put, List.getElem_toArray, List.getElem_cons_succ, List.getElem_cons_zero, List.setIfInBounds_toArray, List.set_cons_zero, List.set_cons_succ]
        refine wpAnyH_take (i := 6) (oi := _) (v := ?_) rfl (by kernel_rfl) (by kernel_rfl) (by kernel_rfl) (fun _ _ _ h => h) (Or.inl ⟨by rfl, ?_⟩) hS ?_
        rotate_left
        · intro w' hw'
          have hcells := HC4.out w' hw'
          go_simp
          (try with_reducible rfl)
        simp only [Act.put, List.getElem_toArray, List.getElem_cons_succ, List.getElem_cons_zero, List.setIfInBounds_toArray, List.set_cons_zero, List.set_cons_succ]
        refine wpAnyH_take (i := 7) (oi := _) (v := ?_) rfl (by kernel_rfl) (by kernel_rfl) (by kernel_rfl) (fun _ _ _ h => h) (Or.inl ⟨by rfl, ?_⟩) hS ?_
        rotate_left
        · intro w' hw'
          have hcells := HC4.out w' hw'
          go_simp
          (try with_reducible rfl)
        simp only [Act.put, List.getElem_toArray, List.getElem_cons_succ, List.getElem_cons_zero, List.setIfInBounds_toArray, List.set_cons_zero, List.set_cons_succ]
        refine wpAnyH_take (i := 8) (oi := _) (v := ?_) rfl (by kernel_rfl) (by kernel_rfl) (by kernel_rfl) (fun _ _ _ h => h) (Or.inl ⟨by rfl, ?_⟩) hS ?_
        rotate_left
        · intro w' hw'
          have hcells := HC4.out w' hw'
          go_simp
          (try with_reducible rfl)
        simp only [Act.put, List.getElem_toArray, List.getElem_cons_succ, List.getElem_cons_zero, List.setIfInBounds_toArray, List.set_cons_zero, List.set_cons_succ]
        refine wpAnyH_ready (rs := [9]) (by kernel_rfl) (by simp) ?_
        refine AllReadyH.cons (o := _) rfl (fun K hK => ?_) AllReadyH.nil
        go_simp; go_at_call 77; refine (HCP.out _ hS).mono ?_
        rintro e w4 ⟨rfl, hb4'⟩
        refine hK.out _ _ (hS.trans (hb4'.mono hS.size)) (fun hS => ?_)
        clear hK K
        (try simp only [Act.put, List.getElem_toArray, List.getElem_cons_succ, List.getElem_cons_zero, List.setIfInBounds_toArray, List.set_cons_zero, List.set_cons_succ])
        refine wpAnyH_done (by kernel_rfl) ?_ _
        (try dsimp only)
        have hb4 := hb3.trans (hS.mono hb3.size)
        have hc4 := HC.out _ hb4
        clear hS HC4 HCP hb4' hb3
        obtain ⟨⟨q0, q1, q2⟩, m0, m1, m2, m3, m4, m5, m6, m7, m8, m9⟩ := hc4
        by_cases c0 : cc = 0
        · have c0' : (cc == 0) = true := by simp [c0]
          have r := hid (show checkE d = 7 by rw [R0.out, HIT.out, HDR.out, slotsE, if_neg HKEY.out, if_pos (by have := HCC.out; omega)])
          go_wp2
          go_ret
          exact ⟨retI r.out.symm, HB0.out.trans ((HBWP.out.trans (HBA.out.trans (hb4.mono HSA.out))).mono (by omega))⟩
        by_cases c1 : cc = 1
        · have c1' : (cc == 1) = true := by simp [c1]
          have c0' : (cc == 0) = false := by simp [c0]
          have r := hid (show checkE d = 24 by rw [R0.out, HIT.out, HDR.out, slotsE, if_neg HKEY.out, if_neg (by have := HCC.out; omega), if_pos (by have := HCC.out; omega)])
          go_wp2
          go_ret
          exact ⟨retI r.out.symm, HB0.out.trans ((HBWP.out.trans (HBA.out.trans (hb4.mono HSA.out))).mono (by omega))⟩
        have c0' : (cc == 0) = false := by simp [c0]
        have c1' : (cc == 1) = false := by simp [c1]
        have HNEXT := hid (show slotsE none [] 0 d.l = if (slotE acc nv ds).1 ≠ 0 then (slotE acc nv ds).1 else slotsE (some ds.k) (slotE acc nv ds).2.1 (slotE acc nv ds).2.2 (d.l.drop (k + 1)) by rw [HIT.out, HDR.out, slotsE, if_neg HKEY.out, if_neg (by have := HCC.out; omega), if_neg (by have := HCC.out; omega)])
        cases pn with
        | false =>
          have r := hid (show checkE d = 2 by rw [R0.out, HNEXT.out, if_pos (by rw [slotE_bad (of_decide_eq_false HPN0.out.symm)]; decide), slotE_bad (of_decide_eq_false HPN0.out.symm)])
          go_wp2_with (go_at_call 79; refine (HIN.out _).mono ?_; rintro e w5 ⟨rfl, rfl⟩)
          go_ret
          exact ⟨retI r.out.symm, HB0.out.trans ((HBWP.out.trans (HBA.out.trans (hb4.mono HSA.out))).mono (by omega))⟩
        | true =>
          have HREST := hid (HNEXT.out.trans (restE (of_decide_eq_true HPN0.out.symm) _))
          go_wp2_with (go_at_call 79; refine (HIN.out _).mono ?_; rintro e w5 ⟨rfl, rfl⟩)
          have hup := HBWP.out.trans (HBA.out.trans (hb4.mono HSA.out))
          have HKB0 : Hid (KeepB (w.heap.size + 1) wb [(wp.heap.size, (.cells #[.int .i64 x.k.k, .int .i64 x.k.i, .int .i64 x.k.s, .string x.k.t, .slice x.k.la x.k.ll x.k.lc, .slice x.k.fa x.k.fl x.k.fc, .int .i64 x.n, .int .i64 x.t, .slice x.ia x.il x.ic, .slice x.va x.vl x.vc] 58))] w4) := hid ⟨hup, by have h1 := hup.size; have h2 := HSB.out; omega, fun p hp => by
            simp only [List.mem_cons, List.not_mem_nil, or_false] at hp
            rw [hp]
            exact heapExt hb4 (heap_alloc_new wp (.cells #[.int .i64 x.k.k, .int .i64 x.k.i, .int .i64 x.k.s, .string x.k.t, .slice x.k.la x.k.ll x.k.lc, .slice x.k.fa x.k.fl x.k.fc, .int .i64 x.n, .int .i64 x.t, .slice x.ia x.il x.ic, .slice x.va x.vl x.vc] 58))⟩
          have HRB0 := hid (HRB.out.ext (by omega) (((Below.refl _ wp).alloc (Nat.le_refl _) (.cells #[.int .i64 x.k.k, .int .i64 x.k.i, .int .i64 x.k.s, .string x.k.t, .slice x.k.la x.k.ll x.k.lc, .slice x.k.fa x.k.fl x.k.fc, .int .i64 x.n, .int .i64 x.t, .slice x.ia x.il x.ic, .slice x.va x.vl x.vc] 58)).trans (hb4.mono (by simp))))
          clear hup hb4 q0 q1 q2 m0 m1 m2 m3 m4 m5 m6 m7 m8 m9 HNEXT
          go_loopw [3, 8] (fun s i wr => ∃ (j ln : Nat) (acc1 : List Msg) (s1 : Value), s1 = s ∧ ln = acc1.length ∧ j ≤ x.il ∧ i = .int .i64 j ∧ KeepB (w.heap.size + 1) wb [(wp.heap.size, (.cells #[.int .i64 x.k.k, .int .i64 x.k.i, .int .i64 x.k.s, .string x.k.t, .slice x.k.la x.k.ll x.k.lc, .slice x.k.fa x.k.fl x.k.fc, .int .i64 x.n, .int .i64 x.t, .slice x.ia x.il x.ic, .slice x.va x.vl x.vc] 58))] wr ∧ Kept stK 24 (w.heap.size + 1) wr s1 ln (acc1.map (·.st)) ∧ (∀ r, s1.ownBlock = some r → r ≠ wp.heap.size) ∧ itemsE acc ds.items = itemsE acc1 (ds.items.drop j) ∧ ln ≤ 256) (fun _ i _ => x.il - (intOf i).toNat)
          case atStart => exact ⟨0, la, acc, _, rfl, HLA.out, Nat.zero_le _, rfl, HKB0.out, HRB0.out, HNB.out, by rw [List.drop_zero], hm4⟩
          case round =>
          obtain ⟨j, ln, acc1, s1, rfl, hln, hj, rfl, hkb, hrb, hnb, hit1, hm1⟩ := hrel
          have HLN := hid hln
          clear hln
          obtain ⟨wq, rfl⟩ : ∃ w1 : World, w1 = wr := ⟨_, rfl⟩
          obtain ⟨va, vcap, rfl, hvc⟩ := hrb.shape
          clear HKB0 HRB0
          have HIT1 := hid hit1
          have HNB1 := hid hnb
          have HKB1 := hid hkb
          have HRB1 := hid hrb
          have hrb' := fun r e => (Kept.own (K := stK) HRB1.out r e)
          have HRO1 := hid hrb'
          clear hit1 hnb hrb hrb'
          by_cases hlt : j < x.il
          · have hjl : j < ds.items.length := by have := HLI.out; omega
            obtain ⟨bi, oi, hia, hbi, hx⟩ := HDI.out.slot (show 0 < x.il by omega)
            obtain ⟨y, hya, hyi⟩ := hx j hjl
            obtain ⟨dm, hdm⟩ : ∃ dm, dm = ds.items[j] := ⟨_, rfl⟩
            have HDI1 := hid (show ds.items.drop j = dm :: ds.items.drop (j + 1) by rw [hdm]; exact List.drop_eq_getElem_cons hjl)
            rw [← hdm] at hyi
            have HYI := hid (show IsMsg (· < w.heap.size) w y dm from hyi)
            have hw := HB0.out.trans (hkb.b.mono (by omega))
            have HCY : Hid (∀ w', KeepB (w.heap.size + 1) wb [(wp.heap.size, (.cells #[.int .i64 x.k.k, .int .i64 x.k.i, .int .i64 x.k.s, .string x.k.t, .slice x.k.la x.k.ll x.k.lc, .slice x.k.fa x.k.fl x.k.fc, .int .i64 x.n, .int .i64 x.t, .slice x.ia x.il x.ic, .slice x.va x.vl x.vc] 58))] w' → (w'.cell? ⟨wp.heap.size, 3 + 5, none⟩ = some (.slice (some ⟨bi, oi, none⟩) x.il x.ic)) ∧ (w'.cell? ⟨bi, oi + j * 10, none⟩ = some (.int .i64 y.st.e) ∧ w'.cell? ⟨bi, oi + j * 10 + 1, none⟩ = some (.slice y.st.a y.st.n y.st.c) ∧ w'.cell? ⟨bi, oi + j * 10 + 2, none⟩ = some (.int .i64 y.m) ∧ w'.cell? ⟨bi, oi + j * 10 + 3, none⟩ = some (.slice y.a y.n y.c) ∧ w'.cell? ⟨bi, oi + j * 10 + 4, none⟩ = some (.int .i64 y.b.k) ∧ w'.cell? ⟨bi, oi + j * 10 + 5, none⟩ = some (.int .i64 y.b.i) ∧ w'.cell? ⟨bi, oi + j * 10 + 6, none⟩ = some (.int .i64 y.b.s) ∧ w'.cell? ⟨bi, oi + j * 10 + 7, none⟩ = some (.string y.b.t) ∧ w'.cell? ⟨bi, oi + j * 10 + 8, none⟩ = some (.slice y.b.la y.b.ll y.b.lc) ∧ w'.cell? ⟨bi, oi + j * 10 + 9, none⟩ = some (.slice y.b.fa y.b.fl y.b.fc))) := hid fun w' h => by
              have h8 := cellOf (h.at 0 (by simp)) 8
              (try dsimp only [List.getElem_cons_zero] at h8)
              have hw' := HB0.out.trans (h.b.mono (by omega))
              obtain ⟨y0, y1, y2, y3, y4, y5, y6, y7, y8, y9⟩ := (hya.same (hw'.block bi hbi)).m
              exact ⟨h8.trans (by rw [hia]; rfl), y0, y1, y2, y3, y4, y5, y6, y7, y8, y9⟩
            obtain ⟨v1, hv⟩ : ∃ v1, v1 = msgE dm := ⟨_, rfl⟩
            have HMC : Hid (Calls Tryz.prog 80 #[.agg #[.int .i64 y.st.e, .slice y.st.a y.st.n y.st.c, .int .i64 y.m, .slice y.a y.n y.c, .int .i64 y.b.k, .int .i64 y.b.i, .int .i64 y.b.s, .string y.b.t, .slice y.b.la y.b.ll y.b.lc, .slice y.b.fa y.b.fl y.b.fc]] wq fun e w' => e = .returned (.int .i64 v1) ∧ Below wq.heap.size wq w') := hid (by rw [hv]; exact msgCheck_call y _ _ (hyi.same fun b q => ⟨by have := hkb.n; omega, hw.block b q⟩) (HT.out.below hw))
            have HV1 := hid hv
            have hlt' : (j : Int) < (x.il : Int) := by omega
            have hj0 : (0 : Int) ≤ (j : Int) := by omega
            clear hx hya hyi hia hbi hdm hv
            obtain ⟨q8, y0, y1, y2, y3, y4, y5, y6, y7, y8, y9⟩ := HCY.out _ hkb
            clear hkb
            by_cases ha : ln = 256
            · have ha1 : (256 : Int) ≤ (ln : Int) := by omega
              have ha2 : 256 ≤ ln := by omega
              have r := hid (show checkE d = 9 by rw [R0.out, HREST.out, HIT1.out, HDI1.out, itemsE, if_pos (HLN.out.symm.trans ha), if_pos (show (9 : Int) ≠ 0 by decide)])
              clear ha
              go_wp2
              go_ret
              exact ⟨retI r.out.symm, hw⟩
            have ha1 : ¬ (256 : Int) ≤ (ln : Int) := by omega
            have ha2 : ¬ 256 ≤ ln := by omega
            have ha3 : ln < 256 := by omega
            have HA6 := hid ha
            clear ha
            by_cases hv0 : v1 = 0
            case neg =>
              have r := hid (show checkE d = v1 by rw [R0.out, HREST.out, HIT1.out, HDI1.out, itemsE, if_neg (fun h => HA6.out (HLN.out.trans h)), ← HV1.out, if_pos hv0, if_pos hv0])
              go_wp2_with (go_at_call 80; refine HMC.out.mono ?_; rintro e w5 ⟨rfl, hb5⟩)
              go_ret
              exact ⟨retI r.out.symm, HB0.out.trans ((HKB1.out.ext hb5).b.mono (by omega))⟩
            case pos =>
            subst hv0
            go_wp2_with (go_at_call 80; refine HMC.out.mono ?_; rintro e w5 ⟨rfl, hb5⟩)
            have HKB2 := hid (HKB1.out.ext hb5)
            have HRB2 := hid (HRB1.out.ext HKB1.out.n hb5)
            clear q8 y0 y1 y2 y3 y4 y5 y6 y7 y8 y9 hb5 HMC
            go_loopw [10] (fun i wr => ∃ q : Nat, q ≤ ln ∧ i = .int .i64 q ∧ KeepB (w.heap.size + 1) wb [(wp.heap.size, (.cells #[.int .i64 x.k.k, .int .i64 x.k.i, .int .i64 x.k.s, .string x.k.t, .slice x.k.la x.k.ll x.k.lc, .slice x.k.fa x.k.fl x.k.fc, .int .i64 x.n, .int .i64 x.t, .slice x.ia x.il x.ic, .slice x.va x.vl x.vc] 58))] wr ∧ Kept stK 24 (w.heap.size + 1) wr (.slice va ln vcap) ln (acc1.map (·.st)) ∧ ∀ p (hp : p < acc1.length), p < q → stEqB acc1[p].st dm.st = false) (fun i _ => ln - (intOf i).toNat)
            case atStart => exact ⟨0, Nat.zero_le _, rfl, HKB2.out, HRB2.out, fun p _ h => absurd h (Nat.not_lt_zero p)⟩
            case round =>
            obtain ⟨q, hq, rfl, hkb, hrb, hall⟩ := hrel
            obtain ⟨ws, rfl⟩ : ∃ w1 : World, w1 = wr := ⟨_, rfl⟩
            clear HKB2 HRB2
            have HALL := hid hall
            have HKBS := hid hkb
            have HRBS := hid hrb
            by_cases hlt : q < ln
            · have hql : q < acc1.length := by have := HLN.out; omega
              have hrow := hrb.row hkb.n (by dsimp only; omega)
              obtain ⟨bs, os, rfl, hbs, hx⟩ := hrow.slot (show 0 < ln by omega)
              obtain ⟨z, hza, hzi⟩ := hx q (by rw [List.length_map]; exact hql)
              rw [List.getElem_map] at hzi
              obtain ⟨p, hp⟩ : ∃ p, p = stEqB acc1[q].st dm.st := ⟨_, rfl⟩
              have HSE : Hid (∀ w', Below ws.heap.size ws w' → Calls Tryz.prog 70 #[.agg #[.int .i64 z.e, .slice z.a z.n z.c], .agg #[.int .i64 y.st.e, .slice y.st.a y.st.n y.st.c]] w' fun e w2 => e = .returned (.bool p) ∧ Below w'.heap.size w' w2) := hid fun w' h => by
                have hk := HKBS.out.ext h
                have hs := h.size
                have hs2 := hk.n
                have hw := HB0.out.trans (hk.b.mono (by omega))
                rw [hp]
                exact stEqual_call z y.st _ _ w' (hzi.same fun b q => ⟨by omega, h.block b q⟩) (HYI.out.st.same fun b q => ⟨by omega, hw.block b q⟩)
              have HP1 := hid hp
              have HC5 : Hid (∀ w', Below ws.heap.size ws w' → (w'.cell? ⟨bs, os + q * 2, none⟩ = some (.int .i64 z.e) ∧ w'.cell? ⟨bs, os + q * 2 + 1, none⟩ = some (.slice z.a z.n z.c)) ∧ (w'.cell? ⟨wp.heap.size, 3 + 5, none⟩ = some (.slice (some ⟨bi, oi, none⟩) x.il x.ic)) ∧ (w'.cell? ⟨bi, oi + j * 10, none⟩ = some (.int .i64 y.st.e) ∧ w'.cell? ⟨bi, oi + j * 10 + 1, none⟩ = some (.slice y.st.a y.st.n y.st.c))) := hid fun w' h => by
                obtain ⟨z0, z1⟩ := (hza.same (h.block bs hbs)).two
                obtain ⟨h8, y0, y1, _⟩ := HCY.out w' (HKBS.out.ext h)
                exact ⟨⟨z0, z1⟩, h8, y0, y1⟩
              have hlt' : (q : Int) < (ln : Int) := by omega
              have hq0 : (0 : Int) ≤ (q : Int) := by omega
              clear hx hza hzi hbs hrow hkb hrb hall hp

              go_upto_region 34 with (fail)
              refine wp_region_held_drew (S := (fun w' => Below ws.heap.size ws w')) (by kernel_rfl) ((Below.refl _ _).drew) (fun hS => ?_)
              refine wpAnyH_take (i := 0) (oi := _) (v := ?_) rfl (by kernel_rfl) (by kernel_rfl) (by kernel_rfl) (fun _ _ _ h => h) (Or.inl ⟨by rfl, ?_⟩) hS ?_
              rotate_left
              · intro w' hw'
                have hcells := HC5.out w' hw'
                go_simp
                (try with_reducible rfl)
              simp only [Act.put, List.getElem_toArray, List.getElem_cons_succ, List.getElem_cons_zero, List.setIfInBounds_toArray, List.set_cons_zero, List.set_cons_succ]
              refine wpAnyH_take (i := 1) (oi := _) (v := ?_) rfl (by kernel_rfl) (by kernel_rfl) (by kernel_rfl) (fun _ _ _ h => h) (Or.inl ⟨by rfl, ?_⟩) hS ?_
              rotate_left
              · intro w' hw'
                have hcells := HC5.out w' hw'
                go_simp
                (try with_reducible rfl)
              simp only [Act.put, List.getElem_toArray, List.getElem_cons_succ, List.getElem_cons_zero, List.setIfInBounds_toArray, List.set_cons_zero, List.set_cons_succ]
              refine wpAnyH_take (i := 2) (oi := _) (v := ?_) rfl (by kernel_rfl) (by kernel_rfl) (by kernel_rfl) (fun _ _ _ h => h) (Or.inl ⟨by rfl, ?_⟩) hS ?_
              rotate_left
              · intro w' hw'
                have hcells := HC5.out w' hw'
                go_simp
                (try with_reducible rfl)
              simp only [Act.put, List.getElem_toArray, List.getElem_cons_succ, List.getElem_cons_zero, List.setIfInBounds_toArray, List.set_cons_zero, List.set_cons_succ]
              refine wpAnyH_take (i := 3) (oi := _) (v := ?_) rfl (by kernel_rfl) (by kernel_rfl) (by kernel_rfl) (fun _ _ _ h => h) (Or.inl ⟨by rfl, ?_⟩) hS ?_
              rotate_left
              · intro w' hw'
                have hcells := HC5.out w' hw'
                go_simp
                (try with_reducible rfl)
              simp only [Act.put, List.getElem_toArray, List.getElem_cons_succ, List.getElem_cons_zero, List.setIfInBounds_toArray, List.set_cons_zero, List.set_cons_succ]
              refine wpAnyH_take (i := 4) (oi := _) (v := ?_) rfl (by kernel_rfl) (by kernel_rfl) (by kernel_rfl) (fun _ _ _ h => h) (Or.inl ⟨by rfl, ?_⟩) hS ?_
              rotate_left
              · intro w' hw'
                have hcells := HC5.out w' hw'
                go_simp
                (try with_reducible rfl)
              simp only [Act.put, List.getElem_toArray, List.getElem_cons_succ, List.getElem_cons_zero, List.setIfInBounds_toArray, List.set_cons_zero, List.set_cons_succ]
              refine wpAnyH_take (i := 5) (oi := _) (v := ?_) rfl (by kernel_rfl) (by kernel_rfl) (by kernel_rfl) (fun _ _ _ h => h) (Or.inl ⟨by rfl, ?_⟩) hS ?_
              rotate_left
              · intro w' hw'
                have hcells := HC5.out w' hw'
                go_simp
                (try with_reducible rfl)
              simp only [Act.put, List.getElem_toArray, List.getElem_cons_succ, List.getElem_cons_zero, List.setIfInBounds_toArray, List.set_cons_zero, List.set_cons_succ]
              refine wpAnyH_take (i := 6) (oi := _) (v := ?_) rfl (by kernel_rfl) (by kernel_rfl) (by kernel_rfl) (fun _ _ _ h => h) (Or.inl ⟨by rfl, ?_⟩) hS ?_
              rotate_left
              · intro w' hw'
                have hcells := HC5.out w' hw'
                go_simp
                (try with_reducible rfl)
              simp only [Act.put, List.getElem_toArray, List.getElem_cons_succ, List.getElem_cons_zero, List.setIfInBounds_toArray, List.set_cons_zero, List.set_cons_succ]
              refine wpAnyH_take (i := 7) (oi := _) (v := ?_) rfl (by kernel_rfl) (by kernel_rfl) (by kernel_rfl) (fun _ _ _ h => h) (Or.inl ⟨by rfl, ?_⟩) hS ?_
              rotate_left
              · intro w' hw'
                have hcells := HC5.out w' hw'
                go_simp
                (try with_reducible rfl)
              simp only [Act.put, List.getElem_toArray, List.getElem_cons_succ, List.getElem_cons_zero, List.setIfInBounds_toArray, List.set_cons_zero, List.set_cons_succ]
              refine wpAnyH_take (i := 8) (oi := _) (v := ?_) rfl (by kernel_rfl) (by kernel_rfl) (by kernel_rfl) (fun _ _ _ h => h) (Or.inl ⟨by rfl, ?_⟩) hS ?_
              rotate_left
              · intro w' hw'
                have hcells := HC5.out w' hw'
                go_simp
                (try with_reducible rfl)
              simp only [Act.put, List.getElem_toArray, List.getElem_cons_succ, List.getElem_cons_zero, List.setIfInBounds_toArray, List.set_cons_zero, List.set_cons_succ]
              refine wpAnyH_take (i := 9) (oi := _) (v := ?_) rfl (by kernel_rfl) (by kernel_rfl) (by kernel_rfl) (fun _ _ _ h => h) (Or.inl ⟨by rfl, ?_⟩) hS ?_
              rotate_left
              · intro w' hw'
                have hcells := HC5.out w' hw'
                go_simp
                (try with_reducible rfl)
              simp only [Act.put, List.getElem_toArray, List.getElem_cons_succ, List.getElem_cons_zero, List.setIfInBounds_toArray, List.set_cons_zero, List.set_cons_succ]
              refine wpAnyH_ready (rs := [10]) (by kernel_rfl) (by simp) ?_
              refine AllReadyH.cons (o := _) rfl (fun K hK => ?_) AllReadyH.nil
              go_simp; go_at_call 70; refine (HSE.out _ hS).mono ?_
              rintro e w6 ⟨rfl, hb6⟩
              refine hK.out _ _ (hS.trans (hb6.mono hS.size)) (fun hS => ?_)
              clear hK K
              (try simp only [Act.put, List.getElem_toArray, List.getElem_cons_succ, List.getElem_cons_zero, List.setIfInBounds_toArray, List.set_cons_zero, List.set_cons_succ])
              refine wpAnyH_done (by kernel_rfl) ?_ _
              (try dsimp only)
              clear HC5 HSE
              have hk6 := HKBS.out.ext hS
              have hr6 := HRBS.out.ext HKBS.out.n hS
              clear hS hb6
              cases p with
              | true =>
                have r := hid (show checkE d = 7 by rw [R0.out, HREST.out, HIT1.out, HDI1.out, itemsE, if_neg (fun h => HA6.out (HLN.out.trans h)), ← HV1.out, if_neg (show ¬ (0 : Int) ≠ 0 by decide), if_pos (show hasSt acc1 dm.st = true by rw [hasSt, List.any_eq_true]; exact ⟨_, List.getElem_mem hql, HP1.out.symm⟩), if_pos (show (7 : Int) ≠ 0 by decide)])
                go_wp2
                go_ret
                exact ⟨retI r.out.symm, HB0.out.trans (hk6.b.mono (by omega))⟩
              | false =>
                go_wp2
                go_roundw
                case rel => exact ⟨q + 1, by omega, by go_num, hk6, hr6, fun p hp h => by
                  by_cases hpq : p < q
                  · exact HALL.out p hp hpq
                  · obtain rfl : p = q := by omega
                    exact HP1.out.symm⟩
                case measure => simp [intOf]; omega
            · obtain rfl : ln = q := by omega
              have HAS := hid (show hasSt acc1 dm.st = false by
                rw [Bool.eq_false_iff]
                intro h
                rw [hasSt, List.any_eq_true] at h
                obtain ⟨m, hm, he⟩ := h
                obtain ⟨p, hp, rfl⟩ := List.getElem_of_mem hm
                rw [HALL.out p hp (by have := HLN.out; omega)] at he
                cases he)
              obtain ⟨cs, hcs, hl0, hown, hel⟩ := hrb
              have HOWN := hid hown
              have HEL := hid hel
              have HCL := hid hcs
              have HRO := hid (fun r e => Kept.own (K := stK) HRBS.out r e)
              have hcap1 : ln + 1 ≤ maxLen := by unfold maxLen; omega
              have hcap2 : (ln + 1) * 32 ≤ 140737488355328 := by omega
              obtain ⟨q8, y0, y1, y2, y3, y4, y5, y6, y7, y8, y9⟩ := HCY.out _ hkb
              clear hown hel hcs hl0 hall HALL hkb hlt hq
              go_wp2_with (at_builtin; go_loud (refine wpList_append_lies _ (by rfl) _ _ 42 (by rfl) (w.heap.size + 1) 24 ti _ 2 32 Tryz.underlying42 hi hz0 hz1 hz2 rfl (by omega) (.slice va ln vcap) ln (cs.flatMap SC.cs) (by rfl) (HOWN.out.alloc (.cells #[.int .i64 y.st.e, .slice y.st.a y.st.n y.st.c] 24)) ⟨ws.heap.size, 0, none⟩ 1 1 (SC.cs y.st) (by rfl) (by rfl) (World.news_of_block (heap_alloc_new ws _)) (by simp [SC.cs, Value.oneCell']) (by omega) hcap1 hcap2 (by have h2 := HKBS.out.n; simp at h2 ⊢; omega) (ws.heap.size + 1) (by simp) ?_); intro gg cap5 w5 hown2 hgrow hat hlt2; have HO2 := hid hown2; have HG := hid hgrow; have HAT := hid hat; clear hown2 hgrow hat hlt2)
              go_roundw
              case rel =>
                have hsw : wp.heap.size < ws.heap.size := ltOf (HKBS.out.at 0 (by simp))
                have hne : ∀ r, ((.slice va ln vcap) : Value).ownBlock = some r → (w.heap.size + 1) ≤ r ∧ ∀ p ∈ ([(wp.heap.size, (.cells #[.int .i64 x.k.k, .int .i64 x.k.i, .int .i64 x.k.s, .string x.k.t, .slice x.k.la x.k.ll x.k.lc, .slice x.k.fa x.k.fl x.k.fc, .int .i64 x.n, .int .i64 x.t, .slice x.ia x.il x.ic, .slice x.va x.vl x.vc] 58))] : List (Nat × Obj)), p.1 ≠ r := fun r e => ⟨(HRO.out r e).1, fun p hp => by
                  have h1 := HNB1.out r e
                  simp only [List.mem_cons, List.not_mem_nil, or_false] at hp
                  rw [hp]
                  exact fun h => h1 h.symm⟩
                have hw := HB0.out.trans (HKBS.out.b.mono (by omega))
                have hk2 := Kept.push (K := stK) (w1 := ws) (c := y.st) (d := dm.st) (l := acc1.map (·.st)) HCL.out (by rw [List.length_map, HLN.out]) HEL.out HKBS.out.n (HYI.out.st.same fun b q => ⟨by omega, hw.block b q⟩) (fun r e => (hne r e).1) HO2.out HG.out
                refine ⟨j + 1, ln + 1, acc1 ++ [dm], _, rfl, by rw [List.length_append, HLN.out]; rfl, by omega, by go_num, (HKBS.out.ext ((Below.refl _ _).alloc (Nat.le_refl _) _)).grown HG.out hne, ?_, fun r e => ?_, ?_, ?_⟩
                · rw [List.map_append]
                  exact hk2
                · have hr : r = gg := (Option.some.inj e).symm
                  subst hr
                  rcases HAT.out with h | h
                  · exact HNB1.out r h
                  · (try simp at h); omega
                · rw [HIT1.out, HDI1.out, itemsE, if_neg (fun h => HA6.out (HLN.out.trans h)), ← HV1.out, if_neg (show ¬ (0 : Int) ≠ 0 by decide), HAS.out, if_neg (show ¬ false = true by decide)]
                · have := HA6.out
                  omega
              case measure => simp [intOf]; omega
          · obtain rfl : j = x.il := by omega
            have h8 := cellOf (hkb.at 0 (by simp)) 8
            have h9 := cellOf (hkb.at 0 (by simp)) 9
            (try dsimp only [List.getElem_cons_zero] at h8)
            (try dsimp only [List.getElem_cons_zero] at h9)
            have HIT2 := hid (show itemsE acc ds.items = (0, acc1) by rw [HIT1.out, show x.il = ds.items.length from HLI.out, List.drop_length, itemsE])
            clear hlt hkb
            go_wp2
            clear h8 h9
            go_loopw [4, 11] (fun nvv i wr => ∃ (q nv1 : Nat), nvv = .int .i64 nv1 ∧ q ≤ x.vl ∧ i = .int .i64 q ∧ KeepB (w.heap.size + 1) wb [(wp.heap.size, (.cells #[.int .i64 x.k.k, .int .i64 x.k.i, .int .i64 x.k.s, .string x.k.t, .slice x.k.la x.k.ll x.k.lc, .slice x.k.fa x.k.fl x.k.fc, .int .i64 x.n, .int .i64 x.t, .slice x.ia x.il x.ic, .slice x.va x.vl x.vc] 58))] wr ∧ Kept stK 24 (w.heap.size + 1) wr (.slice va ln vcap) ln (acc1.map (·.st)) ∧ valsE nv ds.vals = valsE nv1 (ds.vals.drop q) ∧ nv1 ≤ 4096) (fun _ i _ => x.vl - (intOf i).toNat)
            case atStart => exact ⟨0, nv, rfl, Nat.zero_le _, rfl, HKB1.out, HRB1.out, by rw [List.drop_zero], hv4⟩
            case round =>
            obtain ⟨q, nv1, rfl, hq, rfl, hkb, hrb, hvt, hv1⟩ := hrel
            obtain ⟨ws, rfl⟩ : ∃ w1 : World, w1 = wr := ⟨_, rfl⟩
            clear HKB1 HRB1
            have HVT := hid hvt
            have HKBS := hid hkb
            have HRBS := hid hrb
            clear hvt hrb
            by_cases hlt : q < x.vl
            · have hql : q < ds.vals.length := by have := HLV.out; omega
              obtain ⟨bi, oi, hia, hbi, hx⟩ := HDV.out.slot (show 0 < x.vl by omega)
              obtain ⟨y, hya, hyi⟩ := hx q hql
              have hw := HB0.out.trans (hkb.b.mono (by omega))
              have h9 := cellOf (hkb.at 0 (by simp)) 9
              (try dsimp only [List.getElem_cons_zero] at h9)
              replace h9 : ws.cell? ⟨wp.heap.size, 4 + 5, none⟩ = some (.slice (some ⟨bi, oi, none⟩) x.vl x.vc) := h9.trans (by rw [hia]; rfl)
              obtain ⟨y0, y1, y2, y3, y4, y5⟩ := (hya.same (hw.block bi hbi)).val
              obtain ⟨dv, hdv⟩ : ∃ dv, dv = ds.vals[q] := ⟨_, rfl⟩
              have HDV1 := hid (show ds.vals.drop q = dv :: ds.vals.drop (q + 1) by rw [hdv]; exact List.drop_eq_getElem_cons hql)
              rw [← hdv] at hyi
              obtain ⟨v1, hv⟩ : ∃ v1, v1 = chkVal dv := ⟨_, rfl⟩
              have HMC : Hid (Calls Tryz.prog 75 #[.agg #[.int .i64 y.k, .int .i64 y.i, .int .i64 y.s, .string y.t, .slice y.la y.ll y.lc, .slice y.fa y.fl y.fc]] ws fun e w' => e = .returned (.int .i64 v1) ∧ Below ws.heap.size ws w') := hid (by rw [hv]; exact check_call y _ _ (hyi.same fun b q => ⟨by have := hkb.n; omega, hw.block b q⟩) (HT.out.below hw))
              have HV1 := hid hv
              have hlt' : (q : Int) < (x.vl : Int) := by omega
              have hq0 : (0 : Int) ≤ (q : Int) := by omega
              clear hx hya hyi hia hbi hdv hv hkb
              by_cases ha : nv1 = 4096
              · have ha1 : (4096 : Int) ≤ (nv1 : Int) := by omega
                have ha2 : 4096 ≤ nv1 := by omega
                have r := hid (show checkE d = 9 by rw [R0.out, HREST.out, HIT2.out, if_neg (fun h => h rfl), HVT.out, HDV1.out, valsE, if_pos ha, if_pos (show (9 : Int) ≠ 0 by decide)])
                clear ha
                go_wp2
                go_ret
                exact ⟨retI r.out.symm, hw⟩
              have ha1 : ¬ (4096 : Int) ≤ (nv1 : Int) := by omega
              have ha2 : ¬ 4096 ≤ nv1 := by omega
              have ha3 : (nv1 : Int) < 4096 := by omega
              have HA6 := hid ha
              clear ha
              by_cases hv0 : v1 = 0
              case neg =>
                have r := hid (show checkE d = v1 by rw [R0.out, HREST.out, HIT2.out, if_neg (fun h => h rfl), HVT.out, HDV1.out, valsE, if_neg HA6.out, ← HV1.out, if_pos hv0, if_pos hv0])
                go_wp2_with (go_at_call 75; refine HMC.out.mono ?_; rintro e w6 ⟨rfl, hb6⟩)
                go_ret
                exact ⟨retI r.out.symm, HB0.out.trans ((HKBS.out.ext hb6).b.mono (by omega))⟩
              case pos =>
              subst hv0
              go_wp2_with (go_at_call 75; refine HMC.out.mono ?_; rintro e w6 ⟨rfl, hb6⟩)
              go_roundw
              case rel => exact ⟨q + 1, nv1 + 1, by go_num, by omega, by go_num, HKBS.out.ext hb6, HRBS.out.ext HKBS.out.n hb6, by rw [HVT.out, HDV1.out, valsE, if_neg HA6.out, ← HV1.out, if_neg (show ¬ (0 : Int) ≠ 0 by decide)], by have := HA6.out; omega⟩
              case measure => simp [intOf]; omega
            · obtain rfl : q = x.vl := by omega
              have h9 := cellOf (hkb.at 0 (by simp)) 9
              (try dsimp only [List.getElem_cons_zero] at h9)
              have HVE := hid (show valsE nv ds.vals = (0, nv1) by rw [HVT.out, show x.vl = ds.vals.length from HLV.out, List.drop_length, valsE])
              clear hlt hkb
              go_wp2
              go_roundw
              case rel => exact ⟨k + 1, nv1, ln, acc1, _, rfl, HLN.out, by omega, by go_num, rfl, HKBS.out.sub (by simp), HRBS.out, by rw [HREST.out, HIT2.out, if_neg (fun h => h rfl), HVE.out, if_neg (fun h => h rfl), HPN.out], hm1, hv1⟩
              case measure => simp [intOf]; omega
    | false =>
      by_cases hv0 : v = 0
      case neg =>
        have r := hid (show checkE d = v by rw [R0.out, HIT.out, HDR.out, slotsE, if_pos ⟨by rw [← HV.out]; exact hv0, HZ.out.symm⟩, HV.out])
        go_wp2_with (first
                  | (go_at_call 75; refine (HVC.out _ hb2).mono ?_; rintro e w3 ⟨rfl, hb3'⟩; have hb3 := hb2.trans (hb3'.mono hb2.size))
                  | (go_at_call 76; refine HIS.out.mono ?_; rintro e w2 ⟨rfl, hb2⟩; clear q0 q1 q2 m0 m1 m2 m3 m4 m5 m6 m7 m8 m9; obtain ⟨⟨q0, q1, q2⟩, m0, m1, m2, m3, m4, m5, m6, m7, m8, m9⟩ := HC.out _ (hb2)))
        go_ret
        exact ⟨retI r.out.symm, HB0.out.trans ((HBWP.out.trans (HBA.out.trans (hb3.mono HSA.out))).mono (by omega))⟩
      case pos =>
      subst hv0
      have HKEY := hid (show ¬ (chkVal ds.k ≠ 0 ∧ isNullV ds.k = false) from fun h => h.1 HV.out.symm)
      by_cases hkz : k = 0
      · have hkf : decide ((0 : Int) < (k : Int)) = false := by simp; omega
        have hkf2 : decide (0 < k) = false := by simp; omega
        have HKZ := hid (show prevK d.l k = none by rw [hkz, prevK])
        clear hkz
        have HNEXT := hid (show slotsE none [] 0 d.l = if (slotE acc nv ds).1 ≠ 0 then (slotE acc nv ds).1 else slotsE (some ds.k) (slotE acc nv ds).2.1 (slotE acc nv ds).2.2 (d.l.drop (k + 1)) by
          rw [HIT.out, HDR.out, slotsE, if_neg HKEY.out, if_neg (by rw [HKZ.out]; exact (show ¬ (1 : Int) = 0 by decide)), if_neg (by rw [HKZ.out]; exact (show ¬ (1 : Int) = -1 by decide))])
        go_upto_region 21 with (first
                      | (go_at_call 75; refine (HVC.out _ hb2).mono ?_; rintro e w3 ⟨rfl, hb3'⟩; have hb3 := hb2.trans (hb3'.mono hb2.size); clear q0 q1 q2 m0 m1 m2 m3 m4 m5 m6 m7 m8 m9; obtain ⟨⟨q0, q1, q2⟩, m0, m1, m2, m3, m4, m5, m6, m7, m8, m9⟩ := HC.out _ (hb3))
                      | (go_at_call 76; refine HIS.out.mono ?_; rintro e w2 ⟨rfl, hb2⟩; clear q0 q1 q2 m0 m1 m2 m3 m4 m5 m6 m7 m8 m9; obtain ⟨⟨q0, q1, q2⟩, m0, m1, m2, m3, m4, m5, m6, m7, m8, m9⟩ := HC.out _ (hb2)))
        clear hb2 hb3'
        cases pn with
        | false =>
          have r := hid (show checkE d = 2 by rw [R0.out, HNEXT.out, if_pos (by rw [slotE_bad (of_decide_eq_false HPN0.out.symm)]; decide), slotE_bad (of_decide_eq_false HPN0.out.symm)])
          go_wp2_with (go_at_call 79; refine (HIN.out _).mono ?_; rintro e w5 ⟨rfl, rfl⟩)
          go_ret
          exact ⟨retI r.out.symm, HB0.out.trans ((HBWP.out.trans (HBA.out.trans (hb3.mono HSA.out))).mono (by omega))⟩
        | true =>
          have HREST := hid (HNEXT.out.trans (restE (of_decide_eq_true HPN0.out.symm) _))
          go_wp2_with (go_at_call 79; refine (HIN.out _).mono ?_; rintro e w5 ⟨rfl, rfl⟩)
          have hup := HBWP.out.trans (HBA.out.trans (hb3.mono HSA.out))
          have HKB0 : Hid (KeepB (w.heap.size + 1) wb [(wp.heap.size, (.cells #[.int .i64 x.k.k, .int .i64 x.k.i, .int .i64 x.k.s, .string x.k.t, .slice x.k.la x.k.ll x.k.lc, .slice x.k.fa x.k.fl x.k.fc, .int .i64 x.n, .int .i64 x.t, .slice x.ia x.il x.ic, .slice x.va x.vl x.vc] 58))] w3) := hid ⟨hup, by have h1 := hup.size; have h2 := HSB.out; omega, fun p hp => by
            simp only [List.mem_cons, List.not_mem_nil, or_false] at hp
            rw [hp]
            exact heapExt hb3 (heap_alloc_new wp (.cells #[.int .i64 x.k.k, .int .i64 x.k.i, .int .i64 x.k.s, .string x.k.t, .slice x.k.la x.k.ll x.k.lc, .slice x.k.fa x.k.fl x.k.fc, .int .i64 x.n, .int .i64 x.t, .slice x.ia x.il x.ic, .slice x.va x.vl x.vc] 58))⟩
          have HRB0 := hid (HRB.out.ext (by omega) (((Below.refl _ wp).alloc (Nat.le_refl _) (.cells #[.int .i64 x.k.k, .int .i64 x.k.i, .int .i64 x.k.s, .string x.k.t, .slice x.k.la x.k.ll x.k.lc, .slice x.k.fa x.k.fl x.k.fc, .int .i64 x.n, .int .i64 x.t, .slice x.ia x.il x.ic, .slice x.va x.vl x.vc] 58)).trans (hb3.mono (by simp))))
          clear hup hb3 q0 q1 q2 m0 m1 m2 m3 m4 m5 m6 m7 m8 m9 HNEXT
          go_loopw [3, 8] (fun s i wr => ∃ (j ln : Nat) (acc1 : List Msg) (s1 : Value), s1 = s ∧ ln = acc1.length ∧ j ≤ x.il ∧ i = .int .i64 j ∧ KeepB (w.heap.size + 1) wb [(wp.heap.size, (.cells #[.int .i64 x.k.k, .int .i64 x.k.i, .int .i64 x.k.s, .string x.k.t, .slice x.k.la x.k.ll x.k.lc, .slice x.k.fa x.k.fl x.k.fc, .int .i64 x.n, .int .i64 x.t, .slice x.ia x.il x.ic, .slice x.va x.vl x.vc] 58))] wr ∧ Kept stK 24 (w.heap.size + 1) wr s1 ln (acc1.map (·.st)) ∧ (∀ r, s1.ownBlock = some r → r ≠ wp.heap.size) ∧ itemsE acc ds.items = itemsE acc1 (ds.items.drop j) ∧ ln ≤ 256) (fun _ i _ => x.il - (intOf i).toNat)
          case atStart => exact ⟨0, la, acc, _, rfl, HLA.out, Nat.zero_le _, rfl, HKB0.out, HRB0.out, HNB.out, by rw [List.drop_zero], hm4⟩
          case round =>
          obtain ⟨j, ln, acc1, s1, rfl, hln, hj, rfl, hkb, hrb, hnb, hit1, hm1⟩ := hrel
          have HLN := hid hln
          clear hln
          obtain ⟨wq, rfl⟩ : ∃ w1 : World, w1 = wr := ⟨_, rfl⟩
          obtain ⟨va, vcap, rfl, hvc⟩ := hrb.shape
          clear HKB0 HRB0
          have HIT1 := hid hit1
          have HNB1 := hid hnb
          have HKB1 := hid hkb
          have HRB1 := hid hrb
          have hrb' := fun r e => (Kept.own (K := stK) HRB1.out r e)
          have HRO1 := hid hrb'
          clear hit1 hnb hrb hrb'
          by_cases hlt : j < x.il
          · have hjl : j < ds.items.length := by have := HLI.out; omega
            obtain ⟨bi, oi, hia, hbi, hx⟩ := HDI.out.slot (show 0 < x.il by omega)
            obtain ⟨y, hya, hyi⟩ := hx j hjl
            obtain ⟨dm, hdm⟩ : ∃ dm, dm = ds.items[j] := ⟨_, rfl⟩
            have HDI1 := hid (show ds.items.drop j = dm :: ds.items.drop (j + 1) by rw [hdm]; exact List.drop_eq_getElem_cons hjl)
            rw [← hdm] at hyi
            have HYI := hid (show IsMsg (· < w.heap.size) w y dm from hyi)
            have hw := HB0.out.trans (hkb.b.mono (by omega))
            have HCY : Hid (∀ w', KeepB (w.heap.size + 1) wb [(wp.heap.size, (.cells #[.int .i64 x.k.k, .int .i64 x.k.i, .int .i64 x.k.s, .string x.k.t, .slice x.k.la x.k.ll x.k.lc, .slice x.k.fa x.k.fl x.k.fc, .int .i64 x.n, .int .i64 x.t, .slice x.ia x.il x.ic, .slice x.va x.vl x.vc] 58))] w' → (w'.cell? ⟨wp.heap.size, 3 + 5, none⟩ = some (.slice (some ⟨bi, oi, none⟩) x.il x.ic)) ∧ (w'.cell? ⟨bi, oi + j * 10, none⟩ = some (.int .i64 y.st.e) ∧ w'.cell? ⟨bi, oi + j * 10 + 1, none⟩ = some (.slice y.st.a y.st.n y.st.c) ∧ w'.cell? ⟨bi, oi + j * 10 + 2, none⟩ = some (.int .i64 y.m) ∧ w'.cell? ⟨bi, oi + j * 10 + 3, none⟩ = some (.slice y.a y.n y.c) ∧ w'.cell? ⟨bi, oi + j * 10 + 4, none⟩ = some (.int .i64 y.b.k) ∧ w'.cell? ⟨bi, oi + j * 10 + 5, none⟩ = some (.int .i64 y.b.i) ∧ w'.cell? ⟨bi, oi + j * 10 + 6, none⟩ = some (.int .i64 y.b.s) ∧ w'.cell? ⟨bi, oi + j * 10 + 7, none⟩ = some (.string y.b.t) ∧ w'.cell? ⟨bi, oi + j * 10 + 8, none⟩ = some (.slice y.b.la y.b.ll y.b.lc) ∧ w'.cell? ⟨bi, oi + j * 10 + 9, none⟩ = some (.slice y.b.fa y.b.fl y.b.fc))) := hid fun w' h => by
              have h8 := cellOf (h.at 0 (by simp)) 8
              (try dsimp only [List.getElem_cons_zero] at h8)
              have hw' := HB0.out.trans (h.b.mono (by omega))
              obtain ⟨y0, y1, y2, y3, y4, y5, y6, y7, y8, y9⟩ := (hya.same (hw'.block bi hbi)).m
              exact ⟨h8.trans (by rw [hia]; rfl), y0, y1, y2, y3, y4, y5, y6, y7, y8, y9⟩
            obtain ⟨v1, hv⟩ : ∃ v1, v1 = msgE dm := ⟨_, rfl⟩
            have HMC : Hid (Calls Tryz.prog 80 #[.agg #[.int .i64 y.st.e, .slice y.st.a y.st.n y.st.c, .int .i64 y.m, .slice y.a y.n y.c, .int .i64 y.b.k, .int .i64 y.b.i, .int .i64 y.b.s, .string y.b.t, .slice y.b.la y.b.ll y.b.lc, .slice y.b.fa y.b.fl y.b.fc]] wq fun e w' => e = .returned (.int .i64 v1) ∧ Below wq.heap.size wq w') := hid (by rw [hv]; exact msgCheck_call y _ _ (hyi.same fun b q => ⟨by have := hkb.n; omega, hw.block b q⟩) (HT.out.below hw))
            have HV1 := hid hv
            have hlt' : (j : Int) < (x.il : Int) := by omega
            have hj0 : (0 : Int) ≤ (j : Int) := by omega
            clear hx hya hyi hia hbi hdm hv
            obtain ⟨q8, y0, y1, y2, y3, y4, y5, y6, y7, y8, y9⟩ := HCY.out _ hkb
            clear hkb
            by_cases ha : ln = 256
            · have ha1 : (256 : Int) ≤ (ln : Int) := by omega
              have ha2 : 256 ≤ ln := by omega
              have r := hid (show checkE d = 9 by rw [R0.out, HREST.out, HIT1.out, HDI1.out, itemsE, if_pos (HLN.out.symm.trans ha), if_pos (show (9 : Int) ≠ 0 by decide)])
              clear ha
              go_wp2
              go_ret
              exact ⟨retI r.out.symm, hw⟩
            have ha1 : ¬ (256 : Int) ≤ (ln : Int) := by omega
            have ha2 : ¬ 256 ≤ ln := by omega
            have ha3 : ln < 256 := by omega
            have HA6 := hid ha
            clear ha
            by_cases hv0 : v1 = 0
            case neg =>
              have r := hid (show checkE d = v1 by rw [R0.out, HREST.out, HIT1.out, HDI1.out, itemsE, if_neg (fun h => HA6.out (HLN.out.trans h)), ← HV1.out, if_pos hv0, if_pos hv0])
              go_wp2_with (go_at_call 80; refine HMC.out.mono ?_; rintro e w5 ⟨rfl, hb5⟩)
              go_ret
              exact ⟨retI r.out.symm, HB0.out.trans ((HKB1.out.ext hb5).b.mono (by omega))⟩
            case pos =>
            subst hv0
            go_wp2_with (go_at_call 80; refine HMC.out.mono ?_; rintro e w5 ⟨rfl, hb5⟩)
            have HKB2 := hid (HKB1.out.ext hb5)
            have HRB2 := hid (HRB1.out.ext HKB1.out.n hb5)
            clear q8 y0 y1 y2 y3 y4 y5 y6 y7 y8 y9 hb5 HMC
            go_loopw [10] (fun i wr => ∃ q : Nat, q ≤ ln ∧ i = .int .i64 q ∧ KeepB (w.heap.size + 1) wb [(wp.heap.size, (.cells #[.int .i64 x.k.k, .int .i64 x.k.i, .int .i64 x.k.s, .string x.k.t, .slice x.k.la x.k.ll x.k.lc, .slice x.k.fa x.k.fl x.k.fc, .int .i64 x.n, .int .i64 x.t, .slice x.ia x.il x.ic, .slice x.va x.vl x.vc] 58))] wr ∧ Kept stK 24 (w.heap.size + 1) wr (.slice va ln vcap) ln (acc1.map (·.st)) ∧ ∀ p (hp : p < acc1.length), p < q → stEqB acc1[p].st dm.st = false) (fun i _ => ln - (intOf i).toNat)
            case atStart => exact ⟨0, Nat.zero_le _, rfl, HKB2.out, HRB2.out, fun p _ h => absurd h (Nat.not_lt_zero p)⟩
            case round =>
            obtain ⟨q, hq, rfl, hkb, hrb, hall⟩ := hrel
            obtain ⟨ws, rfl⟩ : ∃ w1 : World, w1 = wr := ⟨_, rfl⟩
            clear HKB2 HRB2
            have HALL := hid hall
            have HKBS := hid hkb
            have HRBS := hid hrb
            by_cases hlt : q < ln
            · have hql : q < acc1.length := by have := HLN.out; omega
              have hrow := hrb.row hkb.n (by dsimp only; omega)
              obtain ⟨bs, os, rfl, hbs, hx⟩ := hrow.slot (show 0 < ln by omega)
              obtain ⟨z, hza, hzi⟩ := hx q (by rw [List.length_map]; exact hql)
              rw [List.getElem_map] at hzi
              obtain ⟨p, hp⟩ : ∃ p, p = stEqB acc1[q].st dm.st := ⟨_, rfl⟩
              have HSE : Hid (∀ w', Below ws.heap.size ws w' → Calls Tryz.prog 70 #[.agg #[.int .i64 z.e, .slice z.a z.n z.c], .agg #[.int .i64 y.st.e, .slice y.st.a y.st.n y.st.c]] w' fun e w2 => e = .returned (.bool p) ∧ Below w'.heap.size w' w2) := hid fun w' h => by
                have hk := HKBS.out.ext h
                have hs := h.size
                have hs2 := hk.n
                have hw := HB0.out.trans (hk.b.mono (by omega))
                rw [hp]
                exact stEqual_call z y.st _ _ w' (hzi.same fun b q => ⟨by omega, h.block b q⟩) (HYI.out.st.same fun b q => ⟨by omega, hw.block b q⟩)
              have HP1 := hid hp
              have HC5 : Hid (∀ w', Below ws.heap.size ws w' → (w'.cell? ⟨bs, os + q * 2, none⟩ = some (.int .i64 z.e) ∧ w'.cell? ⟨bs, os + q * 2 + 1, none⟩ = some (.slice z.a z.n z.c)) ∧ (w'.cell? ⟨wp.heap.size, 3 + 5, none⟩ = some (.slice (some ⟨bi, oi, none⟩) x.il x.ic)) ∧ (w'.cell? ⟨bi, oi + j * 10, none⟩ = some (.int .i64 y.st.e) ∧ w'.cell? ⟨bi, oi + j * 10 + 1, none⟩ = some (.slice y.st.a y.st.n y.st.c))) := hid fun w' h => by
                obtain ⟨z0, z1⟩ := (hza.same (h.block bs hbs)).two
                obtain ⟨h8, y0, y1, _⟩ := HCY.out w' (HKBS.out.ext h)
                exact ⟨⟨z0, z1⟩, h8, y0, y1⟩
              have hlt' : (q : Int) < (ln : Int) := by omega
              have hq0 : (0 : Int) ≤ (q : Int) := by omega
              clear hx hza hzi hbs hrow hkb hrb hall hp

              go_upto_region 34 with (fail)
              refine wp_region_held_drew (S := (fun w' => Below ws.heap.size ws w')) (by kernel_rfl) ((Below.refl _ _).drew) (fun hS => ?_)
              refine wpAnyH_take (i := 0) (oi := _) (v := ?_) rfl (by kernel_rfl) (by kernel_rfl) (by kernel_rfl) (fun _ _ _ h => h) (Or.inl ⟨by rfl, ?_⟩) hS ?_
              rotate_left
              · intro w' hw'
                have hcells := HC5.out w' hw'
                go_simp
                (try with_reducible rfl)
              simp only [Act.put, List.getElem_toArray, List.getElem_cons_succ, List.getElem_cons_zero, List.setIfInBounds_toArray, List.set_cons_zero, List.set_cons_succ]
              refine wpAnyH_take (i := 1) (oi := _) (v := ?_) rfl (by kernel_rfl) (by kernel_rfl) (by kernel_rfl) (fun _ _ _ h => h) (Or.inl ⟨by rfl, ?_⟩) hS ?_
              rotate_left
              · intro w' hw'
                have hcells := HC5.out w' hw'
                go_simp
                (try with_reducible rfl)
              simp only [Act.put, List.getElem_toArray, List.getElem_cons_succ, List.getElem_cons_zero, List.setIfInBounds_toArray, List.set_cons_zero, List.set_cons_succ]
              refine wpAnyH_take (i := 2) (oi := _) (v := ?_) rfl (by kernel_rfl) (by kernel_rfl) (by kernel_rfl) (fun _ _ _ h => h) (Or.inl ⟨by rfl, ?_⟩) hS ?_
              rotate_left
              · intro w' hw'
                have hcells := HC5.out w' hw'
                go_simp
                (try with_reducible rfl)
              simp only [Act.put, List.getElem_toArray, List.getElem_cons_succ, List.getElem_cons_zero, List.setIfInBounds_toArray, List.set_cons_zero, List.set_cons_succ]
              refine wpAnyH_take (i := 3) (oi := _) (v := ?_) rfl (by kernel_rfl) (by kernel_rfl) (by kernel_rfl) (fun _ _ _ h => h) (Or.inl ⟨by rfl, ?_⟩) hS ?_
              rotate_left
              · intro w' hw'
                have hcells := HC5.out w' hw'
                go_simp
                (try with_reducible rfl)
              simp only [Act.put, List.getElem_toArray, List.getElem_cons_succ, List.getElem_cons_zero, List.setIfInBounds_toArray, List.set_cons_zero, List.set_cons_succ]
              refine wpAnyH_take (i := 4) (oi := _) (v := ?_) rfl (by kernel_rfl) (by kernel_rfl) (by kernel_rfl) (fun _ _ _ h => h) (Or.inl ⟨by rfl, ?_⟩) hS ?_
              rotate_left
              · intro w' hw'
                have hcells := HC5.out w' hw'
                go_simp
                (try with_reducible rfl)
              simp only [Act.put, List.getElem_toArray, List.getElem_cons_succ, List.getElem_cons_zero, List.setIfInBounds_toArray, List.set_cons_zero, List.set_cons_succ]
              refine wpAnyH_take (i := 5) (oi := _) (v := ?_) rfl (by kernel_rfl) (by kernel_rfl) (by kernel_rfl) (fun _ _ _ h => h) (Or.inl ⟨by rfl, ?_⟩) hS ?_
              rotate_left
              · intro w' hw'
                have hcells := HC5.out w' hw'
                go_simp
                (try with_reducible rfl)
              simp only [Act.put, List.getElem_toArray, List.getElem_cons_succ, List.getElem_cons_zero, List.setIfInBounds_toArray, List.set_cons_zero, List.set_cons_succ]
              refine wpAnyH_take (i := 6) (oi := _) (v := ?_) rfl (by kernel_rfl) (by kernel_rfl) (by kernel_rfl) (fun _ _ _ h => h) (Or.inl ⟨by rfl, ?_⟩) hS ?_
              rotate_left
              · intro w' hw'
                have hcells := HC5.out w' hw'
                go_simp
                (try with_reducible rfl)
              simp only [Act.put, List.getElem_toArray, List.getElem_cons_succ, List.getElem_cons_zero, List.setIfInBounds_toArray, List.set_cons_zero, List.set_cons_succ]
              refine wpAnyH_take (i := 7) (oi := _) (v := ?_) rfl (by kernel_rfl) (by kernel_rfl) (by kernel_rfl) (fun _ _ _ h => h) (Or.inl ⟨by rfl, ?_⟩) hS ?_
              rotate_left
              · intro w' hw'
                have hcells := HC5.out w' hw'
                go_simp
                (try with_reducible rfl)
              simp only [Act.put, List.getElem_toArray, List.getElem_cons_succ, List.getElem_cons_zero, List.setIfInBounds_toArray, List.set_cons_zero, List.set_cons_succ]
              refine wpAnyH_take (i := 8) (oi := _) (v := ?_) rfl (by kernel_rfl) (by kernel_rfl) (by kernel_rfl) (fun _ _ _ h => h) (Or.inl ⟨by rfl, ?_⟩) hS ?_
              rotate_left
              · intro w' hw'
                have hcells := HC5.out w' hw'
                go_simp
                (try with_reducible rfl)
              simp only [Act.put, List.getElem_toArray, List.getElem_cons_succ, List.getElem_cons_zero, List.setIfInBounds_toArray, List.set_cons_zero, List.set_cons_succ]
              refine wpAnyH_take (i := 9) (oi := _) (v := ?_) rfl (by kernel_rfl) (by kernel_rfl) (by kernel_rfl) (fun _ _ _ h => h) (Or.inl ⟨by rfl, ?_⟩) hS ?_
              rotate_left
              · intro w' hw'
                have hcells := HC5.out w' hw'
                go_simp
                (try with_reducible rfl)
              simp only [Act.put, List.getElem_toArray, List.getElem_cons_succ, List.getElem_cons_zero, List.setIfInBounds_toArray, List.set_cons_zero, List.set_cons_succ]
              refine wpAnyH_ready (rs := [10]) (by kernel_rfl) (by simp) ?_
              refine AllReadyH.cons (o := _) rfl (fun K hK => ?_) AllReadyH.nil
              go_simp; go_at_call 70; refine (HSE.out _ hS).mono ?_
              rintro e w6 ⟨rfl, hb6⟩
              refine hK.out _ _ (hS.trans (hb6.mono hS.size)) (fun hS => ?_)
              clear hK K
              (try simp only [Act.put, List.getElem_toArray, List.getElem_cons_succ, List.getElem_cons_zero, List.setIfInBounds_toArray, List.set_cons_zero, List.set_cons_succ])
              refine wpAnyH_done (by kernel_rfl) ?_ _
              (try dsimp only)
              clear HC5 HSE
              have hk6 := HKBS.out.ext hS
              have hr6 := HRBS.out.ext HKBS.out.n hS
              clear hS hb6
              cases p with
              | true =>
                have r := hid (show checkE d = 7 by rw [R0.out, HREST.out, HIT1.out, HDI1.out, itemsE, if_neg (fun h => HA6.out (HLN.out.trans h)), ← HV1.out, if_neg (show ¬ (0 : Int) ≠ 0 by decide), if_pos (show hasSt acc1 dm.st = true by rw [hasSt, List.any_eq_true]; exact ⟨_, List.getElem_mem hql, HP1.out.symm⟩), if_pos (show (7 : Int) ≠ 0 by decide)])
                go_wp2
                go_ret
                exact ⟨retI r.out.symm, HB0.out.trans (hk6.b.mono (by omega))⟩
              | false =>
                go_wp2
                go_roundw
                case rel => exact ⟨q + 1, by omega, by go_num, hk6, hr6, fun p hp h => by
                  by_cases hpq : p < q
                  · exact HALL.out p hp hpq
                  · obtain rfl : p = q := by omega
                    exact HP1.out.symm⟩
                case measure => simp [intOf]; omega
            · obtain rfl : ln = q := by omega
              have HAS := hid (show hasSt acc1 dm.st = false by
                rw [Bool.eq_false_iff]
                intro h
                rw [hasSt, List.any_eq_true] at h
                obtain ⟨m, hm, he⟩ := h
                obtain ⟨p, hp, rfl⟩ := List.getElem_of_mem hm
                rw [HALL.out p hp (by have := HLN.out; omega)] at he
                cases he)
              obtain ⟨cs, hcs, hl0, hown, hel⟩ := hrb
              have HOWN := hid hown
              have HEL := hid hel
              have HCL := hid hcs
              have HRO := hid (fun r e => Kept.own (K := stK) HRBS.out r e)
              have hcap1 : ln + 1 ≤ maxLen := by unfold maxLen; omega
              have hcap2 : (ln + 1) * 32 ≤ 140737488355328 := by omega
              obtain ⟨q8, y0, y1, y2, y3, y4, y5, y6, y7, y8, y9⟩ := HCY.out _ hkb
              clear hown hel hcs hl0 hall HALL hkb hlt hq
              go_wp2_with (at_builtin; go_loud (refine wpList_append_lies _ (by rfl) _ _ 42 (by rfl) (w.heap.size + 1) 24 ti _ 2 32 Tryz.underlying42 hi hz0 hz1 hz2 rfl (by omega) (.slice va ln vcap) ln (cs.flatMap SC.cs) (by rfl) (HOWN.out.alloc (.cells #[.int .i64 y.st.e, .slice y.st.a y.st.n y.st.c] 24)) ⟨ws.heap.size, 0, none⟩ 1 1 (SC.cs y.st) (by rfl) (by rfl) (World.news_of_block (heap_alloc_new ws _)) (by simp [SC.cs, Value.oneCell']) (by omega) hcap1 hcap2 (by have h2 := HKBS.out.n; simp at h2 ⊢; omega) (ws.heap.size + 1) (by simp) ?_); intro gg cap5 w5 hown2 hgrow hat hlt2; have HO2 := hid hown2; have HG := hid hgrow; have HAT := hid hat; clear hown2 hgrow hat hlt2)
              go_roundw
              case rel =>
                have hsw : wp.heap.size < ws.heap.size := ltOf (HKBS.out.at 0 (by simp))
                have hne : ∀ r, ((.slice va ln vcap) : Value).ownBlock = some r → (w.heap.size + 1) ≤ r ∧ ∀ p ∈ ([(wp.heap.size, (.cells #[.int .i64 x.k.k, .int .i64 x.k.i, .int .i64 x.k.s, .string x.k.t, .slice x.k.la x.k.ll x.k.lc, .slice x.k.fa x.k.fl x.k.fc, .int .i64 x.n, .int .i64 x.t, .slice x.ia x.il x.ic, .slice x.va x.vl x.vc] 58))] : List (Nat × Obj)), p.1 ≠ r := fun r e => ⟨(HRO.out r e).1, fun p hp => by
                  have h1 := HNB1.out r e
                  simp only [List.mem_cons, List.not_mem_nil, or_false] at hp
                  rw [hp]
                  exact fun h => h1 h.symm⟩
                have hw := HB0.out.trans (HKBS.out.b.mono (by omega))
                have hk2 := Kept.push (K := stK) (w1 := ws) (c := y.st) (d := dm.st) (l := acc1.map (·.st)) HCL.out (by rw [List.length_map, HLN.out]) HEL.out HKBS.out.n (HYI.out.st.same fun b q => ⟨by omega, hw.block b q⟩) (fun r e => (hne r e).1) HO2.out HG.out
                refine ⟨j + 1, ln + 1, acc1 ++ [dm], _, rfl, by rw [List.length_append, HLN.out]; rfl, by omega, by go_num, (HKBS.out.ext ((Below.refl _ _).alloc (Nat.le_refl _) _)).grown HG.out hne, ?_, fun r e => ?_, ?_, ?_⟩
                · rw [List.map_append]
                  exact hk2
                · have hr : r = gg := (Option.some.inj e).symm
                  subst hr
                  rcases HAT.out with h | h
                  · exact HNB1.out r h
                  · (try simp at h); omega
                · rw [HIT1.out, HDI1.out, itemsE, if_neg (fun h => HA6.out (HLN.out.trans h)), ← HV1.out, if_neg (show ¬ (0 : Int) ≠ 0 by decide), HAS.out, if_neg (show ¬ false = true by decide)]
                · have := HA6.out
                  omega
              case measure => simp [intOf]; omega
          · obtain rfl : j = x.il := by omega
            have h8 := cellOf (hkb.at 0 (by simp)) 8
            have h9 := cellOf (hkb.at 0 (by simp)) 9
            (try dsimp only [List.getElem_cons_zero] at h8)
            (try dsimp only [List.getElem_cons_zero] at h9)
            have HIT2 := hid (show itemsE acc ds.items = (0, acc1) by rw [HIT1.out, show x.il = ds.items.length from HLI.out, List.drop_length, itemsE])
            clear hlt hkb
            go_wp2
            clear h8 h9
            go_loopw [4, 11] (fun nvv i wr => ∃ (q nv1 : Nat), nvv = .int .i64 nv1 ∧ q ≤ x.vl ∧ i = .int .i64 q ∧ KeepB (w.heap.size + 1) wb [(wp.heap.size, (.cells #[.int .i64 x.k.k, .int .i64 x.k.i, .int .i64 x.k.s, .string x.k.t, .slice x.k.la x.k.ll x.k.lc, .slice x.k.fa x.k.fl x.k.fc, .int .i64 x.n, .int .i64 x.t, .slice x.ia x.il x.ic, .slice x.va x.vl x.vc] 58))] wr ∧ Kept stK 24 (w.heap.size + 1) wr (.slice va ln vcap) ln (acc1.map (·.st)) ∧ valsE nv ds.vals = valsE nv1 (ds.vals.drop q) ∧ nv1 ≤ 4096) (fun _ i _ => x.vl - (intOf i).toNat)
            case atStart => exact ⟨0, nv, rfl, Nat.zero_le _, rfl, HKB1.out, HRB1.out, by rw [List.drop_zero], hv4⟩
            case round =>
            obtain ⟨q, nv1, rfl, hq, rfl, hkb, hrb, hvt, hv1⟩ := hrel
            obtain ⟨ws, rfl⟩ : ∃ w1 : World, w1 = wr := ⟨_, rfl⟩
            clear HKB1 HRB1
            have HVT := hid hvt
            have HKBS := hid hkb
            have HRBS := hid hrb
            clear hvt hrb
            by_cases hlt : q < x.vl
            · have hql : q < ds.vals.length := by have := HLV.out; omega
              obtain ⟨bi, oi, hia, hbi, hx⟩ := HDV.out.slot (show 0 < x.vl by omega)
              obtain ⟨y, hya, hyi⟩ := hx q hql
              have hw := HB0.out.trans (hkb.b.mono (by omega))
              have h9 := cellOf (hkb.at 0 (by simp)) 9
              (try dsimp only [List.getElem_cons_zero] at h9)
              replace h9 : ws.cell? ⟨wp.heap.size, 4 + 5, none⟩ = some (.slice (some ⟨bi, oi, none⟩) x.vl x.vc) := h9.trans (by rw [hia]; rfl)
              obtain ⟨y0, y1, y2, y3, y4, y5⟩ := (hya.same (hw.block bi hbi)).val
              obtain ⟨dv, hdv⟩ : ∃ dv, dv = ds.vals[q] := ⟨_, rfl⟩
              have HDV1 := hid (show ds.vals.drop q = dv :: ds.vals.drop (q + 1) by rw [hdv]; exact List.drop_eq_getElem_cons hql)
              rw [← hdv] at hyi
              obtain ⟨v1, hv⟩ : ∃ v1, v1 = chkVal dv := ⟨_, rfl⟩
              have HMC : Hid (Calls Tryz.prog 75 #[.agg #[.int .i64 y.k, .int .i64 y.i, .int .i64 y.s, .string y.t, .slice y.la y.ll y.lc, .slice y.fa y.fl y.fc]] ws fun e w' => e = .returned (.int .i64 v1) ∧ Below ws.heap.size ws w') := hid (by rw [hv]; exact check_call y _ _ (hyi.same fun b q => ⟨by have := hkb.n; omega, hw.block b q⟩) (HT.out.below hw))
              have HV1 := hid hv
              have hlt' : (q : Int) < (x.vl : Int) := by omega
              have hq0 : (0 : Int) ≤ (q : Int) := by omega
              clear hx hya hyi hia hbi hdv hv hkb
              by_cases ha : nv1 = 4096
              · have ha1 : (4096 : Int) ≤ (nv1 : Int) := by omega
                have ha2 : 4096 ≤ nv1 := by omega
                have r := hid (show checkE d = 9 by rw [R0.out, HREST.out, HIT2.out, if_neg (fun h => h rfl), HVT.out, HDV1.out, valsE, if_pos ha, if_pos (show (9 : Int) ≠ 0 by decide)])
                clear ha
                go_wp2
                go_ret
                exact ⟨retI r.out.symm, hw⟩
              have ha1 : ¬ (4096 : Int) ≤ (nv1 : Int) := by omega
              have ha2 : ¬ 4096 ≤ nv1 := by omega
              have ha3 : (nv1 : Int) < 4096 := by omega
              have HA6 := hid ha
              clear ha
              by_cases hv0 : v1 = 0
              case neg =>
                have r := hid (show checkE d = v1 by rw [R0.out, HREST.out, HIT2.out, if_neg (fun h => h rfl), HVT.out, HDV1.out, valsE, if_neg HA6.out, ← HV1.out, if_pos hv0, if_pos hv0])
                go_wp2_with (go_at_call 75; refine HMC.out.mono ?_; rintro e w6 ⟨rfl, hb6⟩)
                go_ret
                exact ⟨retI r.out.symm, HB0.out.trans ((HKBS.out.ext hb6).b.mono (by omega))⟩
              case pos =>
              subst hv0
              go_wp2_with (go_at_call 75; refine HMC.out.mono ?_; rintro e w6 ⟨rfl, hb6⟩)
              go_roundw
              case rel => exact ⟨q + 1, nv1 + 1, by go_num, by omega, by go_num, HKBS.out.ext hb6, HRBS.out.ext HKBS.out.n hb6, by rw [HVT.out, HDV1.out, valsE, if_neg HA6.out, ← HV1.out, if_neg (show ¬ (0 : Int) ≠ 0 by decide)], by have := HA6.out; omega⟩
              case measure => simp [intOf]; omega
            · obtain rfl : q = x.vl := by omega
              have h9 := cellOf (hkb.at 0 (by simp)) 9
              (try dsimp only [List.getElem_cons_zero] at h9)
              have HVE := hid (show valsE nv ds.vals = (0, nv1) by rw [HVT.out, show x.vl = ds.vals.length from HLV.out, List.drop_length, valsE])
              clear hlt hkb
              go_wp2
              go_roundw
              case rel => exact ⟨k + 1, nv1, ln, acc1, _, rfl, HLN.out, by omega, by go_num, rfl, HKBS.out.sub (by simp), HRBS.out, by rw [HREST.out, HIT2.out, if_neg (fun h => h rfl), HVE.out, if_neg (fun h => h rfl), HPN.out], hm1, hv1⟩
              case measure => simp [intOf]; omega
      · obtain ⟨k1, hk1⟩ : ∃ k1, k = k1 + 1 := ⟨k - 1, by omega⟩
        have hwr : IntKind.i64.wrap ((k : Int) - 1) = (k : Int) - 1 := IntWalk.i64_in _ (by omega)
        have hk1' : (0 : Int) ≤ (k : Int) - 1 := by omega
        have hk1'' : (1 : Int) ≤ (k : Int) := by omega
        have hk1N : 1 ≤ k := by omega
        have hk2' : (k : Int) - 1 < (sl : Int) := by omega
        have hkt : k - 1 = k1 := by omega
        have hkf : decide ((0 : Int) < (k : Int)) = true := by simp; omega
        have hkf2 : decide (0 < k) = true := by simp; omega
        have hk1l : k1 < d.l.length := by omega
        obtain ⟨y, hya, hyi⟩ := HX.out k1 hk1l
        obtain ⟨cc, hcc⟩ : ∃ cc, cc = cmpV d.l[k1].k ds.k := ⟨_, rfl⟩
        have HPK : prevK d.l k = some d.l[k1].k := by rw [show prevK d.l k = prevK d.l (k1 + 1) by rw [hk1]]; exact prevK_succ d.l k1 hk1l
        have HCC := hid (show cc = - cmpP (prevK d.l k) ds.k by rw [hcc, HPK]; exact cmpV_anti _ _)
        clear HPK
        have HY : Hid (∀ w', Below (wp.alloc (.cells #[.int .i64 x.k.k, .int .i64 x.k.i, .int .i64 x.k.s, .string x.k.t, .slice x.k.la x.k.ll x.k.lc, .slice x.k.fa x.k.fl x.k.fc, .int .i64 x.n, .int .i64 x.t, .slice x.ia x.il x.ic, .slice x.va x.vl x.vc] 58)).heap.size (wp.alloc (.cells #[.int .i64 x.k.k, .int .i64 x.k.i, .int .i64 x.k.s, .string x.k.t, .slice x.k.la x.k.ll x.k.lc, .slice x.k.fa x.k.fl x.k.fc, .int .i64 x.n, .int .i64 x.t, .slice x.ia x.il x.ic, .slice x.va x.vl x.vc] 58)) w' → w'.cell? ⟨b, o + (k - 1) * 10, none⟩ = some (.int .i64 y.k.k) ∧ w'.cell? ⟨b, o + (k - 1) * 10 + 1, none⟩ = some (.int .i64 y.k.i) ∧ w'.cell? ⟨b, o + (k - 1) * 10 + 2, none⟩ = some (.int .i64 y.k.s) ∧ w'.cell? ⟨b, o + (k - 1) * 10 + 3, none⟩ = some (.string y.k.t) ∧ w'.cell? ⟨b, o + (k - 1) * 10 + 4, none⟩ = some (.slice y.k.la y.k.ll y.k.lc) ∧ w'.cell? ⟨b, o + (k - 1) * 10 + 5, none⟩ = some (.slice y.k.fa y.k.fl y.k.fc)) := hid fun w' h => by
          have hw := HB0.out.trans ((HBWP.out.trans (HBA.out.trans (h.mono HSA.out))).mono (by omega))
          rw [hkt]
          obtain ⟨y0, y1, y2, y3, y4, y5, _⟩ := (hya.same (hw.block b HB.out)).slot
          exact ⟨y0, y1, y2, y3, y4, y5⟩
        have HCMP : Hid (∀ w', Below (wp.alloc (.cells #[.int .i64 x.k.k, .int .i64 x.k.i, .int .i64 x.k.s, .string x.k.t, .slice x.k.la x.k.ll x.k.lc, .slice x.k.fa x.k.fl x.k.fc, .int .i64 x.n, .int .i64 x.t, .slice x.ia x.il x.ic, .slice x.va x.vl x.vc] 58)).heap.size (wp.alloc (.cells #[.int .i64 x.k.k, .int .i64 x.k.i, .int .i64 x.k.s, .string x.k.t, .slice x.k.la x.k.ll x.k.lc, .slice x.k.fa x.k.fl x.k.fc, .int .i64 x.n, .int .i64 x.t, .slice x.ia x.il x.ic, .slice x.va x.vl x.vc] 58)) w' → Calls Tryz.prog 77 #[.agg #[.int .i64 y.k.k, .int .i64 y.k.i, .int .i64 y.k.s, .string y.k.t, .slice y.k.la y.k.ll y.k.lc, .slice y.k.fa y.k.fl y.k.fc], .agg #[.int .i64 x.k.k, .int .i64 x.k.i, .int .i64 x.k.s, .string x.k.t, .slice x.k.la x.k.ll x.k.lc, .slice x.k.fa x.k.fl x.k.fc]] w' fun e w2 => e = .returned (.int .i64 cc) ∧ Below w'.heap.size w' w2) := hid fun w' h => by
          have hw := HB0.out.trans ((HBWP.out.trans (HBA.out.trans (h.mono HSA.out))).mono (by omega))
          have hs := hw.size
          rw [hcc]
          exact compare_call y.k x.k _ _ w' (hyi.k.same fun b q => ⟨by omega, hw.block b q⟩) (HXI.out.k.same fun b q => ⟨by omega, hw.block b q⟩)
        clear hya hyi hcc hk1 hkz hkt hk1l
        go_upto_region 16 with (first
                      | (go_at_call 75; refine (HVC.out _ hb2).mono ?_; rintro e w3 ⟨rfl, hb3'⟩; have hb3 := hb2.trans (hb3'.mono hb2.size); clear q0 q1 q2 m0 m1 m2 m3 m4 m5 m6 m7 m8 m9; obtain ⟨⟨q0, q1, q2⟩, m0, m1, m2, m3, m4, m5, m6, m7, m8, m9⟩ := HC.out _ (hb3))
                      | (go_at_call 76; refine HIS.out.mono ?_; rintro e w2 ⟨rfl, hb2⟩; clear q0 q1 q2 m0 m1 m2 m3 m4 m5 m6 m7 m8 m9; obtain ⟨⟨q0, q1, q2⟩, m0, m1, m2, m3, m4, m5, m6, m7, m8, m9⟩ := HC.out _ (hb2)))
        have HC4 : Hid (∀ w', Below w3.heap.size w3 w' → (w'.cell? ⟨w.heap.size, 2, none⟩ = some (.slice (some ⟨b, o, none⟩) sl sc)) ∧ (w'.cell? ⟨wp.heap.size, 0, none⟩ = some (.int .i64 x.k.k) ∧ w'.cell? ⟨wp.heap.size, 1, none⟩ = some (.int .i64 x.k.i) ∧ w'.cell? ⟨wp.heap.size, 2, none⟩ = some (.int .i64 x.k.s) ∧ w'.cell? ⟨wp.heap.size, 3, none⟩ = some (.string x.k.t) ∧ w'.cell? ⟨wp.heap.size, 4, none⟩ = some (.slice x.k.la x.k.ll x.k.lc) ∧ w'.cell? ⟨wp.heap.size, 5, none⟩ = some (.slice x.k.fa x.k.fl x.k.fc) ∧ w'.cell? ⟨wp.heap.size, 6, none⟩ = some (.int .i64 x.n) ∧ w'.cell? ⟨wp.heap.size, 7, none⟩ = some (.int .i64 x.t) ∧ w'.cell? ⟨wp.heap.size, 8, none⟩ = some (.slice x.ia x.il x.ic) ∧ w'.cell? ⟨wp.heap.size, 9, none⟩ = some (.slice x.va x.vl x.vc)) ∧ (w'.cell? ⟨b, o + (k - 1) * 10, none⟩ = some (.int .i64 y.k.k) ∧ w'.cell? ⟨b, o + (k - 1) * 10 + 1, none⟩ = some (.int .i64 y.k.i) ∧ w'.cell? ⟨b, o + (k - 1) * 10 + 2, none⟩ = some (.int .i64 y.k.s) ∧ w'.cell? ⟨b, o + (k - 1) * 10 + 3, none⟩ = some (.string y.k.t) ∧ w'.cell? ⟨b, o + (k - 1) * 10 + 4, none⟩ = some (.slice y.k.la y.k.ll y.k.lc) ∧ w'.cell? ⟨b, o + (k - 1) * 10 + 5, none⟩ = some (.slice y.k.fa y.k.fl y.k.fc))) := hid fun w' h => by
          have h1 := HC.out w' (hb3.trans (h.mono hb3.size))
          obtain ⟨⟨q0, q1, q2⟩, m0, m1, m2, m3, m4, m5, m6, m7, m8, m9⟩ := h1
          have h2 := HY.out w' (hb3.trans (h.mono hb3.size))
          exact ⟨q2, ⟨m0, m1, m2, m3, m4, m5, m6, m7, m8, m9⟩, h2⟩
        have HCP : Hid (∀ w', Below w3.heap.size w3 w' → Calls Tryz.prog 77 #[.agg #[.int .i64 y.k.k, .int .i64 y.k.i, .int .i64 y.k.s, .string y.k.t, .slice y.k.la y.k.ll y.k.lc, .slice y.k.fa y.k.fl y.k.fc], .agg #[.int .i64 x.k.k, .int .i64 x.k.i, .int .i64 x.k.s, .string x.k.t, .slice x.k.la x.k.ll x.k.lc, .slice x.k.fa x.k.fl x.k.fc]] w' fun e w2 => e = .returned (.int .i64 cc) ∧ Below w'.heap.size w' w2) := hid fun w' h => HCMP.out w' (hb3.trans (h.mono hb3.size))
        clear q0 q1 q2 m0 m1 m2 m3 m4 m5 m6 m7 m8 m9
        refine wp_region_held_drew (S := (fun w' => Below w3.heap.size w3 w')) (by kernel_rfl) ((Below.refl _ _).drew) (fun hS => ?_)
        refine wpAnyH_take (i := 0) (oi := _) (v := ?_) rfl (by kernel_rfl) (by kernel_rfl) (by kernel_rfl) (fun _ _ _ h => h) (Or.inl ⟨by rfl, ?_⟩) hS ?_
        rotate_left
        · intro w' hw'
          have hcells := HC4.out w' hw'
          go_simp
          (try with_reducible rfl)
        simp only [Act.put, List.getElem_toArray, List.getElem_cons_succ, List.getElem_cons_zero, List.setIfInBounds_toArray, List.set_cons_zero, List.set_cons_succ]
        refine wpAnyH_take (i := 1) (oi := _) (v := ?_) rfl (by kernel_rfl) (by kernel_rfl) (by kernel_rfl) (fun _ _ _ h => h) (Or.inl ⟨by rfl, ?_⟩) hS ?_
        rotate_left
        · intro w' hw'
          have hcells := HC4.out w' hw'
          go_simp
          (try with_reducible rfl)
        simp only [Act.put, List.getElem_toArray, List.getElem_cons_succ, List.getElem_cons_zero, List.setIfInBounds_toArray, List.set_cons_zero, List.set_cons_succ]
        refine wpAnyH_take (i := 2) (oi := _) (v := ?_) rfl (by kernel_rfl) (by kernel_rfl) (by kernel_rfl) (fun _ _ _ h => h) (Or.inl ⟨by rfl, ?_⟩) hS ?_
        rotate_left
        · intro w' hw'
          have hcells := HC4.out w' hw'
          go_simp
          (try with_reducible rfl)
        simp only [Act.put, List.getElem_toArray, List.getElem_cons_succ, List.getElem_cons_zero, List.setIfInBounds_toArray, List.set_cons_zero, List.set_cons_succ]
        refine wpAnyH_take (i := 3) (oi := _) (v := ?_) rfl (by kernel_rfl) (by kernel_rfl) (by kernel_rfl) (fun _ _ _ h => h) (Or.inl ⟨by rfl, ?_⟩) hS ?_
        rotate_left
        · intro w' hw'
          have hcells := HC4.out w' hw'
          go_simp
          (try with_reducible rfl)
        simp only [Act.put, List.getElem_toArray, List.getElem_cons_succ, List.getElem_cons_zero, List.setIfInBounds_toArray, List.set_cons_zero, List.set_cons_succ]
        refine wpAnyH_take (i := 4) (oi := _) (v := ?_) rfl (by kernel_rfl) (by kernel_rfl) (by kernel_rfl) (fun _ _ _ h => h) (Or.inl ⟨by rfl, ?_⟩) hS ?_
        rotate_left
        · intro w' hw'
          have hcells := HC4.out w' hw'
          go_simp
          (try with_reducible rfl)
        simp only [Act.put, List.getElem_toArray, List.getElem_cons_succ, List.getElem_cons_zero, List.setIfInBounds_toArray, List.set_cons_zero, List.set_cons_succ]
        refine wpAnyH_take (i := 5) (oi := _) (v := ?_) rfl (by kernel_rfl) (by kernel_rfl) (by kernel_rfl) (fun _ _ _ h => h) (Or.inl ⟨by rfl, ?_⟩) hS ?_
        rotate_left
        · intro w' hw'
          have hcells := HC4.out w' hw'
          go_simp
          (try with_reducible rfl)
        simp only [Act.put, List.getElem_toArray, List.getElem_cons_succ, List.getElem_cons_zero, List.setIfInBounds_toArray, List.set_cons_zero, List.set_cons_succ]
        refine wpAnyH_take (i := 6) (oi := _) (v := ?_) rfl (by kernel_rfl) (by kernel_rfl) (by kernel_rfl) (fun _ _ _ h => h) (Or.inl ⟨by rfl, ?_⟩) hS ?_
        rotate_left
        · intro w' hw'
          have hcells := HC4.out w' hw'
          go_simp
          (try with_reducible rfl)
        simp only [Act.put, List.getElem_toArray, List.getElem_cons_succ, List.getElem_cons_zero, List.setIfInBounds_toArray, List.set_cons_zero, List.set_cons_succ]
        refine wpAnyH_take (i := 7) (oi := _) (v := ?_) rfl (by kernel_rfl) (by kernel_rfl) (by kernel_rfl) (fun _ _ _ h => h) (Or.inl ⟨by rfl, ?_⟩) hS ?_
        rotate_left
        · intro w' hw'
          have hcells := HC4.out w' hw'
          go_simp
          (try with_reducible rfl)
        simp only [Act.put, List.getElem_toArray, List.getElem_cons_succ, List.getElem_cons_zero, List.setIfInBounds_toArray, List.set_cons_zero, List.set_cons_succ]
        refine wpAnyH_take (i := 8) (oi := _) (v := ?_) rfl (by kernel_rfl) (by kernel_rfl) (by kernel_rfl) (fun _ _ _ h => h) (Or.inl ⟨by rfl, ?_⟩) hS ?_
        rotate_left
        · intro w' hw'
          have hcells := HC4.out w' hw'
          go_simp
          (try with_reducible rfl)
        simp only [Act.put, List.getElem_toArray, List.getElem_cons_succ, List.getElem_cons_zero, List.setIfInBounds_toArray, List.set_cons_zero, List.set_cons_succ]
        refine wpAnyH_ready (rs := [9]) (by kernel_rfl) (by simp) ?_
        refine AllReadyH.cons (o := _) rfl (fun K hK => ?_) AllReadyH.nil
        go_simp; go_at_call 77; refine (HCP.out _ hS).mono ?_
        rintro e w4 ⟨rfl, hb4'⟩
        refine hK.out _ _ (hS.trans (hb4'.mono hS.size)) (fun hS => ?_)
        clear hK K
        (try simp only [Act.put, List.getElem_toArray, List.getElem_cons_succ, List.getElem_cons_zero, List.setIfInBounds_toArray, List.set_cons_zero, List.set_cons_succ])
        refine wpAnyH_done (by kernel_rfl) ?_ _
        (try dsimp only)
        have hb4 := hb3.trans (hS.mono hb3.size)
        have hc4 := HC.out _ hb4
        clear hS HC4 HCP hb4' hb3 hb2 hb3'
        obtain ⟨⟨q0, q1, q2⟩, m0, m1, m2, m3, m4, m5, m6, m7, m8, m9⟩ := hc4
        by_cases c0 : cc = 0
        · have c0' : (cc == 0) = true := by simp [c0]
          have r := hid (show checkE d = 7 by rw [R0.out, HIT.out, HDR.out, slotsE, if_neg HKEY.out, if_pos (by have := HCC.out; omega)])
          go_wp2
          go_ret
          exact ⟨retI r.out.symm, HB0.out.trans ((HBWP.out.trans (HBA.out.trans (hb4.mono HSA.out))).mono (by omega))⟩
        by_cases c1 : cc = 1
        · have c1' : (cc == 1) = true := by simp [c1]
          have c0' : (cc == 0) = false := by simp [c0]
          have r := hid (show checkE d = 24 by rw [R0.out, HIT.out, HDR.out, slotsE, if_neg HKEY.out, if_neg (by have := HCC.out; omega), if_pos (by have := HCC.out; omega)])
          go_wp2
          go_ret
          exact ⟨retI r.out.symm, HB0.out.trans ((HBWP.out.trans (HBA.out.trans (hb4.mono HSA.out))).mono (by omega))⟩
        have c0' : (cc == 0) = false := by simp [c0]
        have c1' : (cc == 1) = false := by simp [c1]
        have HNEXT := hid (show slotsE none [] 0 d.l = if (slotE acc nv ds).1 ≠ 0 then (slotE acc nv ds).1 else slotsE (some ds.k) (slotE acc nv ds).2.1 (slotE acc nv ds).2.2 (d.l.drop (k + 1)) by rw [HIT.out, HDR.out, slotsE, if_neg HKEY.out, if_neg (by have := HCC.out; omega), if_neg (by have := HCC.out; omega)])
        cases pn with
        | false =>
          have r := hid (show checkE d = 2 by rw [R0.out, HNEXT.out, if_pos (by rw [slotE_bad (of_decide_eq_false HPN0.out.symm)]; decide), slotE_bad (of_decide_eq_false HPN0.out.symm)])
          go_wp2_with (go_at_call 79; refine (HIN.out _).mono ?_; rintro e w5 ⟨rfl, rfl⟩)
          go_ret
          exact ⟨retI r.out.symm, HB0.out.trans ((HBWP.out.trans (HBA.out.trans (hb4.mono HSA.out))).mono (by omega))⟩
        | true =>
          have HREST := hid (HNEXT.out.trans (restE (of_decide_eq_true HPN0.out.symm) _))
          go_wp2_with (go_at_call 79; refine (HIN.out _).mono ?_; rintro e w5 ⟨rfl, rfl⟩)
          have hup := HBWP.out.trans (HBA.out.trans (hb4.mono HSA.out))
          have HKB0 : Hid (KeepB (w.heap.size + 1) wb [(wp.heap.size, (.cells #[.int .i64 x.k.k, .int .i64 x.k.i, .int .i64 x.k.s, .string x.k.t, .slice x.k.la x.k.ll x.k.lc, .slice x.k.fa x.k.fl x.k.fc, .int .i64 x.n, .int .i64 x.t, .slice x.ia x.il x.ic, .slice x.va x.vl x.vc] 58))] w4) := hid ⟨hup, by have h1 := hup.size; have h2 := HSB.out; omega, fun p hp => by
            simp only [List.mem_cons, List.not_mem_nil, or_false] at hp
            rw [hp]
            exact heapExt hb4 (heap_alloc_new wp (.cells #[.int .i64 x.k.k, .int .i64 x.k.i, .int .i64 x.k.s, .string x.k.t, .slice x.k.la x.k.ll x.k.lc, .slice x.k.fa x.k.fl x.k.fc, .int .i64 x.n, .int .i64 x.t, .slice x.ia x.il x.ic, .slice x.va x.vl x.vc] 58))⟩
          have HRB0 := hid (HRB.out.ext (by omega) (((Below.refl _ wp).alloc (Nat.le_refl _) (.cells #[.int .i64 x.k.k, .int .i64 x.k.i, .int .i64 x.k.s, .string x.k.t, .slice x.k.la x.k.ll x.k.lc, .slice x.k.fa x.k.fl x.k.fc, .int .i64 x.n, .int .i64 x.t, .slice x.ia x.il x.ic, .slice x.va x.vl x.vc] 58)).trans (hb4.mono (by simp))))
          clear hup hb4 q0 q1 q2 m0 m1 m2 m3 m4 m5 m6 m7 m8 m9 HNEXT
          go_loopw [3, 8] (fun s i wr => ∃ (j ln : Nat) (acc1 : List Msg) (s1 : Value), s1 = s ∧ ln = acc1.length ∧ j ≤ x.il ∧ i = .int .i64 j ∧ KeepB (w.heap.size + 1) wb [(wp.heap.size, (.cells #[.int .i64 x.k.k, .int .i64 x.k.i, .int .i64 x.k.s, .string x.k.t, .slice x.k.la x.k.ll x.k.lc, .slice x.k.fa x.k.fl x.k.fc, .int .i64 x.n, .int .i64 x.t, .slice x.ia x.il x.ic, .slice x.va x.vl x.vc] 58))] wr ∧ Kept stK 24 (w.heap.size + 1) wr s1 ln (acc1.map (·.st)) ∧ (∀ r, s1.ownBlock = some r → r ≠ wp.heap.size) ∧ itemsE acc ds.items = itemsE acc1 (ds.items.drop j) ∧ ln ≤ 256) (fun _ i _ => x.il - (intOf i).toNat)
          case atStart => exact ⟨0, la, acc, _, rfl, HLA.out, Nat.zero_le _, rfl, HKB0.out, HRB0.out, HNB.out, by rw [List.drop_zero], hm4⟩
          case round =>
          obtain ⟨j, ln, acc1, s1, rfl, hln, hj, rfl, hkb, hrb, hnb, hit1, hm1⟩ := hrel
          have HLN := hid hln
          clear hln
          obtain ⟨wq, rfl⟩ : ∃ w1 : World, w1 = wr := ⟨_, rfl⟩
          obtain ⟨va, vcap, rfl, hvc⟩ := hrb.shape
          clear HKB0 HRB0
          have HIT1 := hid hit1
          have HNB1 := hid hnb
          have HKB1 := hid hkb
          have HRB1 := hid hrb
          have hrb' := fun r e => (Kept.own (K := stK) HRB1.out r e)
          have HRO1 := hid hrb'
          clear hit1 hnb hrb hrb'
          by_cases hlt : j < x.il
          · have hjl : j < ds.items.length := by have := HLI.out; omega
            obtain ⟨bi, oi, hia, hbi, hx⟩ := HDI.out.slot (show 0 < x.il by omega)
            obtain ⟨y, hya, hyi⟩ := hx j hjl
            obtain ⟨dm, hdm⟩ : ∃ dm, dm = ds.items[j] := ⟨_, rfl⟩
            have HDI1 := hid (show ds.items.drop j = dm :: ds.items.drop (j + 1) by rw [hdm]; exact List.drop_eq_getElem_cons hjl)
            rw [← hdm] at hyi
            have HYI := hid (show IsMsg (· < w.heap.size) w y dm from hyi)
            have hw := HB0.out.trans (hkb.b.mono (by omega))
            have HCY : Hid (∀ w', KeepB (w.heap.size + 1) wb [(wp.heap.size, (.cells #[.int .i64 x.k.k, .int .i64 x.k.i, .int .i64 x.k.s, .string x.k.t, .slice x.k.la x.k.ll x.k.lc, .slice x.k.fa x.k.fl x.k.fc, .int .i64 x.n, .int .i64 x.t, .slice x.ia x.il x.ic, .slice x.va x.vl x.vc] 58))] w' → (w'.cell? ⟨wp.heap.size, 3 + 5, none⟩ = some (.slice (some ⟨bi, oi, none⟩) x.il x.ic)) ∧ (w'.cell? ⟨bi, oi + j * 10, none⟩ = some (.int .i64 y.st.e) ∧ w'.cell? ⟨bi, oi + j * 10 + 1, none⟩ = some (.slice y.st.a y.st.n y.st.c) ∧ w'.cell? ⟨bi, oi + j * 10 + 2, none⟩ = some (.int .i64 y.m) ∧ w'.cell? ⟨bi, oi + j * 10 + 3, none⟩ = some (.slice y.a y.n y.c) ∧ w'.cell? ⟨bi, oi + j * 10 + 4, none⟩ = some (.int .i64 y.b.k) ∧ w'.cell? ⟨bi, oi + j * 10 + 5, none⟩ = some (.int .i64 y.b.i) ∧ w'.cell? ⟨bi, oi + j * 10 + 6, none⟩ = some (.int .i64 y.b.s) ∧ w'.cell? ⟨bi, oi + j * 10 + 7, none⟩ = some (.string y.b.t) ∧ w'.cell? ⟨bi, oi + j * 10 + 8, none⟩ = some (.slice y.b.la y.b.ll y.b.lc) ∧ w'.cell? ⟨bi, oi + j * 10 + 9, none⟩ = some (.slice y.b.fa y.b.fl y.b.fc))) := hid fun w' h => by
              have h8 := cellOf (h.at 0 (by simp)) 8
              (try dsimp only [List.getElem_cons_zero] at h8)
              have hw' := HB0.out.trans (h.b.mono (by omega))
              obtain ⟨y0, y1, y2, y3, y4, y5, y6, y7, y8, y9⟩ := (hya.same (hw'.block bi hbi)).m
              exact ⟨h8.trans (by rw [hia]; rfl), y0, y1, y2, y3, y4, y5, y6, y7, y8, y9⟩
            obtain ⟨v1, hv⟩ : ∃ v1, v1 = msgE dm := ⟨_, rfl⟩
            have HMC : Hid (Calls Tryz.prog 80 #[.agg #[.int .i64 y.st.e, .slice y.st.a y.st.n y.st.c, .int .i64 y.m, .slice y.a y.n y.c, .int .i64 y.b.k, .int .i64 y.b.i, .int .i64 y.b.s, .string y.b.t, .slice y.b.la y.b.ll y.b.lc, .slice y.b.fa y.b.fl y.b.fc]] wq fun e w' => e = .returned (.int .i64 v1) ∧ Below wq.heap.size wq w') := hid (by rw [hv]; exact msgCheck_call y _ _ (hyi.same fun b q => ⟨by have := hkb.n; omega, hw.block b q⟩) (HT.out.below hw))
            have HV1 := hid hv
            have hlt' : (j : Int) < (x.il : Int) := by omega
            have hj0 : (0 : Int) ≤ (j : Int) := by omega
            clear hx hya hyi hia hbi hdm hv
            obtain ⟨q8, y0, y1, y2, y3, y4, y5, y6, y7, y8, y9⟩ := HCY.out _ hkb
            clear hkb
            by_cases ha : ln = 256
            · have ha1 : (256 : Int) ≤ (ln : Int) := by omega
              have ha2 : 256 ≤ ln := by omega
              have r := hid (show checkE d = 9 by rw [R0.out, HREST.out, HIT1.out, HDI1.out, itemsE, if_pos (HLN.out.symm.trans ha), if_pos (show (9 : Int) ≠ 0 by decide)])
              clear ha
              go_wp2
              go_ret
              exact ⟨retI r.out.symm, hw⟩
            have ha1 : ¬ (256 : Int) ≤ (ln : Int) := by omega
            have ha2 : ¬ 256 ≤ ln := by omega
            have ha3 : ln < 256 := by omega
            have HA6 := hid ha
            clear ha
            by_cases hv0 : v1 = 0
            case neg =>
              have r := hid (show checkE d = v1 by rw [R0.out, HREST.out, HIT1.out, HDI1.out, itemsE, if_neg (fun h => HA6.out (HLN.out.trans h)), ← HV1.out, if_pos hv0, if_pos hv0])
              go_wp2_with (go_at_call 80; refine HMC.out.mono ?_; rintro e w5 ⟨rfl, hb5⟩)
              go_ret
              exact ⟨retI r.out.symm, HB0.out.trans ((HKB1.out.ext hb5).b.mono (by omega))⟩
            case pos =>
            subst hv0
            go_wp2_with (go_at_call 80; refine HMC.out.mono ?_; rintro e w5 ⟨rfl, hb5⟩)
            have HKB2 := hid (HKB1.out.ext hb5)
            have HRB2 := hid (HRB1.out.ext HKB1.out.n hb5)
            clear q8 y0 y1 y2 y3 y4 y5 y6 y7 y8 y9 hb5 HMC
            go_loopw [10] (fun i wr => ∃ q : Nat, q ≤ ln ∧ i = .int .i64 q ∧ KeepB (w.heap.size + 1) wb [(wp.heap.size, (.cells #[.int .i64 x.k.k, .int .i64 x.k.i, .int .i64 x.k.s, .string x.k.t, .slice x.k.la x.k.ll x.k.lc, .slice x.k.fa x.k.fl x.k.fc, .int .i64 x.n, .int .i64 x.t, .slice x.ia x.il x.ic, .slice x.va x.vl x.vc] 58))] wr ∧ Kept stK 24 (w.heap.size + 1) wr (.slice va ln vcap) ln (acc1.map (·.st)) ∧ ∀ p (hp : p < acc1.length), p < q → stEqB acc1[p].st dm.st = false) (fun i _ => ln - (intOf i).toNat)
            case atStart => exact ⟨0, Nat.zero_le _, rfl, HKB2.out, HRB2.out, fun p _ h => absurd h (Nat.not_lt_zero p)⟩
            case round =>
            obtain ⟨q, hq, rfl, hkb, hrb, hall⟩ := hrel
            obtain ⟨ws, rfl⟩ : ∃ w1 : World, w1 = wr := ⟨_, rfl⟩
            clear HKB2 HRB2
            have HALL := hid hall
            have HKBS := hid hkb
            have HRBS := hid hrb
            by_cases hlt : q < ln
            · have hql : q < acc1.length := by have := HLN.out; omega
              have hrow := hrb.row hkb.n (by dsimp only; omega)
              obtain ⟨bs, os, rfl, hbs, hx⟩ := hrow.slot (show 0 < ln by omega)
              obtain ⟨z, hza, hzi⟩ := hx q (by rw [List.length_map]; exact hql)
              rw [List.getElem_map] at hzi
              obtain ⟨p, hp⟩ : ∃ p, p = stEqB acc1[q].st dm.st := ⟨_, rfl⟩
              have HSE : Hid (∀ w', Below ws.heap.size ws w' → Calls Tryz.prog 70 #[.agg #[.int .i64 z.e, .slice z.a z.n z.c], .agg #[.int .i64 y.st.e, .slice y.st.a y.st.n y.st.c]] w' fun e w2 => e = .returned (.bool p) ∧ Below w'.heap.size w' w2) := hid fun w' h => by
                have hk := HKBS.out.ext h
                have hs := h.size
                have hs2 := hk.n
                have hw := HB0.out.trans (hk.b.mono (by omega))
                rw [hp]
                exact stEqual_call z y.st _ _ w' (hzi.same fun b q => ⟨by omega, h.block b q⟩) (HYI.out.st.same fun b q => ⟨by omega, hw.block b q⟩)
              have HP1 := hid hp
              have HC5 : Hid (∀ w', Below ws.heap.size ws w' → (w'.cell? ⟨bs, os + q * 2, none⟩ = some (.int .i64 z.e) ∧ w'.cell? ⟨bs, os + q * 2 + 1, none⟩ = some (.slice z.a z.n z.c)) ∧ (w'.cell? ⟨wp.heap.size, 3 + 5, none⟩ = some (.slice (some ⟨bi, oi, none⟩) x.il x.ic)) ∧ (w'.cell? ⟨bi, oi + j * 10, none⟩ = some (.int .i64 y.st.e) ∧ w'.cell? ⟨bi, oi + j * 10 + 1, none⟩ = some (.slice y.st.a y.st.n y.st.c))) := hid fun w' h => by
                obtain ⟨z0, z1⟩ := (hza.same (h.block bs hbs)).two
                obtain ⟨h8, y0, y1, _⟩ := HCY.out w' (HKBS.out.ext h)
                exact ⟨⟨z0, z1⟩, h8, y0, y1⟩
              have hlt' : (q : Int) < (ln : Int) := by omega
              have hq0 : (0 : Int) ≤ (q : Int) := by omega
              clear hx hza hzi hbs hrow hkb hrb hall hp

              go_upto_region 34 with (fail)
              refine wp_region_held_drew (S := (fun w' => Below ws.heap.size ws w')) (by kernel_rfl) ((Below.refl _ _).drew) (fun hS => ?_)
              refine wpAnyH_take (i := 0) (oi := _) (v := ?_) rfl (by kernel_rfl) (by kernel_rfl) (by kernel_rfl) (fun _ _ _ h => h) (Or.inl ⟨by rfl, ?_⟩) hS ?_
              rotate_left
              · intro w' hw'
                have hcells := HC5.out w' hw'
                go_simp
                (try with_reducible rfl)
              simp only [Act.put, List.getElem_toArray, List.getElem_cons_succ, List.getElem_cons_zero, List.setIfInBounds_toArray, List.set_cons_zero, List.set_cons_succ]
              refine wpAnyH_take (i := 1) (oi := _) (v := ?_) rfl (by kernel_rfl) (by kernel_rfl) (by kernel_rfl) (fun _ _ _ h => h) (Or.inl ⟨by rfl, ?_⟩) hS ?_
              rotate_left
              · intro w' hw'
                have hcells := HC5.out w' hw'
                go_simp
                (try with_reducible rfl)
              simp only [Act.put, List.getElem_toArray, List.getElem_cons_succ, List.getElem_cons_zero, List.setIfInBounds_toArray, List.set_cons_zero, List.set_cons_succ]
              refine wpAnyH_take (i := 2) (oi := _) (v := ?_) rfl (by kernel_rfl) (by kernel_rfl) (by kernel_rfl) (fun _ _ _ h => h) (Or.inl ⟨by rfl, ?_⟩) hS ?_
              rotate_left
              · intro w' hw'
                have hcells := HC5.out w' hw'
                go_simp
                (try with_reducible rfl)
              simp only [Act.put, List.getElem_toArray, List.getElem_cons_succ, List.getElem_cons_zero, List.setIfInBounds_toArray, List.set_cons_zero, List.set_cons_succ]
              refine wpAnyH_take (i := 3) (oi := _) (v := ?_) rfl (by kernel_rfl) (by kernel_rfl) (by kernel_rfl) (fun _ _ _ h => h) (Or.inl ⟨by rfl, ?_⟩) hS ?_
              rotate_left
              · intro w' hw'
                have hcells := HC5.out w' hw'
                go_simp
                (try with_reducible rfl)
              simp only [Act.put, List.getElem_toArray, List.getElem_cons_succ, List.getElem_cons_zero, List.setIfInBounds_toArray, List.set_cons_zero, List.set_cons_succ]
              refine wpAnyH_take (i := 4) (oi := _) (v := ?_) rfl (by kernel_rfl) (by kernel_rfl) (by kernel_rfl) (fun _ _ _ h => h) (Or.inl ⟨by rfl, ?_⟩) hS ?_
              rotate_left
              · intro w' hw'
                have hcells := HC5.out w' hw'
                go_simp
                (try with_reducible rfl)
              simp only [Act.put, List.getElem_toArray, List.getElem_cons_succ, List.getElem_cons_zero, List.setIfInBounds_toArray, List.set_cons_zero, List.set_cons_succ]
              refine wpAnyH_take (i := 5) (oi := _) (v := ?_) rfl (by kernel_rfl) (by kernel_rfl) (by kernel_rfl) (fun _ _ _ h => h) (Or.inl ⟨by rfl, ?_⟩) hS ?_
              rotate_left
              · intro w' hw'
                have hcells := HC5.out w' hw'
                go_simp
                (try with_reducible rfl)
              simp only [Act.put, List.getElem_toArray, List.getElem_cons_succ, List.getElem_cons_zero, List.setIfInBounds_toArray, List.set_cons_zero, List.set_cons_succ]
              refine wpAnyH_take (i := 6) (oi := _) (v := ?_) rfl (by kernel_rfl) (by kernel_rfl) (by kernel_rfl) (fun _ _ _ h => h) (Or.inl ⟨by rfl, ?_⟩) hS ?_
              rotate_left
              · intro w' hw'
                have hcells := HC5.out w' hw'
                go_simp
                (try with_reducible rfl)
              simp only [Act.put, List.getElem_toArray, List.getElem_cons_succ, List.getElem_cons_zero, List.setIfInBounds_toArray, List.set_cons_zero, List.set_cons_succ]
              refine wpAnyH_take (i := 7) (oi := _) (v := ?_) rfl (by kernel_rfl) (by kernel_rfl) (by kernel_rfl) (fun _ _ _ h => h) (Or.inl ⟨by rfl, ?_⟩) hS ?_
              rotate_left
              · intro w' hw'
                have hcells := HC5.out w' hw'
                go_simp
                (try with_reducible rfl)
              simp only [Act.put, List.getElem_toArray, List.getElem_cons_succ, List.getElem_cons_zero, List.setIfInBounds_toArray, List.set_cons_zero, List.set_cons_succ]
              refine wpAnyH_take (i := 8) (oi := _) (v := ?_) rfl (by kernel_rfl) (by kernel_rfl) (by kernel_rfl) (fun _ _ _ h => h) (Or.inl ⟨by rfl, ?_⟩) hS ?_
              rotate_left
              · intro w' hw'
                have hcells := HC5.out w' hw'
                go_simp
                (try with_reducible rfl)
              simp only [Act.put, List.getElem_toArray, List.getElem_cons_succ, List.getElem_cons_zero, List.setIfInBounds_toArray, List.set_cons_zero, List.set_cons_succ]
              refine wpAnyH_take (i := 9) (oi := _) (v := ?_) rfl (by kernel_rfl) (by kernel_rfl) (by kernel_rfl) (fun _ _ _ h => h) (Or.inl ⟨by rfl, ?_⟩) hS ?_
              rotate_left
              · intro w' hw'
                have hcells := HC5.out w' hw'
                go_simp
                (try with_reducible rfl)
              simp only [Act.put, List.getElem_toArray, List.getElem_cons_succ, List.getElem_cons_zero, List.setIfInBounds_toArray, List.set_cons_zero, List.set_cons_succ]
              refine wpAnyH_ready (rs := [10]) (by kernel_rfl) (by simp) ?_
              refine AllReadyH.cons (o := _) rfl (fun K hK => ?_) AllReadyH.nil
              go_simp; go_at_call 70; refine (HSE.out _ hS).mono ?_
              rintro e w6 ⟨rfl, hb6⟩
              refine hK.out _ _ (hS.trans (hb6.mono hS.size)) (fun hS => ?_)
              clear hK K
              (try simp only [Act.put, List.getElem_toArray, List.getElem_cons_succ, List.getElem_cons_zero, List.setIfInBounds_toArray, List.set_cons_zero, List.set_cons_succ])
              refine wpAnyH_done (by kernel_rfl) ?_ _
              (try dsimp only)
              clear HC5 HSE
              have hk6 := HKBS.out.ext hS
              have hr6 := HRBS.out.ext HKBS.out.n hS
              clear hS hb6
              cases p with
              | true =>
                have r := hid (show checkE d = 7 by rw [R0.out, HREST.out, HIT1.out, HDI1.out, itemsE, if_neg (fun h => HA6.out (HLN.out.trans h)), ← HV1.out, if_neg (show ¬ (0 : Int) ≠ 0 by decide), if_pos (show hasSt acc1 dm.st = true by rw [hasSt, List.any_eq_true]; exact ⟨_, List.getElem_mem hql, HP1.out.symm⟩), if_pos (show (7 : Int) ≠ 0 by decide)])
                go_wp2
                go_ret
                exact ⟨retI r.out.symm, HB0.out.trans (hk6.b.mono (by omega))⟩
              | false =>
                go_wp2
                go_roundw
                case rel => exact ⟨q + 1, by omega, by go_num, hk6, hr6, fun p hp h => by
                  by_cases hpq : p < q
                  · exact HALL.out p hp hpq
                  · obtain rfl : p = q := by omega
                    exact HP1.out.symm⟩
                case measure => simp [intOf]; omega
            · obtain rfl : ln = q := by omega
              have HAS := hid (show hasSt acc1 dm.st = false by
                rw [Bool.eq_false_iff]
                intro h
                rw [hasSt, List.any_eq_true] at h
                obtain ⟨m, hm, he⟩ := h
                obtain ⟨p, hp, rfl⟩ := List.getElem_of_mem hm
                rw [HALL.out p hp (by have := HLN.out; omega)] at he
                cases he)
              obtain ⟨cs, hcs, hl0, hown, hel⟩ := hrb
              have HOWN := hid hown
              have HEL := hid hel
              have HCL := hid hcs
              have HRO := hid (fun r e => Kept.own (K := stK) HRBS.out r e)
              have hcap1 : ln + 1 ≤ maxLen := by unfold maxLen; omega
              have hcap2 : (ln + 1) * 32 ≤ 140737488355328 := by omega
              obtain ⟨q8, y0, y1, y2, y3, y4, y5, y6, y7, y8, y9⟩ := HCY.out _ hkb
              clear hown hel hcs hl0 hall HALL hkb hlt hq
              go_wp2_with (at_builtin; go_loud (refine wpList_append_lies _ (by rfl) _ _ 42 (by rfl) (w.heap.size + 1) 24 ti _ 2 32 Tryz.underlying42 hi hz0 hz1 hz2 rfl (by omega) (.slice va ln vcap) ln (cs.flatMap SC.cs) (by rfl) (HOWN.out.alloc (.cells #[.int .i64 y.st.e, .slice y.st.a y.st.n y.st.c] 24)) ⟨ws.heap.size, 0, none⟩ 1 1 (SC.cs y.st) (by rfl) (by rfl) (World.news_of_block (heap_alloc_new ws _)) (by simp [SC.cs, Value.oneCell']) (by omega) hcap1 hcap2 (by have h2 := HKBS.out.n; simp at h2 ⊢; omega) (ws.heap.size + 1) (by simp) ?_); intro gg cap5 w5 hown2 hgrow hat hlt2; have HO2 := hid hown2; have HG := hid hgrow; have HAT := hid hat; clear hown2 hgrow hat hlt2)
              go_roundw
              case rel =>
                have hsw : wp.heap.size < ws.heap.size := ltOf (HKBS.out.at 0 (by simp))
                have hne : ∀ r, ((.slice va ln vcap) : Value).ownBlock = some r → (w.heap.size + 1) ≤ r ∧ ∀ p ∈ ([(wp.heap.size, (.cells #[.int .i64 x.k.k, .int .i64 x.k.i, .int .i64 x.k.s, .string x.k.t, .slice x.k.la x.k.ll x.k.lc, .slice x.k.fa x.k.fl x.k.fc, .int .i64 x.n, .int .i64 x.t, .slice x.ia x.il x.ic, .slice x.va x.vl x.vc] 58))] : List (Nat × Obj)), p.1 ≠ r := fun r e => ⟨(HRO.out r e).1, fun p hp => by
                  have h1 := HNB1.out r e
                  simp only [List.mem_cons, List.not_mem_nil, or_false] at hp
                  rw [hp]
                  exact fun h => h1 h.symm⟩
                have hw := HB0.out.trans (HKBS.out.b.mono (by omega))
                have hk2 := Kept.push (K := stK) (w1 := ws) (c := y.st) (d := dm.st) (l := acc1.map (·.st)) HCL.out (by rw [List.length_map, HLN.out]) HEL.out HKBS.out.n (HYI.out.st.same fun b q => ⟨by omega, hw.block b q⟩) (fun r e => (hne r e).1) HO2.out HG.out
                refine ⟨j + 1, ln + 1, acc1 ++ [dm], _, rfl, by rw [List.length_append, HLN.out]; rfl, by omega, by go_num, (HKBS.out.ext ((Below.refl _ _).alloc (Nat.le_refl _) _)).grown HG.out hne, ?_, fun r e => ?_, ?_, ?_⟩
                · rw [List.map_append]
                  exact hk2
                · have hr : r = gg := (Option.some.inj e).symm
                  subst hr
                  rcases HAT.out with h | h
                  · exact HNB1.out r h
                  · (try simp at h); omega
                · rw [HIT1.out, HDI1.out, itemsE, if_neg (fun h => HA6.out (HLN.out.trans h)), ← HV1.out, if_neg (show ¬ (0 : Int) ≠ 0 by decide), HAS.out, if_neg (show ¬ false = true by decide)]
                · have := HA6.out
                  omega
              case measure => simp [intOf]; omega
          · obtain rfl : j = x.il := by omega
            have h8 := cellOf (hkb.at 0 (by simp)) 8
            have h9 := cellOf (hkb.at 0 (by simp)) 9
            (try dsimp only [List.getElem_cons_zero] at h8)
            (try dsimp only [List.getElem_cons_zero] at h9)
            have HIT2 := hid (show itemsE acc ds.items = (0, acc1) by rw [HIT1.out, show x.il = ds.items.length from HLI.out, List.drop_length, itemsE])
            clear hlt hkb
            go_wp2
            clear h8 h9
            go_loopw [4, 11] (fun nvv i wr => ∃ (q nv1 : Nat), nvv = .int .i64 nv1 ∧ q ≤ x.vl ∧ i = .int .i64 q ∧ KeepB (w.heap.size + 1) wb [(wp.heap.size, (.cells #[.int .i64 x.k.k, .int .i64 x.k.i, .int .i64 x.k.s, .string x.k.t, .slice x.k.la x.k.ll x.k.lc, .slice x.k.fa x.k.fl x.k.fc, .int .i64 x.n, .int .i64 x.t, .slice x.ia x.il x.ic, .slice x.va x.vl x.vc] 58))] wr ∧ Kept stK 24 (w.heap.size + 1) wr (.slice va ln vcap) ln (acc1.map (·.st)) ∧ valsE nv ds.vals = valsE nv1 (ds.vals.drop q) ∧ nv1 ≤ 4096) (fun _ i _ => x.vl - (intOf i).toNat)
            case atStart => exact ⟨0, nv, rfl, Nat.zero_le _, rfl, HKB1.out, HRB1.out, by rw [List.drop_zero], hv4⟩
            case round =>
            obtain ⟨q, nv1, rfl, hq, rfl, hkb, hrb, hvt, hv1⟩ := hrel
            obtain ⟨ws, rfl⟩ : ∃ w1 : World, w1 = wr := ⟨_, rfl⟩
            clear HKB1 HRB1
            have HVT := hid hvt
            have HKBS := hid hkb
            have HRBS := hid hrb
            clear hvt hrb
            by_cases hlt : q < x.vl
            · have hql : q < ds.vals.length := by have := HLV.out; omega
              obtain ⟨bi, oi, hia, hbi, hx⟩ := HDV.out.slot (show 0 < x.vl by omega)
              obtain ⟨y, hya, hyi⟩ := hx q hql
              have hw := HB0.out.trans (hkb.b.mono (by omega))
              have h9 := cellOf (hkb.at 0 (by simp)) 9
              (try dsimp only [List.getElem_cons_zero] at h9)
              replace h9 : ws.cell? ⟨wp.heap.size, 4 + 5, none⟩ = some (.slice (some ⟨bi, oi, none⟩) x.vl x.vc) := h9.trans (by rw [hia]; rfl)
              obtain ⟨y0, y1, y2, y3, y4, y5⟩ := (hya.same (hw.block bi hbi)).val
              obtain ⟨dv, hdv⟩ : ∃ dv, dv = ds.vals[q] := ⟨_, rfl⟩
              have HDV1 := hid (show ds.vals.drop q = dv :: ds.vals.drop (q + 1) by rw [hdv]; exact List.drop_eq_getElem_cons hql)
              rw [← hdv] at hyi
              obtain ⟨v1, hv⟩ : ∃ v1, v1 = chkVal dv := ⟨_, rfl⟩
              have HMC : Hid (Calls Tryz.prog 75 #[.agg #[.int .i64 y.k, .int .i64 y.i, .int .i64 y.s, .string y.t, .slice y.la y.ll y.lc, .slice y.fa y.fl y.fc]] ws fun e w' => e = .returned (.int .i64 v1) ∧ Below ws.heap.size ws w') := hid (by rw [hv]; exact check_call y _ _ (hyi.same fun b q => ⟨by have := hkb.n; omega, hw.block b q⟩) (HT.out.below hw))
              have HV1 := hid hv
              have hlt' : (q : Int) < (x.vl : Int) := by omega
              have hq0 : (0 : Int) ≤ (q : Int) := by omega
              clear hx hya hyi hia hbi hdv hv hkb
              by_cases ha : nv1 = 4096
              · have ha1 : (4096 : Int) ≤ (nv1 : Int) := by omega
                have ha2 : 4096 ≤ nv1 := by omega
                have r := hid (show checkE d = 9 by rw [R0.out, HREST.out, HIT2.out, if_neg (fun h => h rfl), HVT.out, HDV1.out, valsE, if_pos ha, if_pos (show (9 : Int) ≠ 0 by decide)])
                clear ha
                go_wp2
                go_ret
                exact ⟨retI r.out.symm, hw⟩
              have ha1 : ¬ (4096 : Int) ≤ (nv1 : Int) := by omega
              have ha2 : ¬ 4096 ≤ nv1 := by omega
              have ha3 : (nv1 : Int) < 4096 := by omega
              have HA6 := hid ha
              clear ha
              by_cases hv0 : v1 = 0
              case neg =>
                have r := hid (show checkE d = v1 by rw [R0.out, HREST.out, HIT2.out, if_neg (fun h => h rfl), HVT.out, HDV1.out, valsE, if_neg HA6.out, ← HV1.out, if_pos hv0, if_pos hv0])
                go_wp2_with (go_at_call 75; refine HMC.out.mono ?_; rintro e w6 ⟨rfl, hb6⟩)
                go_ret
                exact ⟨retI r.out.symm, HB0.out.trans ((HKBS.out.ext hb6).b.mono (by omega))⟩
              case pos =>
              subst hv0
              go_wp2_with (go_at_call 75; refine HMC.out.mono ?_; rintro e w6 ⟨rfl, hb6⟩)
              go_roundw
              case rel => exact ⟨q + 1, nv1 + 1, by go_num, by omega, by go_num, HKBS.out.ext hb6, HRBS.out.ext HKBS.out.n hb6, by rw [HVT.out, HDV1.out, valsE, if_neg HA6.out, ← HV1.out, if_neg (show ¬ (0 : Int) ≠ 0 by decide)], by have := HA6.out; omega⟩
              case measure => simp [intOf]; omega
            · obtain rfl : q = x.vl := by omega
              have h9 := cellOf (hkb.at 0 (by simp)) 9
              (try dsimp only [List.getElem_cons_zero] at h9)
              have HVE := hid (show valsE nv ds.vals = (0, nv1) by rw [HVT.out, show x.vl = ds.vals.length from HLV.out, List.drop_length, valsE])
              clear hlt hkb
              go_wp2
              go_roundw
              case rel => exact ⟨k + 1, nv1, ln, acc1, _, rfl, HLN.out, by omega, by go_num, rfl, HKBS.out.sub (by simp), HRBS.out, by rw [HREST.out, HIT2.out, if_neg (fun h => h rfl), HVE.out, if_neg (fun h => h rfl), HPN.out], hm1, hv1⟩
              case measure => simp [intOf]; omega
  · obtain rfl : k = sl := by omega
    have k2 := cellOf (heapBelow hbwp G1.out (by omega)) 2
    (try dsimp only at k2)
    have r := hid (show checkE d = 0 by rw [R0.out, HIT.out, show k = d.l.length from HL.out, List.drop_length]; cases prevK d.l d.l.length <;> rfl)
    go_wp2
    go_ret
    exact ⟨retI r.out.symm, HB0.out.trans (hbwp.mono (by omega))⟩
end Go.Proofs.YthjlgpmajeafpaaGreatDoor
