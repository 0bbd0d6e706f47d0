/-
  Equality: manifoldlaw29.sameStamp, manifoldlaw29.same, value.Equal, stamp.Compare's and message.Equal's parts. Condition: all can be read as data.
-/
import Derived.Test.YthjlgpmajeafpaaGreatDoorCmp2
import Derived.Test.YthjlgpmajeafpaaGreatDoorMsg
namespace Go.Proofs.YthjlgpmajeafpaaGreatDoor
open Go Go.RowKit Go.Shelf
set_option linter.unusedVariables false
set_option linter.unusedSimpArgs false

abbrev sObj (c : SC) : Obj := .cells #[.int .i64 c.e, .slice c.a c.n c.c] 24
def stEqB (d d2 : St) : Bool := decide (d.e = d2.e ∧ d.ps = d2.ps)

theorem list_eq_of {xs ys : List Int} (hl : xs.length = ys.length) (h : ∀ j (h1 : j < xs.length) (h2 : j < ys.length), xs[j] = ys[j]) : xs = ys := List.ext_getElem hl h

set_option maxRecDepth 100000 in
set_option maxHeartbeats 4000000 in
theorem sameStamp_call (c c2 : SC) (d d2 : St) (w : World) (hd : IsSt (· < w.heap.size) w c d) (hd2 : IsSt (· < w.heap.size) w c2 d2) :
    Calls Tryz.prog 65 #[c.v, c2.v] w fun e w' => e = .returned (.bool (stEqB d d2)) ∧ Below w.heap.size w w' := by
  obtain ⟨e1, a, n, cap⟩ := c
  obtain ⟨e2, a2, n2, cap2⟩ := c2
  obtain ⟨de, ps⟩ := d
  obtain ⟨de2, ps2⟩ := d2
  obtain ⟨h1, _, hps⟩ := hd
  obtain ⟨h2, _, hps2⟩ := hd2
  dsimp only at h1 h2 hps hps2 ⊢
  subst h1 h2
  have hbig := hps.big
  have hbig2 := hps2.big
  have HWB : Hid (Below w.heap.size w ((w.alloc (.cells #[.int .i64 e1, .slice a n cap] 24)).alloc (.cells #[.int .i64 e2, .slice a2 n2 cap2] 24))) := hid (((Below.refl _ w).alloc (Nat.le_refl _) _).alloc (by simp) _)
  obtain ⟨wb, hwb⟩ : ∃ wb, wb = ((w.alloc (.cells #[.int .i64 e1, .slice a n cap] 24)).alloc (.cells #[.int .i64 e2, .slice a2 n2 cap2] 24)) := ⟨_, rfl⟩
  have hc : ∀ w', Below wb.heap.size wb w' → (w'.cell? ⟨w.heap.size, 0, none⟩ = some (.int .i64 e1) ∧ w'.cell? ⟨w.heap.size, 1, none⟩ = some (.slice a n cap) ∧ w'.cell? ⟨w.heap.size + 1, 0, none⟩ = some (.int .i64 e2) ∧ w'.cell? ⟨w.heap.size + 1, 1, none⟩ = some (.slice a2 n2 cap2)) ∧ IsInts (fun b => b < w.heap.size) w' a n cap ps ∧ IsInts (fun b => b < w.heap.size) w' a2 n2 cap2 ps2 ∧ Below w.heap.size w w' := fun w' h => by
    rw [hwb] at h
    have hb := HWB.out.trans (h.mono HWB.out.size)
    have g1 : w'.heap[w.heap.size]? = some (sObj ⟨e1, a, n, cap⟩) := heapExt h (heapAlloc _ (heap_alloc_new w _))
    have g2 : w'.heap[w.heap.size + 1]? = some (sObj ⟨e2, a2, n2, cap2⟩) := heapExt h (heapNewAt _ _ _ (by simp))
    exact ⟨⟨cellOf g1 0, cellOf g1 1, cellOf g2 0, cellOf g2 1⟩, hps.same fun b q => ⟨q, hb.block b q⟩, hps2.same fun b q => ⟨q, hb.block b q⟩, hb⟩
  have h0 := (hc _ (Below.refl _ _)).1
  have HC := hid hc
  have HL := hid hps.len
  have HL2 := hid hps2.len
  rw [hwb] at h0
  obtain ⟨k0, k1, k2, k3⟩ := h0
  clear hc hps hps2
  go_enter Tryz.func65, Tryz.ntmps65
  by_cases q1 : e1 = e2
  · subst q1
    by_cases q2 : n = n2
    · subst q2
      go_wp2
      rw [← hwb]
      have HWBE := hid hwb
      clear hwb k0 k1 k2 k3
      go_loopw [5] (fun i wr => ∃ k : Nat, k ≤ n ∧ i = .int .i64 k ∧ (∀ j (h1 : j < ps.length) (h2 : j < ps2.length), j < k → ps[j] = ps2[j]) ∧ Below wb.heap.size wb wr) (fun i _ => n - (intOf i).toNat)
      case atStart => exact ⟨0, Nat.zero_le _, rfl, fun j _ _ h => absurd h (Nat.not_lt_zero j), Below.refl _ _⟩
      case round =>
        obtain ⟨k, hk, rfl, hall, hbr⟩ := hrel
        have HA := hid hall
        clear hall
        obtain ⟨⟨k0, k1, k2, k3⟩, hx, hy, hbw⟩ := HC.out wr hbr
        have HX := hid hx
        have HY := hid hy
        clear hx hy
        have hn63 : (n : Int) ≤ 9223372036854775807 := by omega
        by_cases hlt : k < n
        · obtain ⟨b, o, rfl, _, hcx⟩ := HX.out.slot (show 0 < n by omega)
          obtain ⟨b', o', rfl, _, hcy⟩ := HY.out.slot (show 0 < n by omega)
          have hkl : k < ps.length := by have := HL.out; omega
          have hkl2 : k < ps2.length := by have := HL2.out; omega
          have hx0 := hcx k hkl
          have hy0 := hcy k hkl2
          clear hcx hcy
          have hlt' : (k : Int) < (n : Int) := by omega
          have hk0 : (0 : Int) ≤ (k : Int) := by omega
          obtain ⟨x, hxx⟩ : ∃ x, x = ps[k] := ⟨_, rfl⟩
          obtain ⟨y, hyy⟩ : ∃ y, y = ps2[k] := ⟨_, rfl⟩
          rw [← hxx] at hx0
          rw [← hyy] at hy0
          have HXX := hid hxx
          have HYY := hid hyy
          clear hxx hyy
          by_cases hxy : x = y
          · subst hxy
            go_upto_region 6 with (fail)
            go_quiet (fail)
            go_wp2
            go_roundw
            case rel => exact ⟨k + 1, by omega, by go_num, fun j h1 h2 h => by
              by_cases hjk : j < k
              · exact HA.out j h1 h2 hjk
              · obtain rfl : j = k := by omega
                rw [← HXX.out, ← HYY.out], by first | exact hbr | exact below_drewN hbr _⟩
            case measure => simp [intOf]; omega
          · have r := hid (show stEqB ⟨e1, ps⟩ ⟨e1, ps2⟩ = false by
              rw [stEqB, decide_eq_false_iff_not]
              rintro ⟨_, h⟩
              dsimp only at h
              exact hxy (by rw [HXX.out, HYY.out]; simp only [h]))
            go_upto_region 6 with (fail)
            go_quiet (fail)
            go_wp2
            go_ret
            exact ⟨by rw [r.out]; rfl, by first | exact hbw | exact below_drewN hbw _⟩
        · obtain rfl : k = n := by omega
          have r := hid (show stEqB ⟨e1, ps⟩ ⟨e1, ps2⟩ = true by
            rw [stEqB, decide_eq_true_iff]
            exact ⟨rfl, show ps = ps2 from list_eq_of (HL.out.symm.trans HL2.out) fun j h1 h2 => HA.out j h1 h2 (by have := HL.out; omega)⟩)
          go_wp2
          go_ret
          exact ⟨by rw [r.out]; rfl, hbw⟩
    · have r := hid (show stEqB ⟨e1, ps⟩ ⟨e1, ps2⟩ = false by
        rw [stEqB, decide_eq_false_iff_not]
        rintro ⟨_, h⟩
        dsimp only at h
        exact q2 (by rw [HL.out, HL2.out, h]))
      have q2' : ¬ (n : Int) = (n2 : Int) := by omega
      go_wp2
      go_ret
      exact ⟨by rw [r.out]; rfl, HWB.out⟩
  · have r := hid (show stEqB ⟨e1, ps⟩ ⟨e2, ps2⟩ = false by
      rw [stEqB, decide_eq_false_iff_not]
      exact fun h => q1 h.1)
    go_wp2
    go_ret
    exact ⟨by rw [r.out]; rfl, HWB.out⟩

set_option maxRecDepth 100000 in
theorem valEqual_call (c c2 : VC) (d d2 : Val) (w : World) (hd : IsVal (· < w.heap.size) w c d) (hd2 : IsVal (· < w.heap.size) w c2 d2) :
    Calls Tryz.prog 52 #[c.v, c2.v] w fun e w' => e = .returned (.bool (cmpV d d2 == 0)) ∧ Below w.heap.size w w' := by
  obtain ⟨wb, hwb⟩ : ∃ wb, wb = ((w.alloc (vObj c)).alloc (vObj c2)) := ⟨_, rfl⟩
  have hb : Below w.heap.size w wb := by rw [hwb]; exact ((Below.refl _ w).alloc (Nat.le_refl _) _).alloc (by simp) _
  have hs := hb.size
  have hc := compare_call c c2 d d2 wb (hd.same fun b q => ⟨by omega, hb.block b q⟩) (hd2.same fun b q => ⟨by omega, hb.block b q⟩)
  have HB := hid hb
  rw [hwb] at hc
  have HWB := hid hwb
  have HC := hid hc
  clear hwb hb hc hs hd hd2
  go_enter Tryz.func52, Tryz.ntmps52
  go_wp2_with (go_at_call 77; refine HC.out.mono ?_; rintro e w1 ⟨rfl, hb1⟩)
  go_ret
  rw [← HWB.out] at hb1
  exact ⟨rfl, HB.out.trans (hb1.mono HB.out.size)⟩
end Go.Proofs.YthjlgpmajeafpaaGreatDoor
