/-
  slices.EqualFunc over stamps (by stamp.Equal). Condition: both can be read as data.
-/
import Derived.Test.YthjlgpmajeafpaaGreatDoorRow
import Derived.Test.YthjlgpmajeafpaaGreatDoorEq
namespace Go.Proofs.YthjlgpmajeafpaaGreatDoor
open Go Go.RowKit Go.Shelf
set_option linter.unusedVariables false
set_option linter.unusedSimpArgs false

set_option maxRecDepth 100000 in
set_option maxHeartbeats 4000000 in
theorem eqFnSt_call (a a2 : Option Addr) (n c n2 c2 : Nat) (l l2 : List St) (w : World) (hd : IsRow stK (· < w.heap.size) w a n c l) (hd2 : IsRow stK (· < w.heap.size) w a2 n2 c2 l2) :
    Calls Tryz.prog 71 #[.slice a n c, .slice a2 n2 c2, .func (.func 70) #[] #[]] w fun e w' => e = .returned (.bool (eqL stEqB l l2)) ∧ Below w.heap.size w w' := by
  have hen : ∀ args w, (callFunc 70 args).run Tryz.prog w = .ok (.enter 70 args) w := enters_of Tryz.func70 (by kernel_rfl) rfl
  have hbig := hd.big
  have hbig2 := hd2.big
  have HL := hid hd.len
  have HL2 := hid hd2.len
  have HD := hid hd
  have HD2 := hid hd2
  clear hd hd2
  go_enter Tryz.func71, Tryz.ntmps71
  by_cases q2 : n = n2
  · subst q2
    go_wp2
    go_loopw [17] (fun i wr => ∃ k : Nat, k ≤ n ∧ i = .int .i64 k ∧ (∀ j (h1 : j < l.length) (h2 : j < l2.length), j < k → stEqB l[j] l2[j] = true) ∧ Below w.heap.size w wr) (fun i _ => n - (intOf i).toNat)
    case atStart => exact ⟨0, Nat.zero_le _, rfl, fun j _ _ h => absurd h (Nat.not_lt_zero j), Below.refl _ _⟩
    case round =>
      obtain ⟨k, hk, rfl, hall, hbr⟩ := hrel
      have HA := hid hall
      clear hall
      obtain ⟨wp, rfl⟩ : ∃ w1 : World, w1 = wr := ⟨_, rfl⟩
      have HBR := hid hbr
      have hn63 : (n : Int) ≤ 9223372036854775807 := by omega
      by_cases hlt : k < n
      · have hkl : k < l.length := by have := HL.out; omega
        have hkl2 : k < l2.length := by have := HL2.out; omega
        obtain ⟨b, o, rfl, hb, hx⟩ := HD.out.slot (show 0 < n by omega)
        obtain ⟨b2, o2, rfl, hb2, hy⟩ := HD2.out.slot (show 0 < n by omega)
        obtain ⟨x, hxa, hxi⟩ := hx k hkl
        obtain ⟨y, hya, hyi⟩ := hy k hkl2
        clear hx hy
        obtain ⟨x0, x1⟩ := AtG.two (hxa.same (hbr.block b hb))
        obtain ⟨y0, y1⟩ := AtG.two (w := wp.alloc (.cells #[.int .i64 x.e, .slice x.a x.n x.c] 24)) (hya.same ((Below.heap_alloc _ _ _ (by have := hbr.size; omega)).trans (hbr.block b2 hb2)))
        have hlt' : (k : Int) < (n : Int) := by omega
        have hk0 : (0 : Int) ≤ (k : Int) := by omega
        obtain ⟨u, hu⟩ : ∃ u, u = stEqB l[k] l2[k] := ⟨_, rfl⟩
        have hba : Below w.heap.size w ((wp.alloc (.cells #[.int .i64 x.e, .slice x.a x.n x.c] 24)).alloc (.cells #[.int .i64 y.e, .slice y.a y.n y.c] 24)) := (hbr.alloc hbr.size _).alloc (by have := hbr.size; simp; omega) _
        have HC : Hid (Calls Tryz.prog 70 #[.agg #[.int .i64 x.e, .slice x.a x.n x.c], .agg #[.int .i64 y.e, .slice y.a y.n y.c]] ((wp.alloc (.cells #[.int .i64 x.e, .slice x.a x.n x.c] 24)).alloc (.cells #[.int .i64 y.e, .slice y.a y.n y.c] 24)) fun e w' => e = .returned (.bool u) ∧ Below ((wp.alloc (.cells #[.int .i64 x.e, .slice x.a x.n x.c] 24)).alloc (.cells #[.int .i64 y.e, .slice y.a y.n y.c] 24)).heap.size ((wp.alloc (.cells #[.int .i64 x.e, .slice x.a x.n x.c] 24)).alloc (.cells #[.int .i64 y.e, .slice y.a y.n y.c] 24)) w') := hid (by
          rw [hu]
          have hs := hba.size
          exact stEqual_call x y l[k] l2[k] ((wp.alloc (.cells #[.int .i64 x.e, .slice x.a x.n x.c] 24)).alloc (.cells #[.int .i64 y.e, .slice y.a y.n y.c] 24)) (stK.same (fun b q => ⟨by omega, hba.block b q⟩) hxi) (stK.same (fun b q => ⟨by omega, hba.block b q⟩) hyi))
        have HBA := hid hba
        have HU := hid hu
        clear hu hba hxa hya hxi hyi hbr hb hb2
        cases u with
        | false =>
          go_wp2_with (go_at_call 70; refine HC.out.mono ?_; rintro e w3 ⟨rfl, hb3⟩)
          go_ret
          exact ⟨retB (eqL_ne k hkl hkl2 HU.out.symm).symm, HBA.out.trans (hb3.mono HBA.out.size)⟩
        | true =>
          go_wp2_with (go_at_call 70; refine HC.out.mono ?_; rintro e w3 ⟨rfl, hb3⟩)
          go_roundw
          case rel => exact ⟨k + 1, by omega, by go_num, fun j h1 h2 h => by
            by_cases hjk : j < k
            · exact HA.out j h1 h2 hjk
            · obtain rfl : j = k := by omega
              exact HU.out.symm, HBA.out.trans (hb3.mono HBA.out.size)⟩
          case measure => simp [intOf]; omega
      · obtain rfl : k = n := by omega
        have r := hid (eqL_of (f := stEqB) (HL.out.symm.trans HL2.out) fun j h1 h2 => HA.out j h1 h2 (by have := HL.out; omega))
        go_wp2
        go_ret
        exact ⟨retB r.out.symm, HBR.out⟩
  · have q2' : ¬ (n : Int) = (n2 : Int) := by omega
    go_wp2
    go_ret
    exact ⟨retB (eqL_len (by rw [← HL.out, ← HL2.out]; exact q2)).symm, Below.refl _ _⟩
end Go.Proofs.YthjlgpmajeafpaaGreatDoor
