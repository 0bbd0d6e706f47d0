/-
  stamp.made, stamp.Arrival and message.New return a new stamp, a new message. Conditions: the body can be read as data; Tabs.
-/
import Derived.Test.YthjlgpmajeafpaaGreatDoorWith
import Derived.Test.YthjlgpmajeafpaaGreatDoorBody
namespace Go.Proofs.YthjlgpmajeafpaaGreatDoor
open Go Go.RowKit Go.Shelf
set_option linter.unusedVariables false
set_option linter.unusedSimpArgs false

def madeE (e p : Int) : Int := if e < 1 ∨ 1048576 < e ∨ p < 0 ∨ 128 ≤ p then 2 else 0

set_option maxRecDepth 100000 in
set_option maxHeartbeats 2000000 in
theorem made_call (e p : Int) (a : Option Addr) (n c : Nat) (w : World) : Calls Tryz.prog 135 #[.int .i64 e, .int .i64 p, .slice a n c] w fun x w' =>
    (madeE e p = 2 → x = .returned (.tuple #[.agg #[.int .i64 0, .slice none 0 0], .int .i64 2])) ∧ (madeE e p = 0 → x = .returned (.tuple #[.agg #[.int .i64 e, .slice a n c], .int .i64 0])) ∧ Below w.heap.size w w' := by
  go_enter Tryz.func135, Tryz.ntmps135
  by_cases h : madeE e p = 2
  · have M := hid h
    by_cases h1 : e < 1
    · clear h
      go_wp2
      exact bodyPost_ret (v := .tuple #[.agg #[.int .i64 0, .slice none 0 0], .int .i64 2]) (by simp [results, Tryz.results135, go_sem, cellOf (heap_alloc_new w _)]) rfl ⟨fun _ => rfl, fun h => absurd (M.out.symm.trans h) (by decide), (Below.refl _ w).alloc (Nat.le_refl _) _⟩
    by_cases h2 : 1048576 < e
    · clear h
      go_wp2
      exact bodyPost_ret (v := .tuple #[.agg #[.int .i64 0, .slice none 0 0], .int .i64 2]) (by simp [results, Tryz.results135, go_sem, cellOf (heap_alloc_new w _)]) rfl ⟨fun _ => rfl, fun h => absurd (M.out.symm.trans h) (by decide), (Below.refl _ w).alloc (Nat.le_refl _) _⟩
    by_cases h3 : p < 0
    · clear h
      go_wp2
      exact bodyPost_ret (v := .tuple #[.agg #[.int .i64 0, .slice none 0 0], .int .i64 2]) (by simp [results, Tryz.results135, go_sem, cellOf (heap_alloc_new w _)]) rfl ⟨fun _ => rfl, fun h => absurd (M.out.symm.trans h) (by decide), (Below.refl _ w).alloc (Nat.le_refl _) _⟩
    have h4 : 128 ≤ p := by
      unfold madeE at h
      split at h
      · omega
      · cases h
    clear h
    go_wp2
    exact bodyPost_ret (v := .tuple #[.agg #[.int .i64 0, .slice none 0 0], .int .i64 2]) (by simp [results, Tryz.results135, go_sem, cellOf (heap_alloc_new w _)]) rfl ⟨fun _ => rfl, fun h => absurd (M.out.symm.trans h) (by decide), (Below.refl _ w).alloc (Nat.le_refl _) _⟩
  · have M := hid h
    have h1 : ¬ e < 1 ∧ ¬ 1048576 < e ∧ ¬ p < 0 ∧ ¬ 128 ≤ p := by
      unfold madeE at h
      split at h
      · exact absurd rfl h
      · omega
    obtain ⟨h1, h2, h3, h4⟩ := h1
    clear h
    go_wp2
    exact bodyPost_ret (v := .tuple #[.agg #[.int .i64 e, .slice a n c], .int .i64 0]) (by simp [results, Tryz.results135, go_sem, cellOf (heap_alloc_new w _)]) rfl ⟨fun h => absurd h M.out, fun _ => rfl, (Below.refl _ w).alloc (Nat.le_refl _) _⟩

def ArrPost (w : World) (e : Int) (x : Ending) (w' : World) : Prop := Below w.heap.size w w' ∧ (madeE e 0 = 2 → x = .returned (.tuple #[.agg #[.int .i64 0, .slice none 0 0], .int .i64 2])) ∧
  (madeE e 0 = 0 → ∃ sa sc, x = .returned (.tuple #[.agg #[.int .i64 e, .slice sa 1 sc], .int .i64 0]) ∧ IsInts (fun b => w.heap.size ≤ b ∧ b < w'.heap.size) w' sa 1 sc [1])
theorem made_two (e p : Int) : madeE e p = 2 ∨ madeE e p = 0 := by unfold madeE; split <;> simp
set_option maxRecDepth 100000 in
set_option maxHeartbeats 2000000 in
theorem arrival_call (e : Int) (w : World) : Calls Tryz.prog 105 #[.int .i64 e] w (ArrPost w e) := by
  obtain ⟨w1, hw1⟩ : ∃ w1, w1 = (w.alloc (.cells #[.int .i64 0, .slice none 0 0] 24)).alloc (.cells #[.int .i64 1] 3) := ⟨_, rfl⟩
  have o0 : w1.heap[w.heap.size]? = some (.cells #[.int .i64 0, .slice none 0 0] 24 (0, 0)) := by rw [hw1]; exact heapAlloc _ (heap_alloc_new w _)
  have o1 : w1.heap[w.heap.size + 1]? = some (.cells #[.int .i64 1] 3 (0, 0)) := by rw [hw1]; exact heapNewAt _ _ _ (by simp)
  have hb : Below w.heap.size w w1 := by rw [hw1]; exact ((Below.refl _ w).alloc (Nat.le_refl _) _).alloc (by simp) _
  have hm := made_call e 0 (some ⟨w.heap.size + 1, 0, none⟩) 1 1 w1
  have HB := hid hb
  have O := hid (And.intro o0 o1)
  have HW1 := hid hw1
  rw [hw1] at hm
  have HM := hid hm
  clear hb o0 o1 hw1 hm
  go_enter Tryz.func105, Tryz.ntmps105
  rcases made_two e 0 with h2 | h2
  · have M := hid h2
    clear h2
    go_wp2_with (go_at_call 135; refine HM.out.mono ?_; rintro x w2 ⟨g1, _, hb2⟩; rw [g1 M.out]; rw [← HW1.out] at hb2; have k0 := heapExt hb2 O.out.1; have z0 := cellOf k0 0; have z1 := cellOf k0 1; have y0 := freeOf k0 0; have y1 := freeOf k0 1; (try dsimp only at z0 z1); have K0 := hid k0; clear k0 g1)
    have h1 := heapSet (o := 1) (Value.slice none 0 0) (heapSet (o := 0) (Value.int .i64 0) K0.out)
    exact bodyPost_ret (v := .tuple #[.agg #[.int .i64 0, .slice none 0 0], .int .i64 2]) (by simp [results, Tryz.results105, go_sem, cellOf h1]) rfl ⟨((HB.out.trans (hb2.mono HB.out.size)).setCell (p := ⟨w.heap.size, 0, none⟩) (by dsimp only; omega) _).setCell (p := ⟨w.heap.size, 1, none⟩) (by dsimp only; omega) _, fun _ => rfl, fun h => absurd (M.out.symm.trans h) (by decide)⟩
  · have M := hid h2
    clear h2
    go_wp2_with (go_at_call 135; refine HM.out.mono ?_; rintro x w2 ⟨_, g1, hb2⟩; rw [g1 M.out]; rw [← HW1.out] at hb2; have k0 := heapExt hb2 O.out.1; have k1 := heapExt hb2 O.out.2; have z0 := cellOf k0 0; have z1 := cellOf k0 1; have y0 := freeOf k0 0; have y1 := freeOf k0 1; (try dsimp only at z0 z1); have K0 := hid k0; have K1 := hid k1; clear k0 k1 g1)
    have h1 := heapSet (o := 1) (Value.slice (some ⟨w.heap.size + 1, 0, none⟩) 1 1) (heapSet (o := 0) (Value.int .i64 e) K0.out)
    have hk := ltOf K1.out
    refine bodyPost_ret (v := .tuple #[.agg #[.int .i64 e, .slice (some ⟨w.heap.size + 1, 0, none⟩) 1 1], .int .i64 0]) (by simp [results, Tryz.results105, go_sem, cellOf h1]) rfl ⟨((HB.out.trans (hb2.mono HB.out.size)).setCell (p := ⟨w.heap.size, 0, none⟩) (by dsimp only; omega) _).setCell (p := ⟨w.heap.size, 1, none⟩) (by dsimp only; omega) _, fun h => absurd (M.out.symm.trans h) (by decide), fun _ => ⟨_, _, rfl, rfl, Nat.le_refl _, by decide, fun x hx => by (rw [List.mem_singleton] at hx; subst hx; exact ⟨by decide, by decide⟩), .inr ⟨w.heap.size + 1, 0, rfl, ⟨by omega, by simpa [World.setCell] using hk⟩, fun j hj => ?_⟩⟩⟩
    have hj0 : j = 0 := by simpa using hj
    subst hj0
    exact cellOf (heapSetOther _ _ (heapSetOther _ _ K1.out (by dsimp only; omega)) (by dsimp only; omega)) 0

def newE (e : Int) (d : Val) : Int := if madeE e 0 = 2 then 2 else bodyE d
abbrev zeroMsg : Value := .agg #[.int .i64 0, .slice none 0 0, .int .i64 0, .slice none 0 0, .int .i64 0, .int .i64 0, .int .i64 0, .string ⟨#[]⟩, .slice none 0 0, .slice none 0 0]
def NewPost (w : World) (e : Int) (d : Val) (x : Ending) (w' : World) : Prop := Below w.heap.size w w' ∧ (newE e d ≠ 0 → x = .returned (.tuple #[zeroMsg, .int .i64 (newE e d)])) ∧
  (newE e d = 0 → ∃ c' : MC, x = .returned (.tuple #[c'.v, .int .i64 0]) ∧ IsMsg (fun b => w.heap.size ≤ b ∧ b < w'.heap.size) w' c' ⟨⟨e, [1]⟩, 1048576, [e], d⟩)

set_option maxRecDepth 100000 in
set_option maxHeartbeats 8000000 in
theorem new_call (e0 : Int) (c : VC) (d : Val) (w : World) (he0 : I64 e0) (hd : IsVal (· < w.heap.size) w c d) (hT : Tabs w) : Calls Tryz.prog 58 #[.int .i64 e0, c.v] w (NewPost w e0 d) := by
  have HWB : Hid (Below w.heap.size w ((w.alloc (.cells #[.int .i64 c.k, .int .i64 c.i, .int .i64 c.s, .string c.t, .slice c.la c.ll c.lc, .slice c.fa c.fl c.fc] 28)).alloc (.cells #[.int .i64 0, .slice none 0 0, .int .i64 0, .slice none 0 0, .int .i64 0, .int .i64 0, .int .i64 0, .string ByteArray.empty, .slice none 0 0, .slice none 0 0] 30))) := hid (((Below.refl _ w).alloc (Nat.le_refl _) _).alloc (by simp) _)
  obtain ⟨wb, hwb⟩ : ∃ wb, wb = ((w.alloc (.cells #[.int .i64 c.k, .int .i64 c.i, .int .i64 c.s, .string c.t, .slice c.la c.ll c.lc, .slice c.fa c.fl c.fc] 28)).alloc (.cells #[.int .i64 0, .slice none 0 0, .int .i64 0, .slice none 0 0, .int .i64 0, .int .i64 0, .int .i64 0, .string ByteArray.empty, .slice none 0 0, .slice none 0 0] 30)) := ⟨_, rfl⟩
  have hbwb : Below w.heap.size w wb := by rw [hwb]; exact HWB.out
  have hsw : wb.heap.size = w.heap.size + 2 := by rw [hwb]; simp
  have o0 : wb.heap[w.heap.size]? = some (.cells #[.int .i64 c.k, .int .i64 c.i, .int .i64 c.s, .string c.t, .slice c.la c.ll c.lc, .slice c.fa c.fl c.fc] 28 (0, 0)) := by rw [hwb]; exact heapAlloc _ (heap_alloc_new w _)
  have o1 : wb.heap[w.heap.size + 1]? = some (.cells #[.int .i64 0, .slice none 0 0, .int .i64 0, .slice none 0 0, .int .i64 0, .int .i64 0, .int .i64 0, .string ByteArray.empty, .slice none 0 0, .slice none 0 0] 30 (0, 0)) := by rw [hwb]; exact heapNewAt _ _ _ (by simp)
  have later : ∀ w', Below wb.heap.size wb w' → IsVal (· < w'.heap.size) w' c d ∧ Tabs w' ∧ Below w.heap.size w w' := fun w' h => by
    have hb := hbwb.trans (h.mono hbwb.size)
    exact ⟨hd.same fun b q => ⟨Nat.lt_of_lt_of_le q hb.size, hb.block b q⟩, hT.below hb, hb⟩
  have HBD := hid (fun w' h => body_call c d w' (later w' h).1 (later w' h).2.1)
  have HCL : Hid (∀ w', Below wb.heap.size wb w' → Calls Tryz.prog 107 #[.agg #[.int .i64 c.k, .int .i64 c.i, .int .i64 c.s, .string c.t, .slice c.la c.ll c.lc, .slice c.fa c.fl c.fc]] w' fun e w2 => ∃ c' : VC, e = .returned c'.v ∧ Below w'.heap.size w' w2 ∧ IsVal (fun b => w'.heap.size ≤ b ∧ b < w2.heap.size) w2 c' d) := hid fun w' h =>
    (clone_call (later w' h).1).mono fun e w2 ⟨c', he, hb, hi⟩ => ⟨c', he, hb, hi⟩
  have O := hid (And.intro o0 o1)
  have HWBE := hid hwb
  have HSW := hid hsw
  have HBWB := hid hbwb
  have HI0 := hid he0
  have harr := arrival_call e0 ((w.alloc (.cells #[.int .i64 c.k, .int .i64 c.i, .int .i64 c.s, .string c.t, .slice c.la c.ll c.lc, .slice c.fa c.fl c.fc] 28)).alloc (.cells #[.int .i64 0, .slice none 0 0, .int .i64 0, .slice none 0 0, .int .i64 0, .int .i64 0, .int .i64 0, .string ByteArray.empty, .slice none 0 0, .slice none 0 0] 30))
  have HA := hid harr
  clear later hwb hsw o0 o1 hbwb hd hT he0 harr
  go_enter Tryz.func58, Tryz.ntmps58
  rcases made_two e0 0 with h2 | h2
  · have HE := hid (show newE e0 d = 2 by rw [newE, if_pos h2])
    have M := hid h2
    clear h2
    go_wp2_with (go_at_call 105; refine HA.out.mono ?_; rintro x w2 ⟨hb2, g1, _⟩; rw [g1 M.out]; rw [← HWBE.out] at hb2; have k0 := heapAlloc (.cells #[.int .i64 0, .slice none 0 0] 24) (heapExt hb2 O.out.2); have z0 := cellOf k0 0; have y0 := freeOf k0 0; have z1 := cellOf k0 1; have y1 := freeOf k0 1; have z2 := cellOf k0 2; have y2 := freeOf k0 2; have z3 := cellOf k0 3; have y3 := freeOf k0 3; have z4 := cellOf k0 4; have y4 := freeOf k0 4; have z5 := cellOf k0 5; have y5 := freeOf k0 5; have z6 := cellOf k0 6; have y6 := freeOf k0 6; have z7 := cellOf k0 7; have y7 := freeOf k0 7; have z8 := cellOf k0 8; have y8 := freeOf k0 8; have z9 := cellOf k0 9; have y9 := freeOf k0 9; (try dsimp only at z0 z1 z2 z3 z4 z5 z6 z7 z8 z9); have K0 := hid k0; clear k0 g1)
    have h1 := setTen_heap (c := ⟨⟨0, none, 0, 0⟩, 0, none, 0, 0, ⟨0, 0, 0, ⟨#[]⟩, none, 0, 0, none, 0, 0⟩⟩) K0.out
    have hbb := hb2.size
    have hsw := HSW.out
    have h2 := ((HBWB.out.trans (hb2.mono HBWB.out.size)).alloc (by omega) (.cells #[.int .i64 0, .slice none 0 0] 24)).trans (setTen_below (c := ⟨⟨0, none, 0, 0⟩, 0, none, 0, 0, ⟨0, 0, 0, ⟨#[]⟩, none, 0, 0, none, 0, 0⟩⟩) _ (w.heap.size + 1) w.heap.size (by omega))
    dsimp only [setTen] at h1 h2
    exact bodyPost_ret (v := .tuple #[zeroMsg, .int .i64 2]) (by simp [results, Tryz.results58, go_sem, cellOf h1]) rfl ⟨h2, fun _ => by rw [HE.out], fun h => absurd (HE.out.symm.trans h) (by decide)⟩
  · have M := hid h2
    have HE := hid (show newE e0 d = bodyE d by rw [newE, if_neg (by rw [h2]; decide)])
    clear h2
    obtain ⟨u, hu⟩ : ∃ u, u = bodyE d := ⟨_, rfl⟩
    have HU := hid hu
    have hbd : ∀ w', Below wb.heap.size wb w' → Calls Tryz.prog 106 #[.agg #[.int .i64 c.k, .int .i64 c.i, .int .i64 c.s, .string c.t, .slice c.la c.ll c.lc, .slice c.fa c.fl c.fc]] w' fun e w2 => e = .returned (.int .i64 u) ∧ Below w'.heap.size w' w2 := fun w' h => by rw [hu]; exact HBD.out w' h
    have HBD' := hid hbd
    clear hbd HBD hu
    by_cases q : u = 0
    · subst q
      have HE0 := hid (HE.out.trans HU.out.symm)
      go_upto_region 7 with (first
        | (go_at_call 105; refine HA.out.mono ?_; rintro x w2 ⟨hb2, _, g1⟩; obtain ⟨sa, sc, hx, hsi⟩ := g1 M.out; rw [hx]; rw [← HWBE.out] at hb2 hsi; have k1 := heapAlloc (.cells #[.int .i64 e0, .slice sa 1 sc] 24) (heapExt hb2 O.out.1); have x0 := cellOf k1 0; have x1 := cellOf k1 1; have x2 := cellOf k1 2; have x3 := cellOf k1 3; have x4 := cellOf k1 4; have x5 := cellOf k1 5; clear hx k1)
        | (go_at_call 106; refine (HBD'.out _ (hb2.alloc hb2.size _)).mono ?_; rintro x w3 ⟨rfl, hb3⟩; have hb3' := (hb2.alloc hb2.size (.cells #[.int .i64 e0, .slice sa 1 sc] 24)).trans (hb3.mono (Nat.le_trans hb2.size (by simp))); clear x0 x1 x2 x3 x4 x5))
      have HBW : Hid (Below w.heap.size w w3) := hid (HBWB.out.trans (hb3'.mono HBWB.out.size))
      have O2 := hid (heapExt hb3' O.out.2)
      have hst : w3.heap[w2.heap.size]? = some (.cells #[.int .i64 e0, .slice sa 1 sc] 24 (0, 0)) := heapExt hb3 (heap_alloc_new w2 _)
      have hvb := heapExt hb3' O.out.1
      have hs2 := hb2.size
      have hs3 := hb3.size
      simp only [World.size_alloc] at hs3
      have hsw := HSW.out
      have HV : Hid (∀ w', Below w3.heap.size w3 w' → Calls Tryz.prog 107 #[.agg #[.int .i64 c.k, .int .i64 c.i, .int .i64 c.s, .string c.t, .slice c.la c.ll c.lc, .slice c.fa c.fl c.fc]] w' fun e w2 => ∃ c' : VC, e = .returned c'.v ∧ Below w'.heap.size w' w2 ∧ IsVal (fun b => w3.heap.size ≤ b ∧ b < w2.heap.size) w2 c' d) := hid fun w' h =>
        (HCL.out w' (hb3'.trans (h.mono hb3'.size))).mono fun e w2 ⟨c', he, hb, hi⟩ => ⟨c', he, hb, hi.same fun b q => ⟨⟨Nat.le_trans h.size q.1, q.2⟩, rfl⟩⟩
      have HC : Hid (∀ w', Below w3.heap.size w3 w' → w'.cell? ⟨w2.heap.size, 0, none⟩ = some (.int .i64 e0) ∧ w'.cell? ⟨w2.heap.size, 1, none⟩ = some (.slice sa 1 sc) ∧ w'.cell? ⟨w.heap.size, 0, none⟩ = some (.int .i64 c.k) ∧ w'.cell? ⟨w.heap.size, 1, none⟩ = some (.int .i64 c.i) ∧ w'.cell? ⟨w.heap.size, 2, none⟩ = some (.int .i64 c.s) ∧ w'.cell? ⟨w.heap.size, 3, none⟩ = some (.string c.t) ∧ w'.cell? ⟨w.heap.size, 4, none⟩ = some (.slice c.la c.ll c.lc) ∧ w'.cell? ⟨w.heap.size, 5, none⟩ = some (.slice c.fa c.fl c.fc)) := hid fun w' h => by
        have g1 := heapExt h hst
        have g2 := heapExt h hvb
        exact ⟨cellOf g1 0, cellOf g1 1, cellOf g2 0, cellOf g2 1, cellOf g2 2, cellOf g2 3, cellOf g2 4, cellOf g2 5⟩
      have NR : Hid (∀ (w' : World) (cb : VC) (gb : Nat), Below w3.heap.size w3 w' → w3.heap.size ≤ gb → w'.heap[gb]? = some (.cells #[.int .i64 e0] 3 (0, 0)) → IsVal (fun b => w3.heap.size ≤ b ∧ b < w'.heap.size) w' cb d →
          IsMsg (fun b => w.heap.size ≤ b ∧ b < w'.heap.size ∧ b ≠ w.heap.size + 1) w' ⟨⟨e0, sa, 1, sc⟩, 1048576, some ⟨gb, 0, none⟩, 1, 1, cb⟩ ⟨⟨e0, [1]⟩, 1048576, [e0], d⟩) := hid fun w' cb gb h hg hgo hi => by
        have hs := h.size
        refine ⟨⟨rfl, HI0.out, hsi.same fun b ⟨q1, q2⟩ => ⟨by omega, (h.block b (by omega)).trans ((hb3.block b (by simp; omega)).trans (Below.heap_alloc _ _ _ q2))⟩⟩, rfl, (show I64 1048576 from ⟨by decide, by decide⟩), ⟨rfl, Nat.le_refl _, (show 1 * 8 ≤ 140737488351232 by decide), fun x hx => ?_, .inr ⟨gb, 0, rfl, ?_, fun j hj => ?_⟩⟩, hi.same fun b ⟨q1, q2⟩ => ⟨by omega, rfl⟩⟩
        · rw [List.mem_singleton] at hx; subst hx; exact HI0.out
        · have := ltOf hgo; omega
        · have hj0 : j = 0 := by simpa using hj
          subst hj0
          exact cellOf hgo 0
      clear hst hvb hsi hb3 hb3' hb2 hsw hs2 hs3
      refine wp_region_split 6 (fun w' => Below w3.heap.size w3 w') (by kernel_rfl) (by kernel_rfl) (by kernel_rfl) (by decide) ((Below.refl _ _).drew) (fun hS => ?_)
      simp only [List.take_succ_cons, List.take_zero, List.drop_succ_cons, List.drop_zero]
      refine wpAnyH_take (i := 0) (oi := _) (v := ?_) rfl (by kernel_rfl) (by kernel_rfl) (by kernel_rfl) (fun _ _ _ h => h) (Or.inl ⟨by rfl, ?_⟩) hS ?_
      rotate_left
      · intro w' hw'
        have hcells := HC.out w' hw'
        go_simp
        (try with_reducible rfl)
      simp only [Act.put, List.setIfInBounds_toArray, List.set_cons_zero, List.set_cons_succ]
      refine wpAnyH_take (i := 1) (oi := _) (v := ?_) rfl (by kernel_rfl) (by kernel_rfl) (by kernel_rfl) (fun _ _ _ h => h) (Or.inl ⟨by rfl, ?_⟩) hS ?_
      rotate_left
      · intro w' hw'
        have hcells := HC.out w' hw'
        go_simp
        (try with_reducible rfl)
      simp only [Act.put, List.setIfInBounds_toArray, List.set_cons_zero, List.set_cons_succ]
      refine wpAnyH_take (i := 3) (oi := _) (v := ?_) rfl (by kernel_rfl) (by kernel_rfl) (by kernel_rfl) (fun _ _ _ h => h) (Or.inl ⟨by rfl, ?_⟩) hS ?_
      rotate_left
      · intro w' hw'
        have hcells := HC.out w' hw'
        go_simp
        (try with_reducible rfl)
      simp only [Act.put, List.setIfInBounds_toArray, List.set_cons_zero, List.set_cons_succ]
      refine wpAnyH_ready (rs := [2, 4]) (by kernel_rfl) (by simp) ?_
      refine AllReadyH.cons (o := _) rfl (fun K hK => ?_) ?_
      · go_simp
        obtain ⟨gb, hgb⟩ : ∃ gb, gb = w3.heap.size := ⟨_, rfl⟩
        have HGB := hid hgb
        clear hgb
        have HGO : Hid ((w3.drew.alloc (.cells #[.int .i64 e0] 3)).heap[gb]? = some (.cells #[.int .i64 e0] 3 (0, 0))) := hid (by rw [HGB.out]; exact heap_alloc_new w3.drew _)
        refine hK.out _ _ (hS.trans (((Below.refl _ _).alloc (Nat.le_refl _) _).mono hS.size)) (fun hS => ?_)
        clear hK K
        (try simp only [Act.put, List.setIfInBounds_toArray, List.set_cons_zero, List.set_cons_succ])
        refine wpAnyH_ready (rs := [4]) (by kernel_rfl) (by simp) ?_
        refine AllReadyH.cons (o := _) rfl (fun K hK => ?_) AllReadyH.nil
        go_simp; go_at_call 107; refine (HV.out _ hS).mono ?_
        rintro e w5 ⟨cb, rfl, hb5, hi5⟩
        have hres := hid (NR.out w5 cb gb (hS.trans (hb5.mono hS.size)) (by rw [HGB.out]; exact Nat.le_refl _) (heapExt hb5 HGO.out) hi5)
        clear hi5
        refine hK.out _ _ (hS.trans (hb5.mono hS.size)) (fun hS => ?_)
        clear hK K
        (try simp only [Act.put, List.setIfInBounds_toArray, List.set_cons_zero, List.set_cons_succ])
        refine wpAnyH_take (i := 5) (oi := _) (v := ?_) rfl (by kernel_rfl) (by kernel_rfl) (by kernel_rfl) (fun _ _ _ h => h) (Or.inl ⟨by rfl, ?_⟩) hS ?_
        rotate_left
        · intro w' hw'
          have hcells := HC.out w' hw'
          go_simp
          (try with_reducible rfl)
        simp only [Act.put, List.setIfInBounds_toArray, List.set_cons_zero, List.set_cons_succ]
        refine wpAnyH_done (by kernel_rfl) ?_ _
        (try dsimp only)
        rw [← HGB.out]
        have hB := heapExt hS O2.out
        have hBL := hid hS
        clear hS HC HV
        have z0 := cellOf hB 0
        have z1 := cellOf hB 1
        have z2 := cellOf hB 2
        have z3 := cellOf hB 3
        have z4 := cellOf hB 4
        have z5 := cellOf hB 5
        have z6 := cellOf hB 6
        have z7 := cellOf hB 7
        have z8 := cellOf hB 8
        have z9 := cellOf hB 9
        have y0 := freeOf hB 0
        have y1 := freeOf hB 1
        have y2 := freeOf hB 2
        have y3 := freeOf hB 3
        have y4 := freeOf hB 4
        have y5 := freeOf hB 5
        have y6 := freeOf hB 6
        have y7 := freeOf hB 7
        have y8 := freeOf hB 8
        have y9 := freeOf hB 9
        (try dsimp only at z0 z1 z2 z3 z4 z5 z6 z7 z8 z9)
        have HB := hid hB
        clear hB
        have HRI := hres
        go_wp2
        have h1 := setTen_heap (c := ⟨⟨e0, sa, 1, sc⟩, 1048576, some ⟨gb, 0, none⟩, 1, 1, cb⟩) HB.out
        have h4 := fun w' => setTen_size (c := ⟨⟨e0, sa, 1, sc⟩, 1048576, some ⟨gb, 0, none⟩, 1, 1, cb⟩) w' (w.heap.size + 1)
        have h3 := fun w' b hb => setTen_other (c := ⟨⟨e0, sa, 1, sc⟩, 1048576, some ⟨gb, 0, none⟩, 1, 1, cb⟩) w' (w.heap.size + 1) b hb
        have h2 := fun w' => setTen_below (c := ⟨⟨e0, sa, 1, sc⟩, 1048576, some ⟨gb, 0, none⟩, 1, 1, cb⟩) w' (w.heap.size + 1) w.heap.size (by omega)
        dsimp only [setTen] at h1 h2 h3 h4
        refine bodyPost_ret (v := .tuple #[MC.v ⟨⟨e0, sa, 1, sc⟩, 1048576, some ⟨gb, 0, none⟩, 1, 1, cb⟩, .int .i64 0]) (by simp [results, Tryz.results58, go_sem, cellOf h1]) rfl ⟨(HBW.out.trans (hBL.out.mono HBW.out.size)).trans (h2 _), fun h => absurd HE0.out h, fun _ => ⟨_, rfl, ?_⟩⟩
        exact HRI.out.same fun b hb => ⟨by rw [h4]; exact ⟨hb.1, hb.2.1⟩, h3 _ b hb.2.2⟩
      refine AllReadyH.cons (o := _) rfl (fun K hK => ?_) AllReadyH.nil
      go_simp; go_at_call 107; refine (HV.out _ hS).mono ?_
      rintro e w5 ⟨cb, rfl, hb5, hi5⟩
      refine hK.out _ _ (hS.trans (hb5.mono hS.size)) (fun hS => ?_)
      clear hK K
      (try simp only [Act.put, List.setIfInBounds_toArray, List.set_cons_zero, List.set_cons_succ])
      refine wpAnyH_ready (rs := [2]) (by kernel_rfl) (by simp) ?_
      refine AllReadyH.cons (o := _) rfl (fun K hK => ?_) AllReadyH.nil
      go_simp
      obtain ⟨gb, hgb⟩ : ∃ gb, gb = w5.heap.size := ⟨_, rfl⟩
      have HGB := hid hgb
      clear hgb
      have hres := hid (NR.out (w5.alloc (.cells #[.int .i64 e0] 3)) cb gb (hS.trans (((Below.refl _ _).alloc (Nat.le_refl _) _).mono hS.size)) (by rw [HGB.out]; exact hS.size) (by rw [HGB.out]; exact heap_alloc_new w5 _) (hi5.same fun b hb => ⟨⟨hb.1, by simp; omega⟩, Below.heap_alloc _ _ _ hb.2⟩))
      refine hK.out _ _ (hS.trans (((Below.refl _ _).alloc (Nat.le_refl _) _).mono hS.size)) (fun hS => ?_)
      clear hK K
      (try simp only [Act.put, List.setIfInBounds_toArray, List.set_cons_zero, List.set_cons_succ])
      refine wpAnyH_take (i := 5) (oi := _) (v := ?_) rfl (by kernel_rfl) (by kernel_rfl) (by kernel_rfl) (fun _ _ _ h => h) (Or.inl ⟨by rfl, ?_⟩) hS ?_
      rotate_left
      · intro w' hw'
        have hcells := HC.out w' hw'
        go_simp
        (try with_reducible rfl)
      simp only [Act.put, List.setIfInBounds_toArray, List.set_cons_zero, List.set_cons_succ]
      refine wpAnyH_done (by kernel_rfl) ?_ _
      (try dsimp only)
      rw [← HGB.out]
      have hB := heapExt hS O2.out
      have hBL := hid hS
      clear hS HC HV
      have z0 := cellOf hB 0
      have z1 := cellOf hB 1
      have z2 := cellOf hB 2
      have z3 := cellOf hB 3
      have z4 := cellOf hB 4
      have z5 := cellOf hB 5
      have z6 := cellOf hB 6
      have z7 := cellOf hB 7
      have z8 := cellOf hB 8
      have z9 := cellOf hB 9
      have y0 := freeOf hB 0
      have y1 := freeOf hB 1
      have y2 := freeOf hB 2
      have y3 := freeOf hB 3
      have y4 := freeOf hB 4
      have y5 := freeOf hB 5
      have y6 := freeOf hB 6
      have y7 := freeOf hB 7
      have y8 := freeOf hB 8
      have y9 := freeOf hB 9
      (try dsimp only at z0 z1 z2 z3 z4 z5 z6 z7 z8 z9)
      have HB := hid hB
      clear hB
      have HRI := hres
      go_wp2
      have h1 := setTen_heap (c := ⟨⟨e0, sa, 1, sc⟩, 1048576, some ⟨gb, 0, none⟩, 1, 1, cb⟩) HB.out
      have h4 := fun w' => setTen_size (c := ⟨⟨e0, sa, 1, sc⟩, 1048576, some ⟨gb, 0, none⟩, 1, 1, cb⟩) w' (w.heap.size + 1)
      have h3 := fun w' b hb => setTen_other (c := ⟨⟨e0, sa, 1, sc⟩, 1048576, some ⟨gb, 0, none⟩, 1, 1, cb⟩) w' (w.heap.size + 1) b hb
      have h2 := fun w' => setTen_below (c := ⟨⟨e0, sa, 1, sc⟩, 1048576, some ⟨gb, 0, none⟩, 1, 1, cb⟩) w' (w.heap.size + 1) w.heap.size (by omega)
      dsimp only [setTen] at h1 h2 h3 h4
      refine bodyPost_ret (v := .tuple #[MC.v ⟨⟨e0, sa, 1, sc⟩, 1048576, some ⟨gb, 0, none⟩, 1, 1, cb⟩, .int .i64 0]) (by simp [results, Tryz.results58, go_sem, cellOf h1]) rfl ⟨(HBW.out.trans (hBL.out.mono HBW.out.size)).trans (h2 _), fun h => absurd HE0.out h, fun _ => ⟨_, rfl, ?_⟩⟩
      exact HRI.out.same fun b hb => ⟨by rw [h4]; exact ⟨hb.1, hb.2.1⟩, h3 _ b hb.2.2⟩
    · have Q := hid q
      go_wp2_with (first
        | (go_at_call 105; refine HA.out.mono ?_; rintro x w2 ⟨hb2, _, g1⟩; obtain ⟨sa, sc, hx, hsi⟩ := g1 M.out; rw [hx]; rw [← HWBE.out] at hb2 hsi; have k1 := heapAlloc (.cells #[.int .i64 e0, .slice sa 1 sc] 24) (heapExt hb2 O.out.1); have x0 := cellOf k1 0; have x1 := cellOf k1 1; have x2 := cellOf k1 2; have x3 := cellOf k1 3; have x4 := cellOf k1 4; have x5 := cellOf k1 5; clear hx k1)
        | (go_at_call 106; refine (HBD'.out _ (hb2.alloc hb2.size _)).mono ?_; rintro x w3 ⟨rfl, hb3⟩; have hb3' := (hb2.alloc hb2.size (.cells #[.int .i64 e0, .slice sa 1 sc] 24)).trans (hb3.mono (Nat.le_trans hb2.size (by simp))); have k0 := heapExt hb3' O.out.2; have z0 := cellOf k0 0; have y0 := freeOf k0 0; have z1 := cellOf k0 1; have y1 := freeOf k0 1; have z2 := cellOf k0 2; have y2 := freeOf k0 2; have z3 := cellOf k0 3; have y3 := freeOf k0 3; have z4 := cellOf k0 4; have y4 := freeOf k0 4; have z5 := cellOf k0 5; have y5 := freeOf k0 5; have z6 := cellOf k0 6; have y6 := freeOf k0 6; have z7 := cellOf k0 7; have y7 := freeOf k0 7; have z8 := cellOf k0 8; have y8 := freeOf k0 8; have z9 := cellOf k0 9; have y9 := freeOf k0 9; (try dsimp only at z0 z1 z2 z3 z4 z5 z6 z7 z8 z9); have K0 := hid k0; clear k0 x0 x1 x2 x3 x4 x5))
      have h1 := setTen_heap (c := ⟨⟨0, none, 0, 0⟩, 0, none, 0, 0, ⟨0, 0, 0, ⟨#[]⟩, none, 0, 0, none, 0, 0⟩⟩) K0.out
      have hbb := hb3'.size
      have hsw := HSW.out
      have h2 := (HBWB.out.trans (hb3'.mono HBWB.out.size)).trans (setTen_below (c := ⟨⟨0, none, 0, 0⟩, 0, none, 0, 0, ⟨0, 0, 0, ⟨#[]⟩, none, 0, 0, none, 0, 0⟩⟩) _ (w.heap.size + 1) w.heap.size (by omega))
      dsimp only [setTen] at h1 h2
      exact bodyPost_ret (v := .tuple #[zeroMsg, .int .i64 u]) (by simp [results, Tryz.results58, go_sem, cellOf h1]) rfl ⟨h2, fun _ => by rw [HE.out, HU.out], fun h => absurd (HU.out.trans (HE.out.symm.trans h)) Q.out⟩
end Go.Proofs.YthjlgpmajeafpaaGreatDoor
