/-
  manifoldlaw29.sameFate and message.EqualFate say whether two fates are equal. Condition: both can be read as data.
-/
import Derived.Test.YthjlgpmajeafpaaGreatDoorEqSt
import Derived.Test.YthjlgpmajeafpaaGreatDoorSame
namespace Go.Proofs.YthjlgpmajeafpaaGreatDoor
open Go Go.RowKit Go.Shelf
set_option linter.unusedVariables false
set_option linter.unusedSimpArgs false

def ftEqB (d d2 : Fate) : Bool := stEqB d.st d2.st && (decide (d.k = d2.k) && ((d.node.toList == d2.node.toList) && ((d.text.toList == d2.text.toList) && eqL stEqB d.into d2.into)))

set_option maxRecDepth 100000 in
set_option maxHeartbeats 8000000 in
theorem sameFate_call (c c2 : FtC) (d d2 : Fate) (w : World) (hd : IsFt (· < w.heap.size) w c d) (hd2 : IsFt (· < w.heap.size) w c2 d2) : Calls Tryz.prog 27 #[c.v, c2.v] w fun e w' => e = .returned (.bool (ftEqB d d2)) ∧ Below w.heap.size w w' := by
  obtain ⟨⟨se, sa, sn, sc⟩, k, nd, a, n, cap, tx⟩ := c
  obtain ⟨⟨se2, sa2, sn2, sc2⟩, k2, nd2, a2, n2, cap2, tx2⟩ := c2
  obtain ⟨wb, hwb⟩ : ∃ wb, wb = ((w.alloc (.cells #[.int .i64 se, .slice sa sn sc, .int .i64 k, .string nd, .slice a n cap, .string tx] 45)).alloc (.cells #[.int .i64 se2, .slice sa2 sn2 sc2, .int .i64 k2, .string nd2, .slice a2 n2 cap2, .string tx2] 45)) := ⟨_, rfl⟩
  have hb0 : Below w.heap.size w wb := by rw [hwb]; exact ((Below.refl _ w).alloc (Nat.le_refl _) _).alloc (by simp) _
  have g1 : wb.heap[w.heap.size]? = some (.cells #[.int .i64 se, .slice sa sn sc, .int .i64 k, .string nd, .slice a n cap, .string tx] 45) := by rw [hwb]; exact heapAlloc _ (heap_alloc_new w _)
  have g2 : wb.heap[w.heap.size + 1]? = some (.cells #[.int .i64 se2, .slice sa2 sn2 sc2, .int .i64 k2, .string nd2, .slice a2 n2 cap2, .string tx2] 45) := by rw [hwb]; exact heapNewAt _ _ _ (by simp)
  have hbig := hd.into.big
  have hbig2 := hd2.into.big
  have HL := hid hd.into.len
  have HL2 := hid hd2.into.len
  have hq := hid (show ftEqB d d2 = (stEqB d.st d2.st && (decide (k = k2) && ((nd.toList == nd2.toList) && ((tx.toList == tx2.toList) && eqL stEqB d.into d2.into)))) by rw [ftEqB, ← hd.k, ← hd2.k, ← hd.node, ← hd2.node, ← hd.text, ← hd2.text])
  dsimp only at HL HL2 hbig hbig2
  obtain ⟨u, hu⟩ : ∃ u, u = stEqB d.st d2.st := ⟨_, rfl⟩
  rw [← hu] at hq
  have HC : Hid (∀ w', Below wb.heap.size wb w' → (w'.cell? ⟨w.heap.size, 0, none⟩ = some (.int .i64 se) ∧ w'.cell? ⟨w.heap.size, 1, none⟩ = some (.slice sa sn sc) ∧ w'.cell? ⟨w.heap.size, 2, none⟩ = some (.int .i64 k) ∧ w'.cell? ⟨w.heap.size, 3, none⟩ = some (.string nd) ∧ w'.cell? ⟨w.heap.size, 4, none⟩ = some (.slice a n cap) ∧ w'.cell? ⟨w.heap.size, 5, none⟩ = some (.string tx)) ∧ (w'.cell? ⟨w.heap.size + 1, 0, none⟩ = some (.int .i64 se2) ∧ w'.cell? ⟨w.heap.size + 1, 1, none⟩ = some (.slice sa2 sn2 sc2) ∧ w'.cell? ⟨w.heap.size + 1, 2, none⟩ = some (.int .i64 k2) ∧ w'.cell? ⟨w.heap.size + 1, 3, none⟩ = some (.string nd2) ∧ w'.cell? ⟨w.heap.size + 1, 4, none⟩ = some (.slice a2 n2 cap2) ∧ w'.cell? ⟨w.heap.size + 1, 5, none⟩ = some (.string tx2)) ∧ Below w.heap.size w w' ∧ IsRow stK (· < w.heap.size) w' a n cap d.into ∧ IsRow stK (· < w.heap.size) w' a2 n2 cap2 d2.into) := hid fun w' h => by
    have hb := hb0.trans (h.mono hb0.size)
    have h1 := heapExt h g1
    have h2 := heapExt h g2
    exact ⟨⟨cellOf h1 0, cellOf h1 1, cellOf h1 2, cellOf h1 3, cellOf h1 4, cellOf h1 5⟩, ⟨cellOf h2 0, cellOf h2 1, cellOf h2 2, cellOf h2 3, cellOf h2 4, cellOf h2 5⟩, hb, hd.into.same fun b q => ⟨q, hb.block b q⟩, hd2.into.same fun b q => ⟨q, hb.block b q⟩⟩
  have HST : Hid (Calls Tryz.prog 65 #[.agg #[.int .i64 se, .slice sa sn sc], .agg #[.int .i64 se2, .slice sa2 sn2 sc2]] wb fun e w' => e = .returned (.bool u) ∧ Below wb.heap.size wb w') := hid (by
    rw [hu]
    have hs := hb0.size
    exact sameStamp_call ⟨se, sa, sn, sc⟩ ⟨se2, sa2, sn2, sc2⟩ d.st d2.st wb (hd.st.same fun b q => ⟨by omega, hb0.block b q⟩) (hd2.st.same fun b q => ⟨by omega, hb0.block b q⟩))
  have h0 := HC.out _ (Below.refl _ _)
  rw [hwb] at HST h0
  obtain ⟨⟨e0, e1, e2, e3, e4, e5⟩, ⟨f0, f1, f2, f3, f4, f5⟩, _⟩ := h0
  clear hd hd2 hu g1 g2 hb0
  dsimp only [FtC.v]
  go_enter Tryz.func27, Tryz.ntmps27
  cases u with
  | false =>
    have r := hid (show ftEqB d d2 = false by rw [hq.out]; simp [*])
    go_wp2_with (go_at_call 65; refine HST.out.mono ?_; rintro e w1 ⟨rfl, hb1⟩; rw [← hwb] at hb1; obtain ⟨c1, c2, hbw, _, _⟩ := HC.out w1 hb1; clear e0 e1 e2 e3 e4 e5 f0 f1 f2 f3 f4 f5; obtain ⟨j0, j1, j2, j3, j4, j5⟩ := c1; obtain ⟨l0, l1, l2, l3, l4, l5⟩ := c2)
    go_ret
    exact ⟨retB r.out.symm, hbw⟩
  | true =>
  by_cases q1 : k = k2
  · subst q1
    cases hn : (nd.toList == nd2.toList) with
    | false =>
      have r := hid (show ftEqB d d2 = false by rw [hq.out]; simp [*])
      go_wp2_with (go_at_call 65; refine HST.out.mono ?_; rintro e w1 ⟨rfl, hb1⟩; rw [← hwb] at hb1; obtain ⟨c1, c2, hbw, _, _⟩ := HC.out w1 hb1; clear e0 e1 e2 e3 e4 e5 f0 f1 f2 f3 f4 f5; obtain ⟨j0, j1, j2, j3, j4, j5⟩ := c1; obtain ⟨l0, l1, l2, l3, l4, l5⟩ := c2)
      go_ret
      exact ⟨retB r.out.symm, hbw⟩
    | true =>
    cases ht : (tx.toList == tx2.toList) with
    | false =>
      have r := hid (show ftEqB d d2 = false by rw [hq.out]; simp [*])
      go_wp2_with (go_at_call 65; refine HST.out.mono ?_; rintro e w1 ⟨rfl, hb1⟩; rw [← hwb] at hb1; obtain ⟨c1, c2, hbw, _, _⟩ := HC.out w1 hb1; clear e0 e1 e2 e3 e4 e5 f0 f1 f2 f3 f4 f5; obtain ⟨j0, j1, j2, j3, j4, j5⟩ := c1; obtain ⟨l0, l1, l2, l3, l4, l5⟩ := c2)
      go_ret
      exact ⟨retB r.out.symm, hbw⟩
    | true =>
    by_cases q4 : n = n2
    · subst q4
      have HQ2 := hid (show ftEqB d d2 = eqL stEqB d.into d2.into by rw [hq.out]; simp [*])
      go_wp2_with (go_at_call 65; refine HST.out.mono ?_; rintro e w1 ⟨rfl, hb1⟩; rw [← hwb] at hb1; obtain ⟨c1, c2, hbw, _, _⟩ := HC.out w1 hb1; clear e0 e1 e2 e3 e4 e5 f0 f1 f2 f3 f4 f5; obtain ⟨j0, j1, j2, j3, j4, j5⟩ := c1; obtain ⟨l0, l1, l2, l3, l4, l5⟩ := c2)
      clear j0 j1 j2 j3 j4 j5 l0 l1 l2 l3 l4 l5
      have HB1 := hid hb1
      clear hb1 hbw
      go_loopw [5] (fun i wr => ∃ q : Nat, q ≤ n ∧ i = .int .i64 q ∧ (∀ j (h1 : j < d.into.length) (h2 : j < d2.into.length), j < q → stEqB d.into[j] d2.into[j] = true) ∧ Below wb.heap.size wb wr) (fun i _ => n - (intOf i).toNat)
      case atStart => exact ⟨0, Nat.zero_le _, rfl, fun j _ _ h => absurd h (Nat.not_lt_zero j), HB1.out⟩
      case round =>
        obtain ⟨q, hk, rfl, hall, hbr⟩ := hrel
        obtain ⟨wp, rfl⟩ : ∃ w1 : World, w1 = wr := ⟨_, rfl⟩
        have HA := hid hall
        have HBR := hid hbr
        obtain ⟨⟨j0, j1, j2, j3, j4, j5⟩, ⟨l0, l1, l2, l3, l4, l5⟩, hbw, hrx, hry⟩ := HC.out wp hbr
        have hn63 : (n : Int) ≤ 9223372036854775807 := by omega
        clear hall hbr j0 j1 j2 j3 j5 l0 l1 l2 l3 l5
        by_cases hlt : q < n
        · have hkl : q < d.into.length := by have := HL.out; omega
          have hkl2 : q < d2.into.length := by have := HL2.out; omega
          obtain ⟨b, o, rfl, hb, hx⟩ := hrx.slot (show 0 < n by omega)
          obtain ⟨b2, o2, rfl, hb2, hy⟩ := hry.slot (show 0 < n by omega)
          obtain ⟨x, hxa, hxi⟩ := hx q hkl
          obtain ⟨y, hya, hyi⟩ := hy q hkl2
          have hlt' : (q : Int) < (n : Int) := by omega
          have hk0 : (0 : Int) ≤ (q : Int) := by omega
          obtain ⟨v, hv⟩ : ∃ v, v = stEqB d.into[q] d2.into[q] := ⟨_, rfl⟩
          have HC6 : Hid (∀ w', Below wp.heap.size wp w' → w'.cell? ⟨w.heap.size, 4, none⟩ = some (.slice (some ⟨b, o, none⟩) n cap) ∧ w'.cell? ⟨w.heap.size + 1, 4, none⟩ = some (.slice (some ⟨b2, o2, none⟩) n cap2) ∧ w'.cell? ⟨b, o + q * 2, none⟩ = some (.int .i64 x.e) ∧ w'.cell? ⟨b, o + q * 2 + 1, none⟩ = some (.slice x.a x.n x.c) ∧ w'.cell? ⟨b2, o2 + q * 2, none⟩ = some (.int .i64 y.e) ∧ w'.cell? ⟨b2, o2 + q * 2 + 1, none⟩ = some (.slice y.a y.n y.c)) := hid fun w' h => by
            have hb' := HBR.out.trans (h.mono HBR.out.size)
            have hc := HC.out w' hb'
            have h1 := (hxa.same (h.block b (by have := hbw.size; omega))).two
            have h2 := (hya.same (h.block b2 (by have := hbw.size; omega))).two
            exact ⟨hc.1.2.2.2.2.1, hc.2.1.2.2.2.2.1, h1.1, h1.2, h2.1, h2.2⟩
          have HSS : Hid (∀ w', Below wp.heap.size wp w' → Calls Tryz.prog 65 #[.agg #[.int .i64 x.e, .slice x.a x.n x.c], .agg #[.int .i64 y.e, .slice y.a y.n y.c]] w' fun e w2 => e = .returned (.bool v) ∧ Below w'.heap.size w' w2) := hid fun w' h => by
            rw [hv]
            have hs := h.size
            have hs1 := hbw.size
            exact sameStamp_call x y _ _ w' (hxi.same fun b q => ⟨by omega, h.block b (by omega)⟩) (hyi.same fun b q => ⟨by omega, h.block b (by omega)⟩)
          have HU := hid hv
          clear hx hy hxa hxi hya hyi hb hb2 hbw hv hrx hry
          cases v with
          | false =>
            go_upto_region 6 with (fail)
            refine wp_region_split 12 (fun w' => Below wp.heap.size wp w') (by kernel_rfl) (by kernel_rfl) (by kernel_rfl) (by decide) ((Below.refl _ _).drew) (fun hS => ?_)
            simp only [List.take_succ_cons, List.take_zero, List.drop_succ_cons, List.drop_zero]
            refine wpAnyH_take (i := 0) (oi := _) (v := ?_) rfl (by kernel_rfl) (by kernel_rfl) (by kernel_rfl) (fun _ _ _ h => h) (Or.inl ⟨by rfl, ?_⟩) hS ?_
            rotate_left
            · intro w' hw'
              have hcells := HC6.out w' hw'
              go_simp
              (try with_reducible rfl)
            simp only [Act.put, List.getElem_toArray, List.getElem_cons_succ, List.getElem_cons_zero, List.setIfInBounds_toArray, List.set_cons_zero, List.set_cons_succ]
            refine wpAnyH_take (i := 1) (oi := _) (v := ?_) rfl (by kernel_rfl) (by kernel_rfl) (by kernel_rfl) (fun _ _ _ h => h) (Or.inl ⟨by rfl, ?_⟩) hS ?_
            rotate_left
            · intro w' hw'
              have hcells := HC6.out w' hw'
              go_simp
              (try with_reducible rfl)
            simp only [Act.put, List.getElem_toArray, List.getElem_cons_succ, List.getElem_cons_zero, List.setIfInBounds_toArray, List.set_cons_zero, List.set_cons_succ]
            refine wpAnyH_take (i := 2) (oi := _) (v := ?_) rfl (by kernel_rfl) (by kernel_rfl) (by kernel_rfl) (fun _ _ _ h => h) (Or.inl ⟨by rfl, ?_⟩) hS ?_
            rotate_left
            · intro w' hw'
              have hcells := HC6.out w' hw'
              go_simp
              (try with_reducible rfl)
            simp only [Act.put, List.getElem_toArray, List.getElem_cons_succ, List.getElem_cons_zero, List.setIfInBounds_toArray, List.set_cons_zero, List.set_cons_succ]
            refine wpAnyH_take (i := 3) (oi := _) (v := ?_) rfl (by kernel_rfl) (by kernel_rfl) (by kernel_rfl) (fun _ _ _ h => h) (Or.inl ⟨by rfl, ?_⟩) hS ?_
            rotate_left
            · intro w' hw'
              have hcells := HC6.out w' hw'
              go_simp
              (try with_reducible rfl)
            simp only [Act.put, List.getElem_toArray, List.getElem_cons_succ, List.getElem_cons_zero, List.setIfInBounds_toArray, List.set_cons_zero, List.set_cons_succ]
            refine wpAnyH_take (i := 4) (oi := _) (v := ?_) rfl (by kernel_rfl) (by kernel_rfl) (by kernel_rfl) (fun _ _ _ h => h) (Or.inl ⟨by rfl, ?_⟩) hS ?_
            rotate_left
            · intro w' hw'
              have hcells := HC6.out w' hw'
              go_simp
              (try with_reducible rfl)
            simp only [Act.put, List.getElem_toArray, List.getElem_cons_succ, List.getElem_cons_zero, List.setIfInBounds_toArray, List.set_cons_zero, List.set_cons_succ]
            refine wpAnyH_take (i := 5) (oi := _) (v := ?_) rfl (by kernel_rfl) (by kernel_rfl) (by kernel_rfl) (fun _ _ _ h => h) (Or.inl ⟨by rfl, ?_⟩) hS ?_
            rotate_left
            · intro w' hw'
              have hcells := HC6.out w' hw'
              go_simp
              (try with_reducible rfl)
            simp only [Act.put, List.getElem_toArray, List.getElem_cons_succ, List.getElem_cons_zero, List.setIfInBounds_toArray, List.set_cons_zero, List.set_cons_succ]
            refine wpAnyH_take (i := 6) (oi := _) (v := ?_) rfl (by kernel_rfl) (by kernel_rfl) (by kernel_rfl) (fun _ _ _ h => h) (Or.inl ⟨by rfl, ?_⟩) hS ?_
            rotate_left
            · intro w' hw'
              have hcells := HC6.out w' hw'
              go_simp
              (try with_reducible rfl)
            simp only [Act.put, List.getElem_toArray, List.getElem_cons_succ, List.getElem_cons_zero, List.setIfInBounds_toArray, List.set_cons_zero, List.set_cons_succ]
            refine wpAnyH_take (i := 7) (oi := _) (v := ?_) rfl (by kernel_rfl) (by kernel_rfl) (by kernel_rfl) (fun _ _ _ h => h) (Or.inl ⟨by rfl, ?_⟩) hS ?_
            rotate_left
            · intro w' hw'
              have hcells := HC6.out w' hw'
              go_simp
              (try with_reducible rfl)
            simp only [Act.put, List.getElem_toArray, List.getElem_cons_succ, List.getElem_cons_zero, List.setIfInBounds_toArray, List.set_cons_zero, List.set_cons_succ]
            refine wpAnyH_take (i := 8) (oi := _) (v := ?_) rfl (by kernel_rfl) (by kernel_rfl) (by kernel_rfl) (fun _ _ _ h => h) (Or.inl ⟨by rfl, ?_⟩) hS ?_
            rotate_left
            · intro w' hw'
              have hcells := HC6.out w' hw'
              go_simp
              (try with_reducible rfl)
            simp only [Act.put, List.getElem_toArray, List.getElem_cons_succ, List.getElem_cons_zero, List.setIfInBounds_toArray, List.set_cons_zero, List.set_cons_succ]
            refine wpAnyH_take (i := 9) (oi := _) (v := ?_) rfl (by kernel_rfl) (by kernel_rfl) (by kernel_rfl) (fun _ _ _ h => h) (Or.inl ⟨by rfl, ?_⟩) hS ?_
            rotate_left
            · intro w' hw'
              have hcells := HC6.out w' hw'
              go_simp
              (try with_reducible rfl)
            simp only [Act.put, List.getElem_toArray, List.getElem_cons_succ, List.getElem_cons_zero, List.setIfInBounds_toArray, List.set_cons_zero, List.set_cons_succ]
            refine wpAnyH_ready (rs := [10]) (by kernel_rfl) (by simp) ?_
            refine AllReadyH.cons (o := _) rfl (fun K hK => ?_) AllReadyH.nil
            go_simp; go_at_call 65; refine (HSS.out _ hS).mono ?_
            rintro e w4 ⟨rfl, hb4⟩
            refine hK.out _ _ (hS.trans (hb4.mono hS.size)) (fun hS => ?_)
            clear hK K
            (try simp only [Act.put, List.getElem_toArray, List.getElem_cons_succ, List.getElem_cons_zero, List.setIfInBounds_toArray, List.set_cons_zero, List.set_cons_succ])
            refine wpAnyH_take (i := 11) (oi := _) (v := ?_) rfl (by kernel_rfl) (by kernel_rfl) (by kernel_rfl) (fun _ _ _ h => h) (Or.inl ⟨by rfl, ?_⟩) hS ?_
            rotate_left
            · intro w' hw'
              have hcells := HC6.out w' hw'
              go_simp
              (try with_reducible rfl)
            simp only [Act.put, List.getElem_toArray, List.getElem_cons_succ, List.getElem_cons_zero, List.setIfInBounds_toArray, List.set_cons_zero, List.set_cons_succ]
            refine wpAnyH_done (by kernel_rfl) ?_ _
            (try dsimp only)
            have hbz := hS
            go_wp2
            go_ret
            exact ⟨retB (by rw [HQ2.out, eqL_ne q hkl hkl2 HU.out.symm]), (HC.out _ (HBR.out.trans (hbz.mono HBR.out.size))).2.2.1⟩
          | true =>
            go_upto_region 6 with (fail)
            refine wp_region_split 12 (fun w' => Below wp.heap.size wp w') (by kernel_rfl) (by kernel_rfl) (by kernel_rfl) (by decide) ((Below.refl _ _).drew) (fun hS => ?_)
            simp only [List.take_succ_cons, List.take_zero, List.drop_succ_cons, List.drop_zero]
            refine wpAnyH_take (i := 0) (oi := _) (v := ?_) rfl (by kernel_rfl) (by kernel_rfl) (by kernel_rfl) (fun _ _ _ h => h) (Or.inl ⟨by rfl, ?_⟩) hS ?_
            rotate_left
            · intro w' hw'
              have hcells := HC6.out w' hw'
              go_simp
              (try with_reducible rfl)
            simp only [Act.put, List.getElem_toArray, List.getElem_cons_succ, List.getElem_cons_zero, List.setIfInBounds_toArray, List.set_cons_zero, List.set_cons_succ]
            refine wpAnyH_take (i := 1) (oi := _) (v := ?_) rfl (by kernel_rfl) (by kernel_rfl) (by kernel_rfl) (fun _ _ _ h => h) (Or.inl ⟨by rfl, ?_⟩) hS ?_
            rotate_left
            · intro w' hw'
              have hcells := HC6.out w' hw'
              go_simp
              (try with_reducible rfl)
            simp only [Act.put, List.getElem_toArray, List.getElem_cons_succ, List.getElem_cons_zero, List.setIfInBounds_toArray, List.set_cons_zero, List.set_cons_succ]
            refine wpAnyH_take (i := 2) (oi := _) (v := ?_) rfl (by kernel_rfl) (by kernel_rfl) (by kernel_rfl) (fun _ _ _ h => h) (Or.inl ⟨by rfl, ?_⟩) hS ?_
            rotate_left
            · intro w' hw'
              have hcells := HC6.out w' hw'
              go_simp
              (try with_reducible rfl)
            simp only [Act.put, List.getElem_toArray, List.getElem_cons_succ, List.getElem_cons_zero, List.setIfInBounds_toArray, List.set_cons_zero, List.set_cons_succ]
            refine wpAnyH_take (i := 3) (oi := _) (v := ?_) rfl (by kernel_rfl) (by kernel_rfl) (by kernel_rfl) (fun _ _ _ h => h) (Or.inl ⟨by rfl, ?_⟩) hS ?_
            rotate_left
            · intro w' hw'
              have hcells := HC6.out w' hw'
              go_simp
              (try with_reducible rfl)
            simp only [Act.put, List.getElem_toArray, List.getElem_cons_succ, List.getElem_cons_zero, List.setIfInBounds_toArray, List.set_cons_zero, List.set_cons_succ]
            refine wpAnyH_take (i := 4) (oi := _) (v := ?_) rfl (by kernel_rfl) (by kernel_rfl) (by kernel_rfl) (fun _ _ _ h => h) (Or.inl ⟨by rfl, ?_⟩) hS ?_
            rotate_left
            · intro w' hw'
              have hcells := HC6.out w' hw'
              go_simp
              (try with_reducible rfl)
            simp only [Act.put, List.getElem_toArray, List.getElem_cons_succ, List.getElem_cons_zero, List.setIfInBounds_toArray, List.set_cons_zero, List.set_cons_succ]
            refine wpAnyH_take (i := 5) (oi := _) (v := ?_) rfl (by kernel_rfl) (by kernel_rfl) (by kernel_rfl) (fun _ _ _ h => h) (Or.inl ⟨by rfl, ?_⟩) hS ?_
            rotate_left
            · intro w' hw'
              have hcells := HC6.out w' hw'
              go_simp
              (try with_reducible rfl)
            simp only [Act.put, List.getElem_toArray, List.getElem_cons_succ, List.getElem_cons_zero, List.setIfInBounds_toArray, List.set_cons_zero, List.set_cons_succ]
            refine wpAnyH_take (i := 6) (oi := _) (v := ?_) rfl (by kernel_rfl) (by kernel_rfl) (by kernel_rfl) (fun _ _ _ h => h) (Or.inl ⟨by rfl, ?_⟩) hS ?_
            rotate_left
            · intro w' hw'
              have hcells := HC6.out w' hw'
              go_simp
              (try with_reducible rfl)
            simp only [Act.put, List.getElem_toArray, List.getElem_cons_succ, List.getElem_cons_zero, List.setIfInBounds_toArray, List.set_cons_zero, List.set_cons_succ]
            refine wpAnyH_take (i := 7) (oi := _) (v := ?_) rfl (by kernel_rfl) (by kernel_rfl) (by kernel_rfl) (fun _ _ _ h => h) (Or.inl ⟨by rfl, ?_⟩) hS ?_
            rotate_left
            · intro w' hw'
              have hcells := HC6.out w' hw'
              go_simp
              (try with_reducible rfl)
            simp only [Act.put, List.getElem_toArray, List.getElem_cons_succ, List.getElem_cons_zero, List.setIfInBounds_toArray, List.set_cons_zero, List.set_cons_succ]
            refine wpAnyH_take (i := 8) (oi := _) (v := ?_) rfl (by kernel_rfl) (by kernel_rfl) (by kernel_rfl) (fun _ _ _ h => h) (Or.inl ⟨by rfl, ?_⟩) hS ?_
            rotate_left
            · intro w' hw'
              have hcells := HC6.out w' hw'
              go_simp
              (try with_reducible rfl)
            simp only [Act.put, List.getElem_toArray, List.getElem_cons_succ, List.getElem_cons_zero, List.setIfInBounds_toArray, List.set_cons_zero, List.set_cons_succ]
            refine wpAnyH_take (i := 9) (oi := _) (v := ?_) rfl (by kernel_rfl) (by kernel_rfl) (by kernel_rfl) (fun _ _ _ h => h) (Or.inl ⟨by rfl, ?_⟩) hS ?_
            rotate_left
            · intro w' hw'
              have hcells := HC6.out w' hw'
              go_simp
              (try with_reducible rfl)
            simp only [Act.put, List.getElem_toArray, List.getElem_cons_succ, List.getElem_cons_zero, List.setIfInBounds_toArray, List.set_cons_zero, List.set_cons_succ]
            refine wpAnyH_ready (rs := [10]) (by kernel_rfl) (by simp) ?_
            refine AllReadyH.cons (o := _) rfl (fun K hK => ?_) AllReadyH.nil
            go_simp; go_at_call 65; refine (HSS.out _ hS).mono ?_
            rintro e w4 ⟨rfl, hb4⟩
            refine hK.out _ _ (hS.trans (hb4.mono hS.size)) (fun hS => ?_)
            clear hK K
            (try simp only [Act.put, List.getElem_toArray, List.getElem_cons_succ, List.getElem_cons_zero, List.setIfInBounds_toArray, List.set_cons_zero, List.set_cons_succ])
            refine wpAnyH_take (i := 11) (oi := _) (v := ?_) rfl (by kernel_rfl) (by kernel_rfl) (by kernel_rfl) (fun _ _ _ h => h) (Or.inl ⟨by rfl, ?_⟩) hS ?_
            rotate_left
            · intro w' hw'
              have hcells := HC6.out w' hw'
              go_simp
              (try with_reducible rfl)
            simp only [Act.put, List.getElem_toArray, List.getElem_cons_succ, List.getElem_cons_zero, List.setIfInBounds_toArray, List.set_cons_zero, List.set_cons_succ]
            refine wpAnyH_done (by kernel_rfl) ?_ _
            (try dsimp only)
            have HBZ := hid hS
            clear hS
            go_wp2
            go_roundw
            case rel => exact ⟨q + 1, by omega, by go_num, fun j h1 h2 h => by
              by_cases hjk : j < q
              · exact HA.out j h1 h2 hjk
              · obtain rfl : j = q := by omega
                exact HU.out.symm, HBR.out.trans (HBZ.out.mono HBR.out.size)⟩
            case measure => simp [intOf]; omega
        · obtain rfl : q = n := by omega
          have r := hid (eqL_of (f := stEqB) (HL.out.symm.trans HL2.out) fun j h1 h2 => HA.out j h1 h2 (by have := HL.out; omega))
          clear hrx hry
          go_wp2
          go_ret
          exact ⟨retB (by rw [HQ2.out, r.out]), hbw⟩
    · have q4' : ¬ (n : Int) = (n2 : Int) := by omega
      have r := hid (show ftEqB d d2 = false by rw [hq.out, eqL_len (by rw [← HL.out, ← HL2.out]; exact q4)]; simp)
      go_wp2_with (go_at_call 65; refine HST.out.mono ?_; rintro e w1 ⟨rfl, hb1⟩; rw [← hwb] at hb1; obtain ⟨c1, c2, hbw, _, _⟩ := HC.out w1 hb1; clear e0 e1 e2 e3 e4 e5 f0 f1 f2 f3 f4 f5; obtain ⟨j0, j1, j2, j3, j4, j5⟩ := c1; obtain ⟨l0, l1, l2, l3, l4, l5⟩ := c2)
      go_ret
      exact ⟨retB r.out.symm, hbw⟩
  · have r := hid (show ftEqB d d2 = false by rw [hq.out]; simp [*])
    go_wp2_with (go_at_call 65; refine HST.out.mono ?_; rintro e w1 ⟨rfl, hb1⟩; rw [← hwb] at hb1; obtain ⟨c1, c2, hbw, _, _⟩ := HC.out w1 hb1; clear e0 e1 e2 e3 e4 e5 f0 f1 f2 f3 f4 f5; obtain ⟨j0, j1, j2, j3, j4, j5⟩ := c1; obtain ⟨l0, l1, l2, l3, l4, l5⟩ := c2)
    go_ret
    exact ⟨retB r.out.symm, hbw⟩

set_option maxRecDepth 100000 in
set_option maxHeartbeats 8000000 in
theorem equalFate_call (c c2 : FtC) (d d2 : Fate) (w : World) (hd : IsFt (· < w.heap.size) w c d) (hd2 : IsFt (· < w.heap.size) w c2 d2) : Calls Tryz.prog 28 #[c.v, c2.v] w fun e w' => e = .returned (.bool (ftEqB d d2)) ∧ Below w.heap.size w w' := by
  obtain ⟨⟨se, sa, sn, sc⟩, k, nd, a, n, cap, tx⟩ := c
  obtain ⟨⟨se2, sa2, sn2, sc2⟩, k2, nd2, a2, n2, cap2, tx2⟩ := c2
  obtain ⟨wb, hwb⟩ : ∃ wb, wb = ((w.alloc (.cells #[.int .i64 se, .slice sa sn sc, .int .i64 k, .string nd, .slice a n cap, .string tx] 45)).alloc (.cells #[.int .i64 se2, .slice sa2 sn2 sc2, .int .i64 k2, .string nd2, .slice a2 n2 cap2, .string tx2] 45)) := ⟨_, rfl⟩
  have hb0 : Below w.heap.size w wb := by rw [hwb]; exact ((Below.refl _ w).alloc (Nat.le_refl _) _).alloc (by simp) _
  have g1 : wb.heap[w.heap.size]? = some (.cells #[.int .i64 se, .slice sa sn sc, .int .i64 k, .string nd, .slice a n cap, .string tx] 45) := by rw [hwb]; exact heapAlloc _ (heap_alloc_new w _)
  have g2 : wb.heap[w.heap.size + 1]? = some (.cells #[.int .i64 se2, .slice sa2 sn2 sc2, .int .i64 k2, .string nd2, .slice a2 n2 cap2, .string tx2] 45) := by rw [hwb]; exact heapNewAt _ _ _ (by simp)
  have hbig := hd.into.big
  have hbig2 := hd2.into.big
  have HL := hid hd.into.len
  have HL2 := hid hd2.into.len
  have hq := hid (show ftEqB d d2 = (stEqB d.st d2.st && (decide (k = k2) && ((nd.toList == nd2.toList) && ((tx.toList == tx2.toList) && eqL stEqB d.into d2.into)))) by rw [ftEqB, ← hd.k, ← hd2.k, ← hd.node, ← hd2.node, ← hd.text, ← hd2.text])
  dsimp only at HL HL2 hbig hbig2
  obtain ⟨u, hu⟩ : ∃ u, u = stEqB d.st d2.st := ⟨_, rfl⟩
  rw [← hu] at hq
  have HC : Hid (∀ w', Below wb.heap.size wb w' → (w'.cell? ⟨w.heap.size, 0, none⟩ = some (.int .i64 se) ∧ w'.cell? ⟨w.heap.size, 1, none⟩ = some (.slice sa sn sc) ∧ w'.cell? ⟨w.heap.size, 2, none⟩ = some (.int .i64 k) ∧ w'.cell? ⟨w.heap.size, 3, none⟩ = some (.string nd) ∧ w'.cell? ⟨w.heap.size, 4, none⟩ = some (.slice a n cap) ∧ w'.cell? ⟨w.heap.size, 5, none⟩ = some (.string tx)) ∧ (w'.cell? ⟨w.heap.size + 1, 0, none⟩ = some (.int .i64 se2) ∧ w'.cell? ⟨w.heap.size + 1, 1, none⟩ = some (.slice sa2 sn2 sc2) ∧ w'.cell? ⟨w.heap.size + 1, 2, none⟩ = some (.int .i64 k2) ∧ w'.cell? ⟨w.heap.size + 1, 3, none⟩ = some (.string nd2) ∧ w'.cell? ⟨w.heap.size + 1, 4, none⟩ = some (.slice a2 n2 cap2) ∧ w'.cell? ⟨w.heap.size + 1, 5, none⟩ = some (.string tx2)) ∧ Below w.heap.size w w' ∧ IsRow stK (· < w.heap.size) w' a n cap d.into ∧ IsRow stK (· < w.heap.size) w' a2 n2 cap2 d2.into) := hid fun w' h => by
    have hb := hb0.trans (h.mono hb0.size)
    have h1 := heapExt h g1
    have h2 := heapExt h g2
    exact ⟨⟨cellOf h1 0, cellOf h1 1, cellOf h1 2, cellOf h1 3, cellOf h1 4, cellOf h1 5⟩, ⟨cellOf h2 0, cellOf h2 1, cellOf h2 2, cellOf h2 3, cellOf h2 4, cellOf h2 5⟩, hb, hd.into.same fun b q => ⟨q, hb.block b q⟩, hd2.into.same fun b q => ⟨q, hb.block b q⟩⟩
  have HST : Hid (Calls Tryz.prog 70 #[.agg #[.int .i64 se, .slice sa sn sc], .agg #[.int .i64 se2, .slice sa2 sn2 sc2]] wb fun e w' => e = .returned (.bool u) ∧ Below wb.heap.size wb w') := hid (by
    rw [hu]
    have hs := hb0.size
    exact stEqual_call ⟨se, sa, sn, sc⟩ ⟨se2, sa2, sn2, sc2⟩ d.st d2.st wb (hd.st.same fun b q => ⟨by omega, hb0.block b q⟩) (hd2.st.same fun b q => ⟨by omega, hb0.block b q⟩))
  have h0 := HC.out _ (Below.refl _ _)
  rw [hwb] at HST h0
  obtain ⟨⟨e0, e1, e2, e3, e4, e5⟩, ⟨f0, f1, f2, f3, f4, f5⟩, _⟩ := h0
  clear hd hd2 hu g1 g2 hb0
  dsimp only [FtC.v]
  go_enter Tryz.func28, Tryz.ntmps28
  cases u with
  | false =>
    have r := hid (show ftEqB d d2 = false by rw [hq.out]; simp [*])
    go_wp2_with (go_at_call 70; refine HST.out.mono ?_; rintro e w1 ⟨rfl, hb1⟩; rw [← hwb] at hb1; obtain ⟨c1, c2, hbw, _, _⟩ := HC.out w1 hb1; clear e0 e1 e2 e3 e4 e5 f0 f1 f2 f3 f4 f5; obtain ⟨j0, j1, j2, j3, j4, j5⟩ := c1; obtain ⟨l0, l1, l2, l3, l4, l5⟩ := c2)
    go_ret
    exact ⟨retB r.out.symm, hbw⟩
  | true =>
  by_cases q1 : k = k2
  · subst q1
    cases hn : (nd.toList == nd2.toList) with
    | false =>
      have r := hid (show ftEqB d d2 = false by rw [hq.out]; simp [*])
      go_wp2_with (go_at_call 70; refine HST.out.mono ?_; rintro e w1 ⟨rfl, hb1⟩; rw [← hwb] at hb1; obtain ⟨c1, c2, hbw, _, _⟩ := HC.out w1 hb1; clear e0 e1 e2 e3 e4 e5 f0 f1 f2 f3 f4 f5; obtain ⟨j0, j1, j2, j3, j4, j5⟩ := c1; obtain ⟨l0, l1, l2, l3, l4, l5⟩ := c2)
      go_ret
      exact ⟨retB r.out.symm, hbw⟩
    | true =>
    cases ht : (tx.toList == tx2.toList) with
    | false =>
      have r := hid (show ftEqB d d2 = false by rw [hq.out]; simp [*])
      go_wp2_with (go_at_call 70; refine HST.out.mono ?_; rintro e w1 ⟨rfl, hb1⟩; rw [← hwb] at hb1; obtain ⟨c1, c2, hbw, _, _⟩ := HC.out w1 hb1; clear e0 e1 e2 e3 e4 e5 f0 f1 f2 f3 f4 f5; obtain ⟨j0, j1, j2, j3, j4, j5⟩ := c1; obtain ⟨l0, l1, l2, l3, l4, l5⟩ := c2)
      go_ret
      exact ⟨retB r.out.symm, hbw⟩
    | true =>
    obtain ⟨v, hv⟩ : ∃ v, v = eqL stEqB d.into d2.into := ⟨_, rfl⟩
    have r := hid (show ftEqB d d2 = v by rw [hq.out, ← hv]; simp [*])
    have HEV : Hid (∀ w', Below wb.heap.size wb w' → Calls Tryz.prog 71 #[.slice a n cap, .slice a2 n2 cap2, .func (.func 70) #[] #[]] w' fun e w2 => e = .returned (.bool v) ∧ Below w'.heap.size w' w2) := hid fun w' h => by
      rw [hv]
      obtain ⟨_, _, hb, h1, h2⟩ := HC.out w' h
      have hs := hb.size
      exact eqFnSt_call a a2 n cap n2 cap2 d.into d2.into w' (h1.same fun b q => ⟨by omega, rfl⟩) (h2.same fun b q => ⟨by omega, rfl⟩)
    clear hv
    go_wp2_with (first
      | (go_at_call 70; refine HST.out.mono ?_; rintro e w1 ⟨rfl, hb1⟩; rw [← hwb] at hb1; obtain ⟨c1, c2, hbw, _, _⟩ := HC.out w1 hb1; clear e0 e1 e2 e3 e4 e5 f0 f1 f2 f3 f4 f5; obtain ⟨j0, j1, j2, j3, j4, j5⟩ := c1; obtain ⟨l0, l1, l2, l3, l4, l5⟩ := c2)
      | (go_at_call 71; refine (HEV.out _ hb1).mono ?_; rintro e w2 ⟨rfl, hb2⟩))
    go_ret
    exact ⟨retB r.out.symm, hbw.trans (hb2.mono hbw.size)⟩
  · have r := hid (show ftEqB d d2 = false by rw [hq.out]; simp [*])
    go_wp2_with (go_at_call 70; refine HST.out.mono ?_; rintro e w1 ⟨rfl, hb1⟩; rw [← hwb] at hb1; obtain ⟨c1, c2, hbw, _, _⟩ := HC.out w1 hb1; clear e0 e1 e2 e3 e4 e5 f0 f1 f2 f3 f4 f5; obtain ⟨j0, j1, j2, j3, j4, j5⟩ := c1; obtain ⟨l0, l1, l2, l3, l4, l5⟩ := c2)
    go_ret
    exact ⟨retB r.out.symm, hbw⟩
end Go.Proofs.YthjlgpmajeafpaaGreatDoor
