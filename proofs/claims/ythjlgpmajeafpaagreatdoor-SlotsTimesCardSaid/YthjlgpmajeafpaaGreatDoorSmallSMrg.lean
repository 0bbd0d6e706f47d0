/-
  manifoldlaw30.known returns true: the example of the chapter. Condition: Tabs.
-/
import Derived.Test.YthjlgpmajeafpaaGreatDoorSlotDMrg
import Derived.Test.YthjlgpmajeafpaaGreatDoorSlotFMrg
import Derived.Test.YthjlgpmajeafpaaGreatDoorStampMrg
import Derived.Test.YthjlgpmajeafpaaGreatDoorProg
import Derived.WalkKit
import Derived.Sort.CutIn
import Derived.Deep.LoopGhost
import Derived.Test.YthjlgpmajeafpaaGreatDoorSlotMrg
import Derived.Test.YthjlgpmajeafpaaGreatDoorReflMrg
namespace Go.Proofs.YthjlgpmajeafpaaGreatDoor
open Go Go.RowKit Go.Shelf
set_option linter.unusedVariables false
set_option linter.unusedSimpArgs false

theorem int1_call (i : Int) (w : World) : Calls Tryz.prog 17 #[.int .i64 i] w fun e w' => e = .returned (.agg #[.int .i64 2, .int .i64 i, .int .i64 0, .string ⟨#[]⟩, .slice none 0 0, .slice none 0 0]) ∧ Below w.heap.size w w' := by
  go_enter Tryz.func17, Tryz.ntmps17
  go_wp2
  have hB := heap_alloc_new w (.cells #[.int .i64 2, .int .i64 i, .int .i64 0, .string ⟨#[]⟩, .slice none 0 0, .slice none 0 0] 28)
  exact bodyPost_ret (v := .agg #[.int .i64 2, .int .i64 i, .int .i64 0, .string ⟨#[]⟩, .slice none 0 0, .slice none 0 0]) (by simp [results, Tryz.results17, go_sem, cellOf hB]) rfl ⟨rfl, (Below.refl _ w).alloc (Nat.le_refl _) _⟩
theorem knownS_get : findB knownS.l keyA = true ∧ findI knownS.l keyA = 0 := ⟨by kernel_rfl, by kernel_rfl⟩

set_option maxRecDepth 100000 in
set_option maxHeartbeats 8000000 in
theorem knownS_call (w : World) (hT : Tabs w) : Calls Tryz.prog 29 #[] w fun e w' => e = .returned (.bool true) ∧ Below w.heap.size w w' := by
  have HT := hid hT
  clear hT
  go_enter Tryz.func29, Tryz.ntmps29
  go_upto_region 2 with (first
    | (go_at_call 17; refine (int1_call 7 _).mono ?_; rintro e w2 ⟨rfl, hb2⟩)
    | (go_at_call 72; refine (textV_call _ _).mono ?_; rintro e w1 ⟨rfl, hb1⟩))
  obtain ⟨w3, hw3⟩ : ∃ w3, w3 = ((w2.alloc v7Obj).alloc (slObj w2.heap.size)).alloc (sBox (w2.heap.size + 1)) := ⟨_, rfl⟩
  rw [← hw3]
  have hb02 : Below w.heap.size w w2 := hb1.trans (hb2.mono hb1.size)
  have hz2 := hb02.size
  have hb3 : Below w.heap.size w w3 := by rw [hw3]; exact ((hb02.alloc hz2 _).alloc (by simp; omega) _).alloc (by simp; omega) _
  have G0 : w3.heap[w2.heap.size]? = some v7Obj := by rw [hw3]; exact heapAlloc _ (heapAlloc _ (heap_alloc_new _ _))
  have G1 : w3.heap[w2.heap.size + 1]? = some (slObj w2.heap.size) := by rw [hw3]; exact heapAlloc _ (heapNewAt _ _ _ (by simp))
  have G2 : w3.heap[w2.heap.size + 2]? = some (sBox (w2.heap.size + 1)) := by rw [hw3]; exact heapNewAt _ _ _ (by simp)
  have HENC := hid (encK_call w3 (HT.out.below hb3) _ _ G1 G0)
  have HB3 := hid hb3
  have HG := hid (And.intro G0 (And.intro G1 G2))
  have b0 := cellOf G2 0; have b1 := cellOf G2 1; have b2 := cellOf G2 2
  (try dsimp only at b0 b1 b2)
  clear hw3 hb3 hz2 hb02 hb1 hb2 G0 G1 G2
  go_upto_region 3 with (go_at_call 73; refine HENC.out.mono ?_; rintro e w4 ⟨rfl, hb4⟩)
  clear b0 b1 b2
  have hb04 := HB3.out.trans (hb4.mono HB3.out.size)
  obtain ⟨G0, G1, G2⟩ := HG.out
  have HBX : Hid (∀ w', Below w4.heap.size w4 w' → w'.heap[w2.heap.size + 2]? = some (sBox (w2.heap.size + 1))) := hid fun w' h => heapExt h (heapExt hb4 G2)
  have HSTA : Hid (∀ w', Below w4.heap.size w4 w' → IsSta (· < w'.heap.size) w' ⟨2, 0, some ⟨w2.heap.size + 1, 0, none⟩, 1, 1⟩ knownS) := hid fun w' h => knownS_is (S := (· < w'.heap.size)) (ltOf (heapExt h (heapExt hb4 G1))) (ltOf (heapExt h (heapExt hb4 G0))) (heapExt h (heapExt hb4 G1)) (heapExt h (heapExt hb4 G0))
  have HGET : Hid (∀ w', Below w4.heap.size w4 w' → Calls Tryz.prog 36 #[.agg #[.int .i64 2, .int .i64 0, .slice (some ⟨w2.heap.size + 1, 0, none⟩) 1 1], .agg #[.int .i64 4, .int .i64 0, .int .i64 0, .string ⟨#[97]⟩, .slice none 0 0, .slice none 0 0]] w' fun e w'' => ∃ c6 : SlC, e = .returned (.tuple #[c6.v, .bool true]) ∧ c6.t = 50 ∧ Below w'.heap.size w' w'') := hid fun w' h =>
    (get_call ⟨2, 0, some ⟨w2.heap.size + 1, 0, none⟩, 1, 1⟩ knownS ⟨4, 0, 0, ⟨#[97]⟩, none, 0, 0, none, 0, 0⟩ keyA w' (HSTA.out w' h) (keyA_is _ _)).mono fun e w'' ⟨c, d, he, hb, hi, h1, _⟩ => by
      have h2 := h1 knownS_get.1
      rw [knownS_get.2] at h2
      have h3 : d = ⟨keyA, 1, 50, [], [val7]⟩ := by injection h2 with h2; exact h2.symm
      refine ⟨c, by rw [he, knownS_get.1], ?_, hb⟩
      rw [hi.t, h3]
  have HCK : Hid (∀ w', Below w4.heap.size w4 w' → Calls Tryz.prog 31 #[.agg #[.int .i64 2, .int .i64 0, .slice (some ⟨w2.heap.size + 1, 0, none⟩) 1 1]] w' fun e w'' => e = .returned (.int .i64 0) ∧ Below w'.heap.size w' w'') := hid fun w' h => by
    have h1 := slotsCheck_call _ _ w' (HSTA.out w' h) (HT.out.below (hb04.trans (h.mono hb04.size)))
    rw [knownS_check] at h1
    exact h1
  have HC : Hid (∀ w', Below w4.heap.size w4 w' → w'.cell? ⟨w2.heap.size + 2, 0, none⟩ = some (.int .i64 2) ∧ w'.cell? ⟨w2.heap.size + 2, 1, none⟩ = some (.int .i64 0) ∧ w'.cell? ⟨w2.heap.size + 2, 2, none⟩ = some (.slice (some ⟨w2.heap.size + 1, 0, none⟩) 1 1)) := hid fun w' h => by
    have h1 := HBX.out w' h
    exact ⟨cellOf h1 0, cellOf h1 1, cellOf h1 2⟩
  have HB4 := hid hb04
  clear hb04 hb4 G0 G1 G2 HENC HB3 HG HSTA
  refine wp_region_held_drew (S := (fun w' => Below w4.heap.size w4 w')) (by kernel_rfl) ((Below.refl _ _).drew) (fun hS => ?_)
  refine wpAnyH_take (i := 0) (oi := _) (v := ?_) rfl (by kernel_rfl) (by kernel_rfl) (by kernel_rfl) (fun _ _ _ h => h) (Or.inl ⟨by rfl, ?_⟩) hS ?_
  rotate_left
  · intro w' hw'
    have hcells := HC.out w' hw'
    go_simp
    (try with_reducible rfl)
  simp only [Act.put, List.getElem_toArray, List.getElem_cons_succ, List.getElem_cons_zero, List.setIfInBounds_toArray, List.set_cons_zero, List.set_cons_succ]
  refine wpAnyH_ready (rs := [1, 6]) (by kernel_rfl) (by simp) ?_
  refine AllReadyH.cons (o := _) rfl (fun K hK => ?_) ?_
  · go_simp; go_at_call 72; refine (textV_call _ _).mono ?_
    rintro e w5 ⟨rfl, hb5⟩
    have HS5 := hid (hS.trans (hb5.mono hS.size))
    refine hK.out _ _ (hS.trans (hb5.mono hS.size)) (fun hS => ?_)
    clear hK K
    (try simp only [Act.put, List.getElem_toArray, List.getElem_cons_succ, List.getElem_cons_zero, List.setIfInBounds_toArray, List.set_cons_zero, List.set_cons_succ])
    refine wpAnyH_ready (rs := [2, 6]) (by kernel_rfl) (by simp) ?_
    refine AllReadyH.cons (o := _) rfl (fun K hK => ?_) ?_
    · go_simp; go_at_call 36; refine (HGET.out _ hS).mono ?_
      rintro e w6 ⟨c6, rfl, ht6, hb6⟩
      have HS6 := hid (hS.trans (hb6.mono hS.size))
      obtain ⟨⟨kk, ki, ks, kt, kla, kll, klc, kfa, kfl, kfc⟩, cn, ct, ia, il, ic, va, vl, vc⟩ := c6
      dsimp only at ht6
      subst ht6
      dsimp only [SlC.v]
      refine hK.out _ _ (hS.trans (hb6.mono hS.size)) (fun hS => ?_)
      clear hK K
      (try simp only [Act.put, List.getElem_toArray, List.getElem_cons_succ, List.getElem_cons_zero, List.setIfInBounds_toArray, List.set_cons_zero, List.set_cons_succ])
      refine wpAnyH_take (i := 3) (oi := _) (v := ?_) rfl (by kernel_rfl) (by kernel_rfl) (by kernel_rfl) (fun _ _ _ h => h) (Or.inl ⟨by rfl, ?_⟩) hS ?_
      rotate_left
      · intro w' hw'
        have hcells := HC.out w' hw'
        go_simp
        (try with_reducible rfl)
      simp only [Act.put, List.getElem_toArray, List.getElem_cons_succ, List.getElem_cons_zero, List.setIfInBounds_toArray, List.set_cons_zero, List.set_cons_succ]
      refine wpAnyH_take (i := 4) (oi := _) (v := ?_) rfl (by kernel_rfl) (by kernel_rfl) (by kernel_rfl) (fun _ _ _ h => h) (Or.inl ⟨by rfl, ?_⟩) hS ?_
      rotate_left
      · intro w' hw'
        have hcells := HC.out w' hw'
        go_simp
        (try with_reducible rfl)
      simp only [Act.put, List.getElem_toArray, List.getElem_cons_succ, List.getElem_cons_zero, List.setIfInBounds_toArray, List.set_cons_zero, List.set_cons_succ]
      refine wpAnyH_take (i := 5) (oi := _) (v := ?_) rfl (by kernel_rfl) (by kernel_rfl) (by kernel_rfl) (fun _ _ _ h => h) (Or.inl ⟨by rfl, ?_⟩) hS ?_
      rotate_left
      · intro w' hw'
        have hcells := HC.out w' hw'
        go_simp
        (try with_reducible rfl)
      simp only [Act.put, List.getElem_toArray, List.getElem_cons_succ, List.getElem_cons_zero, List.setIfInBounds_toArray, List.set_cons_zero, List.set_cons_succ]
      refine wpAnyH_ready (rs := [6]) (by kernel_rfl) (by simp) ?_
      refine AllReadyH.cons (o := _) rfl (fun K hK => ?_) AllReadyH.nil
      go_simp
      refine hK.out _ _ (hS.trans (((Below.refl _ _).alloc (Nat.le_refl _) _).mono hS.size)) (fun hS => ?_)
      clear hK K
      (try simp only [Act.put, List.getElem_toArray, List.getElem_cons_succ, List.getElem_cons_zero, List.setIfInBounds_toArray, List.set_cons_zero, List.set_cons_succ])
      refine wpAnyH_ready (rs := [7]) (by kernel_rfl) (by simp) ?_
      refine AllReadyH.cons (o := _) rfl (fun K hK => ?_) AllReadyH.nil
      generalize hw7 : World.alloc _ _ = w7 at hS ⊢
      have hz : w7.heap[w6.heap.size]? = some (.cells #[.int .i64 0, .int .i64 0, .int .i64 0, .string ⟨#[]⟩, .slice none 0 0, .slice none 0 0, .int .i64 0, .int .i64 0, .slice none 0 0, .slice none 0 0] 58) := by rw [← hw7]; exact heap_alloc_new _ _
      clear hw7
      have y0 := cellOf hz 0; have y1 := cellOf hz 1; have y2 := cellOf hz 2; have y3 := cellOf hz 3; have y4 := cellOf hz 4; have y5 := cellOf hz 5; have y6 := cellOf hz 6; have y7 := cellOf hz 7; have y8 := cellOf hz 8; have y9 := cellOf hz 9
      have u0 := freeOf hz 0; have u1 := freeOf hz 1; have u2 := freeOf hz 2; have u3 := freeOf hz 3; have u4 := freeOf hz 4; have u5 := freeOf hz 5; have u6 := freeOf hz 6; have u7 := freeOf hz 7; have u8 := freeOf hz 8; have u9 := freeOf hz 9
      (try dsimp only at y0 y1 y2 y3 y4 y5 y6 y7 y8 y9)
      go_simp
      clear y0 u0 y1 u1 y2 u2 y3 u3 y4 u4 y5 u5 y6 u6 y7 u7 y8 u8 y9 u9
      obtain ⟨w8, hw8⟩ : ∃ w8, w8 = putTen w7 (w6.heap.size) (.int .i64 kk) (.int .i64 ki) (.int .i64 ks) (.string kt) (.slice kla kll klc) (.slice kfa kfl kfc) (.int .i64 cn) (.int .i64 50) (.slice ia il ic) (.slice va vl vc) := ⟨_, rfl⟩
      have h1 := putTen_heap (B := w6.heap.size) (w := w7) (v0 := .int .i64 kk) (v1 := .int .i64 ki) (v2 := .int .i64 ks) (v3 := .string kt) (v4 := .slice kla kll klc) (v5 := .slice kfa kfl kfc) (v6 := .int .i64 cn) (v7 := .int .i64 50) (v8 := .slice ia il ic) (v9 := .slice va vl vc) hz
      rw [← hw8] at h1
      have h8 : Below w4.heap.size w4 w8 := by rw [hw8]; exact hS.trans (putTen_below (.int .i64 kk) (.int .i64 ki) (.int .i64 ks) (.string kt) (.slice kla kll klc) (.slice kfa kfl kfc) (.int .i64 cn) (.int .i64 50) (.slice ia il ic) (.slice va vl vc) w7 (w6.heap.size) w4.heap.size (HS6.out.size))
      dsimp only [putTen] at hw8
      rw [← hw8]
      clear hw8
      have q7 := cellOf h1 7
      (try dsimp only at q7)
      clear h1
      refine hK.out _ _ (h8) (fun hS => ?_)
      clear hK K
      (try simp only [Act.put, List.getElem_toArray, List.getElem_cons_succ, List.getElem_cons_zero, List.setIfInBounds_toArray, List.set_cons_zero, List.set_cons_succ])
      refine wpAnyH_take (i := 8) (oi := _) (v := ?_) rfl (by kernel_rfl) (by kernel_rfl) (by kernel_rfl) (fun _ _ _ h => h) (Or.inl ⟨by rfl, ?_⟩) hS ?_
      rotate_left
      · intro w' hw'
        have hcells := HC.out w' hw'
        go_simp
        (try with_reducible rfl)
      simp only [Act.put, List.getElem_toArray, List.getElem_cons_succ, List.getElem_cons_zero, List.setIfInBounds_toArray, List.set_cons_zero, List.set_cons_succ]
      refine wpAnyH_done (by kernel_rfl) ?_ _
      (try dsimp only)
      have hg := HBX.out _ hS
      have b0 := cellOf hg 0
      have b1 := cellOf hg 1
      have b2 := cellOf hg 2
      (try dsimp only at b0 b1 b2)
      have HCK8 := hid (HCK.out _ hS)
      have H8 := hid hS
      clear hS h8 hg HCK HBX HGET
      go_wp2_with (go_at_call 31; refine HCK8.out.mono ?_; rintro e w9 ⟨rfl, hb9⟩)
      go_ret
      exact ⟨rfl, HB4.out.trans ((H8.out.trans (hb9.mono H8.out.size)).mono HB4.out.size)⟩
    refine AllReadyH.cons (o := _) rfl (fun K hK => ?_) AllReadyH.nil
    go_simp
    refine hK.out _ _ (hS.trans (((Below.refl _ _).alloc (Nat.le_refl _) _).mono hS.size)) (fun hS => ?_)
    clear hK K
    (try simp only [Act.put, List.getElem_toArray, List.getElem_cons_succ, List.getElem_cons_zero, List.setIfInBounds_toArray, List.set_cons_zero, List.set_cons_succ])
    refine wpAnyH_ready (rs := [2]) (by kernel_rfl) (by simp) ?_
    refine AllReadyH.cons (o := _) rfl (fun K hK => ?_) AllReadyH.nil
    generalize hw51 : World.alloc _ _ = w51 at hS ⊢
    have hz : w51.heap[w5.heap.size]? = some (.cells #[.int .i64 0, .int .i64 0, .int .i64 0, .string ⟨#[]⟩, .slice none 0 0, .slice none 0 0, .int .i64 0, .int .i64 0, .slice none 0 0, .slice none 0 0] 58) := by rw [← hw51]; exact heap_alloc_new _ _
    clear hw51
    go_simp; go_at_call 36; refine (HGET.out _ hS).mono ?_
    rintro e w6 ⟨c6, rfl, ht6, hb6⟩
    replace hz := heapExt hb6 hz
    have HS6 := hid (hS.trans (hb6.mono hS.size))
    obtain ⟨⟨kk, ki, ks, kt, kla, kll, klc, kfa, kfl, kfc⟩, cn, ct, ia, il, ic, va, vl, vc⟩ := c6
    dsimp only at ht6
    subst ht6
    dsimp only [SlC.v]
    refine hK.out _ _ (hS.trans (hb6.mono hS.size)) (fun hS => ?_)
    clear hK K
    (try simp only [Act.put, List.getElem_toArray, List.getElem_cons_succ, List.getElem_cons_zero, List.setIfInBounds_toArray, List.set_cons_zero, List.set_cons_succ])
    refine wpAnyH_take (i := 3) (oi := _) (v := ?_) rfl (by kernel_rfl) (by kernel_rfl) (by kernel_rfl) (fun _ _ _ h => h) (Or.inl ⟨by rfl, ?_⟩) hS ?_
    rotate_left
    · intro w' hw'
      have hcells := HC.out w' hw'
      go_simp
      (try with_reducible rfl)
    simp only [Act.put, List.getElem_toArray, List.getElem_cons_succ, List.getElem_cons_zero, List.setIfInBounds_toArray, List.set_cons_zero, List.set_cons_succ]
    refine wpAnyH_take (i := 4) (oi := _) (v := ?_) rfl (by kernel_rfl) (by kernel_rfl) (by kernel_rfl) (fun _ _ _ h => h) (Or.inl ⟨by rfl, ?_⟩) hS ?_
    rotate_left
    · intro w' hw'
      have hcells := HC.out w' hw'
      go_simp
      (try with_reducible rfl)
    simp only [Act.put, List.getElem_toArray, List.getElem_cons_succ, List.getElem_cons_zero, List.setIfInBounds_toArray, List.set_cons_zero, List.set_cons_succ]
    refine wpAnyH_take (i := 5) (oi := _) (v := ?_) rfl (by kernel_rfl) (by kernel_rfl) (by kernel_rfl) (fun _ _ _ h => h) (Or.inl ⟨by rfl, ?_⟩) hS ?_
    rotate_left
    · intro w' hw'
      have hcells := HC.out w' hw'
      go_simp
      (try with_reducible rfl)
    simp only [Act.put, List.getElem_toArray, List.getElem_cons_succ, List.getElem_cons_zero, List.setIfInBounds_toArray, List.set_cons_zero, List.set_cons_succ]
    refine wpAnyH_ready (rs := [7]) (by kernel_rfl) (by simp) ?_
    refine AllReadyH.cons (o := _) rfl (fun K hK => ?_) AllReadyH.nil
    have y0 := cellOf hz 0; have y1 := cellOf hz 1; have y2 := cellOf hz 2; have y3 := cellOf hz 3; have y4 := cellOf hz 4; have y5 := cellOf hz 5; have y6 := cellOf hz 6; have y7 := cellOf hz 7; have y8 := cellOf hz 8; have y9 := cellOf hz 9
    have u0 := freeOf hz 0; have u1 := freeOf hz 1; have u2 := freeOf hz 2; have u3 := freeOf hz 3; have u4 := freeOf hz 4; have u5 := freeOf hz 5; have u6 := freeOf hz 6; have u7 := freeOf hz 7; have u8 := freeOf hz 8; have u9 := freeOf hz 9
    (try dsimp only at y0 y1 y2 y3 y4 y5 y6 y7 y8 y9)
    go_simp
    clear y0 u0 y1 u1 y2 u2 y3 u3 y4 u4 y5 u5 y6 u6 y7 u7 y8 u8 y9 u9
    obtain ⟨w8, hw8⟩ : ∃ w8, w8 = putTen w6 (w5.heap.size) (.int .i64 kk) (.int .i64 ki) (.int .i64 ks) (.string kt) (.slice kla kll klc) (.slice kfa kfl kfc) (.int .i64 cn) (.int .i64 50) (.slice ia il ic) (.slice va vl vc) := ⟨_, rfl⟩
    have h1 := putTen_heap (B := w5.heap.size) (w := w6) (v0 := .int .i64 kk) (v1 := .int .i64 ki) (v2 := .int .i64 ks) (v3 := .string kt) (v4 := .slice kla kll klc) (v5 := .slice kfa kfl kfc) (v6 := .int .i64 cn) (v7 := .int .i64 50) (v8 := .slice ia il ic) (v9 := .slice va vl vc) hz
    rw [← hw8] at h1
    have h8 : Below w4.heap.size w4 w8 := by rw [hw8]; exact hS.trans (putTen_below (.int .i64 kk) (.int .i64 ki) (.int .i64 ks) (.string kt) (.slice kla kll klc) (.slice kfa kfl kfc) (.int .i64 cn) (.int .i64 50) (.slice ia il ic) (.slice va vl vc) w6 (w5.heap.size) w4.heap.size (HS5.out.size))
    dsimp only [putTen] at hw8
    rw [← hw8]
    clear hw8
    have q7 := cellOf h1 7
    (try dsimp only at q7)
    clear h1
    refine hK.out _ _ (h8) (fun hS => ?_)
    clear hK K
    (try simp only [Act.put, List.getElem_toArray, List.getElem_cons_succ, List.getElem_cons_zero, List.setIfInBounds_toArray, List.set_cons_zero, List.set_cons_succ])
    refine wpAnyH_take (i := 8) (oi := _) (v := ?_) rfl (by kernel_rfl) (by kernel_rfl) (by kernel_rfl) (fun _ _ _ h => h) (Or.inl ⟨by rfl, ?_⟩) hS ?_
    rotate_left
    · intro w' hw'
      have hcells := HC.out w' hw'
      go_simp
      (try with_reducible rfl)
    simp only [Act.put, List.getElem_toArray, List.getElem_cons_succ, List.getElem_cons_zero, List.setIfInBounds_toArray, List.set_cons_zero, List.set_cons_succ]
    refine wpAnyH_done (by kernel_rfl) ?_ _
    (try dsimp only)
    have hg := HBX.out _ hS
    have b0 := cellOf hg 0
    have b1 := cellOf hg 1
    have b2 := cellOf hg 2
    (try dsimp only at b0 b1 b2)
    have HCK8 := hid (HCK.out _ hS)
    have H8 := hid hS
    clear hS h8 hg HCK HBX HGET
    go_wp2_with (go_at_call 31; refine HCK8.out.mono ?_; rintro e w9 ⟨rfl, hb9⟩)
    go_ret
    exact ⟨rfl, HB4.out.trans ((H8.out.trans (hb9.mono H8.out.size)).mono HB4.out.size)⟩
  refine AllReadyH.cons (o := _) rfl (fun K hK => ?_) AllReadyH.nil
  go_simp
  refine hK.out _ _ (hS.trans (((Below.refl _ _).alloc (Nat.le_refl _) _).mono hS.size)) (fun hS => ?_)
  clear hK K
  (try simp only [Act.put, List.getElem_toArray, List.getElem_cons_succ, List.getElem_cons_zero, List.setIfInBounds_toArray, List.set_cons_zero, List.set_cons_succ])
  refine wpAnyH_ready (rs := [1]) (by kernel_rfl) (by simp) ?_
  refine AllReadyH.cons (o := _) rfl (fun K hK => ?_) AllReadyH.nil
  generalize hw41 : World.drew _ = w41 at hS ⊢
  have hz : w41.heap[w4.heap.size]? = some (.cells #[.int .i64 0, .int .i64 0, .int .i64 0, .string ⟨#[]⟩, .slice none 0 0, .slice none 0 0, .int .i64 0, .int .i64 0, .slice none 0 0, .slice none 0 0] 58) := by rw [← hw41]; exact heap_alloc_new _ _
  clear hw41
  go_simp; go_at_call 72; refine (textV_call _ _).mono ?_
  rintro e w5 ⟨rfl, hb5⟩
  replace hz := heapExt hb5 hz
  have HS5 := hid (hS.trans (hb5.mono hS.size))
  refine hK.out _ _ (hS.trans (hb5.mono hS.size)) (fun hS => ?_)
  clear hK K
  (try simp only [Act.put, List.getElem_toArray, List.getElem_cons_succ, List.getElem_cons_zero, List.setIfInBounds_toArray, List.set_cons_zero, List.set_cons_succ])
  refine wpAnyH_ready (rs := [2]) (by kernel_rfl) (by simp) ?_
  refine AllReadyH.cons (o := _) rfl (fun K hK => ?_) AllReadyH.nil
  go_simp; go_at_call 36; refine (HGET.out _ hS).mono ?_
  rintro e w6 ⟨c6, rfl, ht6, hb6⟩
  replace hz := heapExt hb6 hz
  have HS6 := hid (hS.trans (hb6.mono hS.size))
  obtain ⟨⟨kk, ki, ks, kt, kla, kll, klc, kfa, kfl, kfc⟩, cn, ct, ia, il, ic, va, vl, vc⟩ := c6
  dsimp only at ht6
  subst ht6
  dsimp only [SlC.v]
  refine hK.out _ _ (hS.trans (hb6.mono hS.size)) (fun hS => ?_)
  clear hK K
  (try simp only [Act.put, List.getElem_toArray, List.getElem_cons_succ, List.getElem_cons_zero, List.setIfInBounds_toArray, List.set_cons_zero, List.set_cons_succ])
  refine wpAnyH_take (i := 3) (oi := _) (v := ?_) rfl (by kernel_rfl) (by kernel_rfl) (by kernel_rfl) (fun _ _ _ h => h) (Or.inl ⟨by rfl, ?_⟩) hS ?_
  rotate_left
  · intro w' hw'
    have hcells := HC.out w' hw'
    go_simp
    (try with_reducible rfl)
  simp only [Act.put, List.getElem_toArray, List.getElem_cons_succ, List.getElem_cons_zero, List.setIfInBounds_toArray, List.set_cons_zero, List.set_cons_succ]
  refine wpAnyH_take (i := 4) (oi := _) (v := ?_) rfl (by kernel_rfl) (by kernel_rfl) (by kernel_rfl) (fun _ _ _ h => h) (Or.inl ⟨by rfl, ?_⟩) hS ?_
  rotate_left
  · intro w' hw'
    have hcells := HC.out w' hw'
    go_simp
    (try with_reducible rfl)
  simp only [Act.put, List.getElem_toArray, List.getElem_cons_succ, List.getElem_cons_zero, List.setIfInBounds_toArray, List.set_cons_zero, List.set_cons_succ]
  refine wpAnyH_take (i := 5) (oi := _) (v := ?_) rfl (by kernel_rfl) (by kernel_rfl) (by kernel_rfl) (fun _ _ _ h => h) (Or.inl ⟨by rfl, ?_⟩) hS ?_
  rotate_left
  · intro w' hw'
    have hcells := HC.out w' hw'
    go_simp
    (try with_reducible rfl)
  simp only [Act.put, List.getElem_toArray, List.getElem_cons_succ, List.getElem_cons_zero, List.setIfInBounds_toArray, List.set_cons_zero, List.set_cons_succ]
  refine wpAnyH_ready (rs := [7]) (by kernel_rfl) (by simp) ?_
  refine AllReadyH.cons (o := _) rfl (fun K hK => ?_) AllReadyH.nil
  have y0 := cellOf hz 0; have y1 := cellOf hz 1; have y2 := cellOf hz 2; have y3 := cellOf hz 3; have y4 := cellOf hz 4; have y5 := cellOf hz 5; have y6 := cellOf hz 6; have y7 := cellOf hz 7; have y8 := cellOf hz 8; have y9 := cellOf hz 9
  have u0 := freeOf hz 0; have u1 := freeOf hz 1; have u2 := freeOf hz 2; have u3 := freeOf hz 3; have u4 := freeOf hz 4; have u5 := freeOf hz 5; have u6 := freeOf hz 6; have u7 := freeOf hz 7; have u8 := freeOf hz 8; have u9 := freeOf hz 9
  (try dsimp only at y0 y1 y2 y3 y4 y5 y6 y7 y8 y9)
  go_simp
  clear y0 u0 y1 u1 y2 u2 y3 u3 y4 u4 y5 u5 y6 u6 y7 u7 y8 u8 y9 u9
  obtain ⟨w8, hw8⟩ : ∃ w8, w8 = putTen w6 (w4.heap.size) (.int .i64 kk) (.int .i64 ki) (.int .i64 ks) (.string kt) (.slice kla kll klc) (.slice kfa kfl kfc) (.int .i64 cn) (.int .i64 50) (.slice ia il ic) (.slice va vl vc) := ⟨_, rfl⟩
  have h1 := putTen_heap (B := w4.heap.size) (w := w6) (v0 := .int .i64 kk) (v1 := .int .i64 ki) (v2 := .int .i64 ks) (v3 := .string kt) (v4 := .slice kla kll klc) (v5 := .slice kfa kfl kfc) (v6 := .int .i64 cn) (v7 := .int .i64 50) (v8 := .slice ia il ic) (v9 := .slice va vl vc) hz
  rw [← hw8] at h1
  have h8 : Below w4.heap.size w4 w8 := by rw [hw8]; exact hS.trans (putTen_below (.int .i64 kk) (.int .i64 ki) (.int .i64 ks) (.string kt) (.slice kla kll klc) (.slice kfa kfl kfc) (.int .i64 cn) (.int .i64 50) (.slice ia il ic) (.slice va vl vc) w6 (w4.heap.size) w4.heap.size (Nat.le_refl w4.heap.size))
  dsimp only [putTen] at hw8
  rw [← hw8]
  clear hw8
  have q7 := cellOf h1 7
  (try dsimp only at q7)
  clear h1
  refine hK.out _ _ (h8) (fun hS => ?_)
  clear hK K
  (try simp only [Act.put, List.getElem_toArray, List.getElem_cons_succ, List.getElem_cons_zero, List.setIfInBounds_toArray, List.set_cons_zero, List.set_cons_succ])
  refine wpAnyH_take (i := 8) (oi := _) (v := ?_) rfl (by kernel_rfl) (by kernel_rfl) (by kernel_rfl) (fun _ _ _ h => h) (Or.inl ⟨by rfl, ?_⟩) hS ?_
  rotate_left
  · intro w' hw'
    have hcells := HC.out w' hw'
    go_simp
    (try with_reducible rfl)
  simp only [Act.put, List.getElem_toArray, List.getElem_cons_succ, List.getElem_cons_zero, List.setIfInBounds_toArray, List.set_cons_zero, List.set_cons_succ]
  refine wpAnyH_done (by kernel_rfl) ?_ _
  (try dsimp only)
  have hg := HBX.out _ hS
  have b0 := cellOf hg 0
  have b1 := cellOf hg 1
  have b2 := cellOf hg 2
  (try dsimp only at b0 b1 b2)
  have HCK8 := hid (HCK.out _ hS)
  have H8 := hid hS
  clear hS h8 hg HCK HBX HGET
  go_wp2_with (go_at_call 31; refine HCK8.out.mono ?_; rintro e w9 ⟨rfl, hb9⟩)
  go_ret
  exact ⟨rfl, HB4.out.trans ((H8.out.trans (hb9.mono H8.out.size)).mono HB4.out.size)⟩
end Go.Proofs.YthjlgpmajeafpaaGreatDoor

/-
  manifoldlaw06.SmallValue returns (whether, is not said), and leaves what was there as it was. Condition: the value can be read as data.
-/
namespace Go.Proofs.YthjlgpmajeafpaaGreatDoor
open Go Go.RowKit
set_option linter.unusedVariables false
set_option linter.unusedSimpArgs false

/-- Of all that was there only block lb has changed: it holds an integer still. -/
structure SmW (lb : Nat) (w w' : World) : Prop where
  b : Below lb w w'
  n : w.heap.size ≤ w'.heap.size
  o : ∀ k, k < w.heap.size → k ≠ lb → w'.heap[k]? = w.heap[k]?
  l : ∃ m, w'.heap[lb]? = some (.cells #[.int .i64 m] 3)
theorem SmW.trans {lb : Nat} {w w' w'' : World} (h : SmW lb w w') (h' : SmW lb w' w'') : SmW lb w w'' :=
  ⟨h.b.trans h'.b, Nat.le_trans h.n h'.n, fun k hk hne => (h'.o k (Nat.lt_of_lt_of_le hk h.n) hne).trans (h.o k hk hne), h'.l⟩
theorem SmW.alloc {lb : Nat} {w w' : World} (h : SmW lb w w') (hlb : lb < w.heap.size) (o : Obj) : SmW lb w (w'.alloc o) :=
  ⟨h.b.alloc (by have := h.n; omega) o, by have := h.n; simp; omega, fun k hk hne => (Below.heap_alloc _ _ _ (by have := h.n; omega)).trans (h.o k hk hne), h.l.imp fun m hm => heapAlloc _ hm⟩
theorem SmW.set {lb : Nat} {w w' : World} (h : SmW lb w w') (m : Int) : SmW lb w (w'.setCell ⟨lb, 0, none⟩ (.int .i64 m)) :=
  ⟨h.b.setCell (p := ⟨lb, 0, none⟩) (Nat.le_refl _) _, by simpa [World.setCell] using h.n, fun k hk hne => (Below.heap_setCell _ _ _ _ hne).trans (h.o k hk hne), by
    obtain ⟨x, hx⟩ := h.l
    exact ⟨m, heapSet _ hx⟩⟩
theorem SmW.refl {lb : Nat} {w : World} {m : Int} (h : w.heap[lb]? = some (.cells #[.int .i64 m] 3)) : SmW lb w w := ⟨Below.refl _ _, Nat.le_refl _, fun _ _ _ => rfl, m, h⟩
def SmPost (lb : Nat) (w : World) (e : Ending) (w' : World) : Prop := (∃ b, e = .returned (.bool b)) ∧ SmW lb w w'

set_option maxRecDepth 100000 in
set_option maxHeartbeats 8000000 in
theorem sm_step (lb N : Nat) (ih : ∀ n, n < N → ∀ (d : Val) (c : VC) (lv : Int) (w : World), Val.sz d ≤ n → IsVal (· < lb) w c d → (∃ m, w.heap[lb]? = some (.cells #[.int .i64 m] 3)) → Calls Tryz.prog 81 #[c.v, .int .i64 lv, .pointer (some ⟨lb, 0, none⟩)] w (SmPost lb w))
    (k0 i0 s0 : Int) (t0 : ByteArray) (la : Option Addr) (ll lc : Nat) (fa : Option Addr) (fl fc : Nat) (l : List Val) (ns : List ByteArray) (fs : List Val) (lv : Int) (w : World) (hN : Val.sz (.mk k0 i0 s0 t0 l ns fs) ≤ N) (hd : IsVal (· < lb) w ⟨k0, i0, s0, t0, la, ll, lc, fa, fl, fc⟩ (.mk k0 i0 s0 t0 l ns fs)) (m : Int) (hm : w.heap[lb]? = some (.cells #[.int .i64 m] 3)) :
    Calls Tryz.prog 81 #[.agg #[.int .i64 k0, .int .i64 i0, .int .i64 s0, .string t0, .slice la ll lc, .slice fa fl fc], .int .i64 lv, .pointer (some ⟨lb, 0, none⟩)] w (SmPost lb w) := by
  obtain ⟨⟨_, _, _, _, hok, hll, hfl, hns⟩, hv, hf⟩ := hd
  dsimp only at hll hfl hv hf
  have hreach : ll * 88 ≤ 140737488351232 := hok.l
  have hreachf : fl * 104 ≤ 140737488351232 := hok.f
  have hts : t0.size ≤ 140737488351232 := hok.t
  have HL := hid hll; clear hll
  have HF := hid hfl; clear hfl
  have HNS := hid hns; clear hns
  have hszl : ∀ k (h : k < l.length), Val.sz l[k] < N := fun k h => by have := Val.szs_get l k h; simp only [Val.sz] at hN; omega
  have hszf : ∀ k (h : k < fs.length), Val.sz fs[k] < N := fun k h => by have := Val.szs_get fs k h; simp only [Val.sz] at hN; omega
  clear hN hok
  have hlw := ltOf hm
  have c1 := cellOf hm 0
  have f1 := freeOf hm 0
  (try dsimp only at c1)
  have HM := hid hm
  have HV := hid hv
  have HVF := hid hf
  clear hm hv hf
  go_enter Tryz.func81, Tryz.ntmps81
  go_upto_region 2 with (fail)
  obtain ⟨q, hq⟩ : ∃ q, q = wrap64 (m - 1) := ⟨_, rfl⟩
  rw [← hq]
  clear hq
  obtain ⟨w1, hw1⟩ : ∃ w1, w1 = (w.setCell ⟨lb, 0, none⟩ (.int .i64 q)).alloc (.cells #[.int .i64 k0, .int .i64 i0, .int .i64 s0, .string t0, .slice la ll lc, .slice fa fl fc] 28) := ⟨_, rfl⟩
  rw [← hw1]
  have h1 : SmW lb w w1 := by rw [hw1]; exact ((SmW.refl HM.out).set q).alloc hlw _
  have g1 : w1.heap[w.heap.size]? = some (.cells #[.int .i64 k0, .int .i64 i0, .int .i64 s0, .string t0, .slice la ll lc, .slice fa fl fc] 28) := by rw [hw1]; exact heapNewAt _ _ _ (by simp [World.setCell])
  have gl : w1.heap[lb]? = some (.cells #[.int .i64 q] 3) := by rw [hw1]; exact heapAlloc _ (heapSet _ HM.out)
  have z1 : w1.heap.size = w.heap.size + 1 := by rw [hw1]; simp [World.setCell]
  have e0 := cellOf g1 0; have e1 := cellOf g1 1; have e2 := cellOf g1 2; have e3 := cellOf g1 3; have e4 := cellOf g1 4; have e5 := cellOf g1 5
  have c2 := cellOf gl 0
  (try dsimp only at c2 e0 e1 e2 e3 e4 e5)
  have H1 := hid h1
  have G1 := hid g1
  have GL := hid gl
  clear hw1 c1 f1 h1 g1 gl HM
  by_cases h1 : q < 0
  · go_wp2
    go_ret
    exact ⟨⟨_, rfl⟩, H1.out⟩
  by_cases h2 : lv = 0
  · subst h2
    go_wp2
    go_ret
    exact ⟨⟨_, rfl⟩, H1.out⟩
  have h2' : (lv == 0) = false := by simp [h2]
  by_cases h3 : (2000 : Int) < t0.size
  · go_wp2
    go_ret
    exact ⟨⟨_, rfl⟩, H1.out⟩
  go_wp2
  clear e0 e1 e2 e3 e4 e5 c2
  go_loopw [7] (fun i wr => ∃ k : Nat, k ≤ ll ∧ i = .int .i64 k ∧ SmW lb w1 wr) (fun i _ => ll - (intOf i).toNat)
  case atStart => exact ⟨0, Nat.zero_le _, rfl, SmW.refl GL.out⟩
  case round =>
    obtain ⟨k, hk, rfl, hr⟩ := hrel
    obtain ⟨wp, rfl⟩ : ∃ w1 : World, w1 = wr := ⟨_, rfl⟩
    have gb := (hr.o w.heap.size (by omega) (by omega)).trans G1.out
    have HR := hid hr
    have e0 := cellOf gb 0; have e1 := cellOf gb 1; have e2 := cellOf gb 2; have e3 := cellOf gb 3; have e4 := cellOf gb 4; have e5 := cellOf gb 5
    (try dsimp only at e0 e1 e2 e3 e4 e5)
    clear hr gb
    by_cases hlt : k < ll
    · have hkl : k < l.length := by have := HL.out; omega
      obtain ⟨b, o, rfl, hb, hvs⟩ : ∃ b o, la = some ⟨b, o, none⟩ ∧ b < lb ∧ IsVals (· < lb) w b o l := by
        rcases HV.out with h0 | h
        · rw [h0] at hkl; simp at hkl
        · exact h
      have hbw : Below lb w wp := H1.out.b.trans HR.out.b
      obtain ⟨x, hx, hxa⟩ := IsVals.get (IsVals.same (S' := (· < lb)) (fun b q => ⟨q, hbw.block b q⟩) (hbw.block b hb) hvs) k hkl
      have hlt' : (k : Int) < (ll : Int) := by omega
      have hk0 : (0 : Int) ≤ (k : Int) := by omega
      have HIH := hid (ih (Val.sz l[k]) (hszl k hkl) l[k] x (wrap64 (lv - 1)) wp (Nat.le_refl _) hxa HR.out.l)
      obtain ⟨x0, x1, x2, x3, x4, x5⟩ := hx
      clear hxa hvs hbw hb
      go_wp2_with (go_at_call 81; refine HIH.out.mono ?_; rintro e w4 ⟨⟨bb, rfl⟩, h4⟩; have H4 := hid h4; clear h4; cases bb)
      · go_ret
        exact ⟨⟨_, rfl⟩, (H1.out.trans HR.out).trans H4.out⟩
      · go_roundw
        case rel => exact ⟨k + 1, by omega, by go_num, HR.out.trans H4.out⟩
        case measure => simp [intOf]; omega
    · obtain rfl : k = ll := by omega
      go_wp2
      clear e0 e1 e2 e3 e4 e5
      go_loopw [8] (fun i wr => ∃ k2 : Nat, k2 ≤ fl ∧ i = .int .i64 k2 ∧ SmW lb w1 wr) (fun i _ => fl - (intOf i).toNat)
      case atStart => exact ⟨0, Nat.zero_le _, rfl, HR.out⟩
      case round =>
        clear HR
        obtain ⟨j, hj, rfl, hr⟩ := hrel
        obtain ⟨wq, rfl⟩ : ∃ w1 : World, w1 = wr := ⟨_, rfl⟩
        have gb := (hr.o w.heap.size (by omega) (by omega)).trans G1.out
        have HR := hid hr
        have e0 := cellOf gb 0; have e1 := cellOf gb 1; have e2 := cellOf gb 2; have e3 := cellOf gb 3; have e4 := cellOf gb 4; have e5 := cellOf gb 5
        (try dsimp only at e0 e1 e2 e3 e4 e5)
        clear hr gb hlt
        by_cases hlt : j < fl
        · have hkl : j < fs.length := by have := HF.out; omega
          have hkn : j < ns.length := by have := HNS.out; omega
          obtain ⟨b, o, rfl, hb, hvs⟩ : ∃ b o, fa = some ⟨b, o, none⟩ ∧ b < lb ∧ IsFlds (· < lb) w b o ns fs := by
            rcases HVF.out with h0 | h
            · rw [h0] at hkl; simp at hkl
            · exact h
          have hbw : Below lb w wq := H1.out.b.trans HR.out.b
          obtain ⟨⟨hn, hnz⟩, x, hx, hxa⟩ := IsFlds.get (IsFlds.same (S' := (· < lb)) (fun b q => ⟨q, hbw.block b q⟩) (hbw.block b hb) hvs) HNS.out j hkl hkn
          have hlt' : (j : Int) < (fl : Int) := by omega
          have hk0 : (0 : Int) ≤ (j : Int) := by omega
          have HIH := hid (ih (Val.sz fs[j]) (hszf j hkl) fs[j] x (wrap64 (lv - 1)) wq (Nat.le_refl _) hxa HR.out.l)
          obtain ⟨x0, x1, x2, x3, x4, x5⟩ := hx
          obtain ⟨nm, hnm⟩ : ∃ nm, nm = ns[j] := ⟨_, rfl⟩
          rw [← hnm] at hn hnz
          clear hxa hvs hbw hb hnm
          by_cases h9 : (100 : Int) < nm.size
          · go_wp2
            go_ret
            exact ⟨⟨_, rfl⟩, H1.out.trans HR.out⟩
          go_wp2_with (go_at_call 81; refine HIH.out.mono ?_; rintro e w4 ⟨⟨bb, rfl⟩, h4⟩; have H4 := hid h4; clear h4; cases bb)
          · go_ret
            exact ⟨⟨_, rfl⟩, (H1.out.trans HR.out).trans H4.out⟩
          · go_roundw
            case rel => exact ⟨j + 1, by omega, by go_num, HR.out.trans H4.out⟩
            case measure => simp [intOf]; omega
        · obtain rfl : j = fl := by omega
          go_wp2
          go_ret
          exact ⟨⟨_, rfl⟩, H1.out.trans HR.out⟩
theorem sm_any (lb : Nat) : ∀ (n : Nat) (d : Val) (c : VC) (lv : Int) (w : World), Val.sz d ≤ n → IsVal (· < lb) w c d → (∃ m, w.heap[lb]? = some (.cells #[.int .i64 m] 3)) → Calls Tryz.prog 81 #[c.v, .int .i64 lv, .pointer (some ⟨lb, 0, none⟩)] w (SmPost lb w) := by
  intro n
  induction n using Nat.strongRecOn with
  | _ N ih =>
    intro d c lv w hN hd hm
    obtain ⟨m, hm⟩ := hm
    obtain ⟨k, i, s, t, l, ns, fs⟩ := d
    obtain ⟨k0, i0, s0, t0, la, ll, lc, fa, fl, fc⟩ := c
    have hd' := hd
    obtain ⟨⟨hk, hi, hs, ht, _⟩, _, _⟩ := hd'
    dsimp only at hk hi hs ht
    subst hk; subst hi; subst hs; subst ht
    exact sm_step lb N (fun n hn d c lv w h1 h2 h3 => ih n hn d c lv w h1 h2 h3) _ _ _ _ la ll lc fa fl fc l ns fs lv w hN hd m hm
def SomeB (w : World) (e : Ending) (w' : World) : Prop := (∃ b, e = .returned (.bool b)) ∧ Below w.heap.size w w'
theorem smallV_call (c : VC) (d : Val) (w : World) (hd : IsVal (· < w.heap.size) w c d) : Calls Tryz.prog 33 #[c.v] w (SomeB w) := by
  obtain ⟨wl, hwl⟩ : ∃ wl, wl = (w.alloc (.cells #[.int .i64 c.k, .int .i64 c.i, .int .i64 c.s, .string c.t, .slice c.la c.ll c.lc, .slice c.fa c.fl c.fc] 28)).alloc (.cells #[.int .i64 300] 3) := ⟨_, rfl⟩
  have hb : Below w.heap.size w wl := by rw [hwl]; exact ((Below.refl _ w).alloc (Nat.le_refl _) _).alloc (by simp) _
  have hc := sm_any (w.heap.size + 1) _ d c 12 wl (Nat.le_refl _) (hd.same fun b q => ⟨by omega, hb.block b q⟩) ⟨300, by rw [hwl]; exact heapNewAt _ _ _ (by simp)⟩
  rw [hwl] at hc
  have HC := hid hc
  have HWL := hid hwl
  have HB := hid hb
  clear hc hb hwl hd
  obtain ⟨k0, i0, s0, t0, la, ll, lc, fa, fl, fc⟩ := c
  dsimp only [VC.v] at HC ⊢
  go_enter Tryz.func33, Tryz.ntmps33
  go_wp2_with (go_at_call 81; refine HC.out.mono ?_; rintro e w4 ⟨⟨bb, rfl⟩, h4⟩)
  go_ret
  exact ⟨⟨_, rfl⟩, HB.out.trans ((by rw [HWL.out]; exact h4.b : Below (w.heap.size + 1) wl w4).mono (by omega))⟩
end Go.Proofs.YthjlgpmajeafpaaGreatDoor

/-
  manifoldlaw30.SmallSlot and Small return; if they return true, the lengths are small. Condition: the slot, the state can be read as data.
-/
namespace Go.Proofs.YthjlgpmajeafpaaGreatDoor
open Go Go.RowKit
set_option linter.unusedVariables false
set_option linter.unusedSimpArgs false

def SmSlot (d : Slot) : Prop := d.items.length ≤ 8 ∧ d.vals.length ≤ 8
def SmSlPost (d : Slot) (w : World) (e : Ending) (w' : World) : Prop := (∃ b, e = .returned (.bool b) ∧ (b = true → SmSlot d)) ∧ Below w.heap.size w w'

set_option maxRecDepth 100000 in
set_option maxHeartbeats 8000000 in
theorem smallSlot_call (c : SlC) (d : Slot) (w : World) (hd : IsSl (· < w.heap.size) w c d) : Calls Tryz.prog 50 #[c.v] w (SmSlPost d w) := by
  obtain ⟨⟨kk, ki, ks, kt, kla, kll, klc, kfa, kfl, kfc⟩, cn, ct, ia, il, ic, wa, wl, wc⟩ := c
  have hbig : il * 152 ≤ 140737488351232 := hd.items.big
  have hbig2 : wl * 88 ≤ 140737488351232 := hd.vals.big
  have HLI := hid hd.items.len
  have HLV := hid hd.vals.len
  dsimp only at HLI HLV
  obtain ⟨wb, hwb⟩ : ∃ wb, wb = w.alloc (.cells #[.int .i64 kk, .int .i64 ki, .int .i64 ks, .string kt, .slice kla kll klc, .slice kfa kfl kfc, .int .i64 cn, .int .i64 ct, .slice ia il ic, .slice wa wl wc] 58) := ⟨_, rfl⟩
  have hb0 : Below w.heap.size w wb := by rw [hwb]; exact (Below.refl _ w).alloc (Nat.le_refl _) _
  have g1 : wb.heap[w.heap.size]? = some (.cells #[.int .i64 kk, .int .i64 ki, .int .i64 ks, .string kt, .slice kla kll klc, .slice kfa kfl kfc, .int .i64 cn, .int .i64 ct, .slice ia il ic, .slice wa wl wc] 58) := by rw [hwb]; exact heap_alloc_new w _
  have HD : Hid (∀ w', Below wb.heap.size wb w' → IsSl (· < w'.heap.size) w' ⟨⟨kk, ki, ks, kt, kla, kll, klc, kfa, kfl, kfc⟩, cn, ct, ia, il, ic, wa, wl, wc⟩ d) := hid fun w' h => by
    have hb := hb0.trans (h.mono hb0.size)
    exact hd.same fun b q => ⟨Nat.lt_of_lt_of_le q hb.size, hb.block b q⟩
  have HSV : Hid (∀ w', Below wb.heap.size wb w' → Calls Tryz.prog 33 #[.agg #[.int .i64 kk, .int .i64 ki, .int .i64 ks, .string kt, .slice kla kll klc, .slice kfa kfl kfc]] w' (SomeB w')) := hid fun w' h => smallV_call ⟨kk, ki, ks, kt, kla, kll, klc, kfa, kfl, kfc⟩ d.k w' (HD.out w' h).k
  have e0 := cellOf g1 0; have e1 := cellOf g1 1; have e2 := cellOf g1 2; have e3 := cellOf g1 3; have e4 := cellOf g1 4; have e5 := cellOf g1 5; have e6 := cellOf g1 6; have e7 := cellOf g1 7; have e8 := cellOf g1 8; have e9 := cellOf g1 9
  (try dsimp only at e0 e1 e2 e3 e4 e5 e6 e7 e8 e9)
  rw [hwb] at e0 e1 e2 e3 e4 e5 e6 e7 e8 e9
  have HWB := hid hwb
  have HB0 := hid hb0
  have G1 := hid g1
  clear hwb hb0 g1 hd
  dsimp only [SlC.v]
  go_enter Tryz.func50, Tryz.ntmps50
  by_cases h1 : (8 : Int) < (il : Int)
  · go_wp2
    go_ret
    exact ⟨⟨_, rfl, fun h => by cases h⟩, by have h := HB0.out; rw [HWB.out] at h; exact h⟩
  by_cases h2 : (8 : Int) < (wl : Int)
  · go_wp2
    go_ret
    exact ⟨⟨_, rfl, fun h => by cases h⟩, by have h := HB0.out; rw [HWB.out] at h; exact h⟩
  have HSM := hid (show SmSlot d from ⟨by have := HLI.out; omega, by have := HLV.out; omega⟩)
  go_upto_region 3 with (go_at_call 33; refine (HSV.out _ (by rw [HWB.out]; exact Below.refl _ _)).mono ?_; rintro e w2 ⟨⟨bb, rfl⟩, hb2⟩; rw [← HWB.out] at hb2; have HB2 := hid hb2; clear hb2; cases bb)
  · go_ret
    exact ⟨⟨_, rfl, fun h => by cases h⟩, HB0.out.trans (HB2.out.mono HB0.out.size)⟩
  go_wp2
  clear e0 e1 e2 e3 e4 e5 e6 e7 e8 e9
  go_loopw [3] (fun i wr => ∃ k : Nat, k ≤ il ∧ i = .int .i64 k ∧ Below wb.heap.size wb wr) (fun i _ => il - (intOf i).toNat)
  case atStart => exact ⟨0, Nat.zero_le _, rfl, HB2.out⟩
  case round =>
    obtain ⟨k, hk, rfl, hr⟩ := hrel
    obtain ⟨wp, rfl⟩ : ∃ w1 : World, w1 = wr := ⟨_, rfl⟩
    have gb := heapExt hr G1.out
    have e0 := cellOf gb 0; have e1 := cellOf gb 1; have e2 := cellOf gb 2; have e3 := cellOf gb 3; have e4 := cellOf gb 4; have e5 := cellOf gb 5; have e6 := cellOf gb 6; have e7 := cellOf gb 7; have e8 := cellOf gb 8; have e9 := cellOf gb 9
    (try dsimp only at e0 e1 e2 e3 e4 e5 e6 e7 e8 e9)
    have HR := hid hr
    clear gb hr
    by_cases hlt : k < il
    · have hkl : k < d.items.length := by have := HLI.out; omega
      obtain ⟨b, o, rfl, hb, hx⟩ := (HD.out wp HR.out).items.slot (show 0 < il by omega)
      obtain ⟨x, hxa, hxi⟩ := hx k hkl
      obtain ⟨x0, x1, x2, x3, x4, x5, x6, x7, x8, x9⟩ := hxa.m
      have hlt' : (k : Int) < (il : Int) := by omega
      have hk0 : (0 : Int) ≤ (k : Int) := by omega
      clear hx hxa
      go_upto_region 7 with (fail)
      clear x0 x1 x2 x3 x4 x5 x6 x7 x8 x9 e0 e1 e2 e3 e4 e5 e6 e7 e8 e9
      obtain ⟨⟨xe, xa, xn, xc⟩, xm, xb, xbn, xbc, ⟨yk, yi, ys, yt, yla, yll, ylc, yfa, yfl, yfc⟩⟩ := x
      obtain ⟨wq, hwq⟩ : ∃ wq, wq = wp.alloc (mObj ⟨⟨xe, xa, xn, xc⟩, xm, xb, xbn, xbc, ⟨yk, yi, ys, yt, yla, yll, ylc, yfa, yfl, yfc⟩⟩) := ⟨_, rfl⟩
      have g5 : wq.heap[wp.heap.size]? = some (mObj ⟨⟨xe, xa, xn, xc⟩, xm, xb, xbn, xbc, ⟨yk, yi, ys, yt, yla, yll, ylc, yfa, yfl, yfc⟩⟩) := by rw [hwq]; exact heap_alloc_new _ _
      have hbq : Below wp.heap.size wp wq := by rw [hwq]; exact (Below.refl _ _).alloc (Nat.le_refl _) _
      dsimp only [mObj] at hwq g5 ⊢
      rw [← hwq]
      have e0 := cellOf g5 0; have e1 := cellOf g5 1; have e2 := cellOf g5 2; have e3 := cellOf g5 3; have e4 := cellOf g5 4; have e5 := cellOf g5 5; have e6 := cellOf g5 6; have e7 := cellOf g5 7; have e8 := cellOf g5 8; have e9 := cellOf g5 9
      (try dsimp only at e0 e1 e2 e3 e4 e5 e6 e7 e8 e9)
      have HSB := hid (smallV_call ⟨yk, yi, ys, yt, yla, yll, ylc, yfa, yfl, yfc⟩ d.items[k].b wq (hxi.b.same fun b q => ⟨Nat.lt_of_lt_of_le q hbq.size, hbq.block b q⟩))
      dsimp only [VC.v] at HSB
      have HBQ := hid (HR.out.trans (hbq.mono HR.out.size))
      clear hwq g5 hxi hbq hb
      by_cases h3 : (40 : Int) < (xbn : Int)
      · go_wp2
        go_ret
        exact ⟨⟨_, rfl, fun h => by cases h⟩, HB0.out.trans (HBQ.out.mono HB0.out.size)⟩
      by_cases h4 : (600 : Int) < (xn : Int)
      · go_wp2
        go_ret
        exact ⟨⟨_, rfl, fun h => by cases h⟩, HB0.out.trans (HBQ.out.mono HB0.out.size)⟩
      go_wp2_with (go_at_call 33; refine HSB.out.mono ?_; rintro e w5 ⟨⟨bb, rfl⟩, hb5⟩; have HB5 := hid (HBQ.out.trans (hb5.mono HBQ.out.size)); clear hb5; cases bb)
      · go_ret
        exact ⟨⟨_, rfl, fun h => by cases h⟩, HB0.out.trans (HB5.out.mono HB0.out.size)⟩
      · go_roundw
        case rel => exact ⟨k + 1, by omega, by go_num, HB5.out⟩
        case measure => simp [intOf]; omega
    · obtain rfl : k = il := by omega
      go_wp2
      clear e0 e1 e2 e3 e4 e5 e6 e7 e8 e9
      go_loopw [5] (fun i wr => ∃ j : Nat, j ≤ wl ∧ i = .int .i64 j ∧ Below wb.heap.size wb wr) (fun i _ => wl - (intOf i).toNat)
      case atStart => exact ⟨0, Nat.zero_le _, rfl, HR.out⟩
      case round =>
        clear HR
        obtain ⟨j, hj, rfl, hr⟩ := hrel
        obtain ⟨wq, rfl⟩ : ∃ w1 : World, w1 = wr := ⟨_, rfl⟩
        have gb := heapExt hr G1.out
        have e0 := cellOf gb 0; have e1 := cellOf gb 1; have e2 := cellOf gb 2; have e3 := cellOf gb 3; have e4 := cellOf gb 4; have e5 := cellOf gb 5; have e6 := cellOf gb 6; have e7 := cellOf gb 7; have e8 := cellOf gb 8; have e9 := cellOf gb 9
        (try dsimp only at e0 e1 e2 e3 e4 e5 e6 e7 e8 e9)
        have HR := hid hr
        clear gb hr hlt
        by_cases hlt : j < wl
        · have hkl : j < d.vals.length := by have := HLV.out; omega
          obtain ⟨b, o, rfl, hb, hx⟩ := (HD.out wq HR.out).vals.slot (show 0 < wl by omega)
          obtain ⟨x, hxa, hxi⟩ := hx j hkl
          obtain ⟨x0, x1, x2, x3, x4, x5⟩ := hxa.val
          have hlt' : (j : Int) < (wl : Int) := by omega
          have hk0 : (0 : Int) ≤ (j : Int) := by omega
          obtain ⟨yk, yi, ys, yt, yla, yll, ylc, yfa, yfl, yfc⟩ := x
          have HSB := hid (smallV_call ⟨yk, yi, ys, yt, yla, yll, ylc, yfa, yfl, yfc⟩ d.vals[j] wq hxi)
          dsimp only [VC.v] at HSB
          (try dsimp only at x0 x1 x2 x3 x4 x5)
          clear hx hxa hxi hb
          go_wp2_with (go_at_call 33; refine HSB.out.mono ?_; rintro e w5 ⟨⟨bb, rfl⟩, hb5⟩; have HB5 := hid (HR.out.trans (hb5.mono HR.out.size)); clear hb5; cases bb)
          · go_ret
            exact ⟨⟨_, rfl, fun h => by cases h⟩, HB0.out.trans (HB5.out.mono HB0.out.size)⟩
          · go_roundw
            case rel => exact ⟨j + 1, by omega, by go_num, HB5.out⟩
            case measure => simp [intOf]; omega
        · obtain rfl : j = wl := by omega
          go_wp2
          go_ret
          exact ⟨⟨_, rfl, fun _ => HSM.out⟩, HB0.out.trans (HR.out.mono HB0.out.size)⟩

def SmSta (d : Sta) : Prop := d.l.length ≤ 10 ∧ ∀ x ∈ d.l, SmSlot x
def SmStPost (d : Sta) (w : World) (e : Ending) (w' : World) : Prop := (∃ b, e = .returned (.bool b) ∧ (b = true → SmSta d)) ∧ Below w.heap.size w w'
set_option maxRecDepth 100000 in
set_option maxHeartbeats 8000000 in
theorem smallSta_call (c : StC) (d : Sta) (w : World) (hd : IsSta (· < w.heap.size) w c d) : Calls Tryz.prog 30 #[c.v] w (SmStPost d w) := by
  obtain ⟨sn, st, a, sl, sc⟩ := c
  have hbig : sl * 152 ≤ 140737488351232 := hd.l.big
  have HL := hid hd.l.len
  dsimp only at HL
  obtain ⟨wb, hwb⟩ : ∃ wb, wb = w.alloc (.cells #[.int .i64 sn, .int .i64 st, .slice a sl sc] 55) := ⟨_, rfl⟩
  have hb0 : Below w.heap.size w wb := by rw [hwb]; exact (Below.refl _ w).alloc (Nat.le_refl _) _
  have g1 : wb.heap[w.heap.size]? = some (.cells #[.int .i64 sn, .int .i64 st, .slice a sl sc] 55) := by rw [hwb]; exact heap_alloc_new w _
  have HD : Hid (∀ w', Below wb.heap.size wb w' → IsSta (· < w'.heap.size) w' ⟨sn, st, a, sl, sc⟩ d) := hid fun w' h => by
    have hb := hb0.trans (h.mono hb0.size)
    exact hd.same fun b q => ⟨Nat.lt_of_lt_of_le q hb.size, hb.block b q⟩
  have e0 := cellOf g1 0; have e1 := cellOf g1 1; have e2 := cellOf g1 2
  (try dsimp only at e0 e1 e2)
  rw [hwb] at e0 e1 e2
  have HWB := hid hwb
  have HB0 := hid hb0
  have G1 := hid g1
  clear hwb hb0 g1 hd
  dsimp only [StC.v]
  go_enter Tryz.func30, Tryz.ntmps30
  by_cases h1 : (10 : Int) < (sl : Int)
  · go_wp2
    go_ret
    exact ⟨⟨_, rfl, fun h => by cases h⟩, by have h := HB0.out; rw [HWB.out] at h; exact h⟩
  go_wp2
  clear e0 e1 e2
  go_loopw [3] (fun i wr => ∃ k : Nat, k ≤ sl ∧ i = .int .i64 k ∧ Below wb.heap.size wb wr ∧ ∀ j (h : j < d.l.length), j < k → SmSlot d.l[j]) (fun i _ => sl - (intOf i).toNat)
  case atStart => exact ⟨0, Nat.zero_le _, rfl, by rw [HWB.out]; exact Below.refl _ _, fun j _ h => absurd h (by omega)⟩
  case round =>
    obtain ⟨k, hk, rfl, hr, hall⟩ := hrel
    obtain ⟨wp, rfl⟩ : ∃ w1 : World, w1 = wr := ⟨_, rfl⟩
    have gb := heapExt hr G1.out
    have e0 := cellOf gb 0; have e1 := cellOf gb 1; have e2 := cellOf gb 2
    (try dsimp only at e0 e1 e2)
    have HR := hid hr
    have HALL := hid hall
    clear gb hr hall
    by_cases hlt : k < sl
    · have hkl : k < d.l.length := by have := HL.out; omega
      obtain ⟨b, o, rfl, hb, hx⟩ := (HD.out wp HR.out).l.slot (show 0 < sl by omega)
      obtain ⟨x, hxa, hxi⟩ := hx k hkl
      obtain ⟨x0, x1, x2, x3, x4, x5, x6, x7, x8, x9⟩ := hxa.slot
      have hlt' : (k : Int) < (sl : Int) := by omega
      have hk0 : (0 : Int) ≤ (k : Int) := by omega
      have HSB := hid (smallSlot_call x d.l[k] wp hxi)
      dsimp only [SlC.v] at HSB
      clear hx hxa hxi hb
      go_wp2_with (go_at_call 50; refine HSB.out.mono ?_; rintro e w5 ⟨⟨bb, rfl, hbb⟩, hb5⟩; have HB5 := hid (HR.out.trans (hb5.mono HR.out.size)); have HBB := hid hbb; clear hb5 hbb; cases bb)
      · go_ret
        exact ⟨⟨_, rfl, fun h => by cases h⟩, HB0.out.trans (HB5.out.mono HB0.out.size)⟩
      · go_roundw
        case rel => exact ⟨k + 1, by omega, by go_num, HB5.out, fun j hj hjk => by
          by_cases hj' : j < k
          · exact HALL.out j hj hj'
          · obtain rfl : j = k := by omega
            exact HBB.out (by simp)⟩
        case measure => simp [intOf]; omega
    · obtain rfl : k = sl := by omega
      go_wp2
      go_ret
      exact ⟨⟨_, rfl, fun _ => ⟨by have := HL.out; omega, fun x hx => by
        obtain ⟨j, hj, rfl⟩ := List.getElem_of_mem hx
        exact HALL.out j hj (by have := HL.out; omega)⟩⟩, HB0.out.trans (HR.out.mono HB0.out.size)⟩
end Go.Proofs.YthjlgpmajeafpaaGreatDoor
