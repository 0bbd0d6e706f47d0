/-
  manifoldlaw54.compare: the differences by names, in order. Conditions: the effects can be read as data, at most thirty on each side; Tabs, ZTab.
-/
import Derived.Test.YtkljbfaemahchaaGreatDoorRCCmpL
namespace Go.Proofs.YtkljbfaemahchaaGreatDoor
open Go Go.RowKit Go.Shelf Go.Sort
set_option linter.unusedVariables false
set_option linter.unusedSimpArgs false
attribute [local go_sem ↓] Go.wp_at_zero Go.wp_at_succ

set_option maxRecDepth 100000 in
set_option maxHeartbeats 16000000 in
theorem lCompare_call (a : Option Addr) (n c : Nat) (la : List Ef) (a' : Option Addr) (n' c' : Nat) (lb : List Ef) (w : World) (hla : IsRow efK (· < w.heap.size) w a n c la) (hlb : IsRow efK (· < w.heap.size) w a' n' c' lb) (hn : n ≤ 30) (hn' : n' ≤ 30) (hT : Tabs w) (hZ : ZTab w) :
    Calls Tryz.prog 23 #[.slice a n c, .slice a' n' c'] w fun e w' => ∃ v, e = .returned v ∧ w'.ownsRow w.heap.size 35 4 v (cmpL la lb).length ((cmpL la lb).flatMap Dif.cs) ∧ Below w.heap.size w w' := by
  obtain ⟨ti, hi, hz0, hz1, hz2⟩ := info_parts infoDif
  obtain ⟨a1, c1, w1, a2, c2, w2, r1, r2, hr2, hb2⟩ := both_rows a n c la a' n' c' lb w hla hlb hn hn'
  have hrow : ∀ {a n c l}, IsRow efK (· < w.heap.size) w a n c l → ∀ W, Below w.heap.size w W → IsRow efK (· < W.heap.size) W a n c l := fun hl W h => hl.same fun b hb => ⟨Nat.lt_of_lt_of_le hb h.size, h.block b hb⟩
  have HT1 : Hid (∀ nm W, Below w.heap.size w W → Calls Tryz.prog 25 #[.slice a n c, .string nm] W fun e w' => ∃ v, e = .returned v ∧ w'.ownsRow W.heap.size 9 1 v (txtsL la nm).length ((txtsL la nm).map Value.string) ∧ Below W.heap.size W w') := hid fun nm W h => lTexts_call a n c la nm W (hrow hla W h) (hT.below h) (hZ.below h)
  have HT2 : Hid (∀ nm W, Below w.heap.size w W → Calls Tryz.prog 25 #[.slice a' n' c', .string nm] W fun e w' => ∃ v, e = .returned v ∧ w'.ownsRow W.heap.size 9 1 v (txtsL lb nm).length ((txtsL lb nm).map Value.string) ∧ Below W.heap.size W w') := hid fun nm W h => lTexts_call a' n' c' lb nm W (hrow hlb W h) (hT.below h) (hZ.below h)
  have HNS := hid (lNames_call a2 (n + n') c2 (la ++ lb) w2 hr2 (by omega))
  have HLL := hid (show la.length ≤ 30 ∧ lb.length ≤ 30 by have h1 := hla.len; have h2 := hlb.len; omega)
  have HB2 := hid hb2
  have HR1 := hid r1
  have HR2 := hid r2
  clear hla hlb hT hZ hrow r1 r2 hr2 hb2
  go_enter Tryz.func23, Tryz.ntmps23
  go_wp2_with (first
    | (at_builtin; refine wpList_append_runC (by rfl) _ _ _ _ (by rfl) _ _ _ _ (by rfl) (by rfl) HR1.out ?_)
    | (at_builtin; refine wpList_append_runC (by rfl) _ _ _ _ (by rfl) _ _ _ _ (by rfl) (by rfl) HR2.out ?_)
    | (go_at_call 72; refine HNS.out.mono ?_; rintro e w3 ⟨v3, zs, rfl, ho3, hi3, hb3⟩; obtain ⟨p3, c3, rfl, hc3, hx3⟩ := names_shape ho3; have HX3 := hid hx3; have HB3 := hid (HB2.out.trans (hb3.mono HB2.out.size)); have HZS := hid (names_all hi3.1 hi3.2); clear ho3 hi3 hb3 hx3))
  obtain ⟨B8, hB8⟩ : ∃ B8, B8 = w3.heap.size := ⟨_, rfl⟩
  have HB8 := hid hB8
  have hzn : zs.length ≤ 60 := by
    have e := HZS.out
    rw [e]
    refine Nat.le_trans (compactB_len _) ?_
    rw [List.length_mergeSort, List.length_map, List.length_append]
    have := HLL.out
    omega
  have HC3 := hid hc3
  clear hB8 HR1 HR2 HNS hc3
  go_loopw [5, 7] (fun v iv wr => ∃ k : Nat, k ≤ zs.length ∧ iv = .int .i64 k ∧ wr.ownsRow B8 35 4 v ((zs.take k).filterMap (difO la lb)).length (((zs.take k).filterMap (difO la lb)).flatMap Dif.cs) ∧ Below B8 w3 wr) (fun _ i _ => zs.length - (intOf i).toNat)
  case atStart => exact ⟨0, Nat.zero_le _, rfl, World.ownsRow_nil _ _ _ _, Below.refl _ _⟩
  case round =>
    obtain ⟨k, hk, rfl, hown, hbr⟩ := hrel
    obtain ⟨wo, hwo⟩ : ∃ w1 : World, w1 = wr := ⟨_, rfl⟩
    rw [← hwo] at hown hbr ⊢
    clear hwo
    have HBR := hid hbr
    have HOWN := hid hown
    clear hown hbr
    by_cases hlt : k < zs.length
    · obtain ⟨g3, rfl, hg3, hcell⟩ := HX3.out k hlt
      have hk0 : (0 : Int) ≤ (k : Int) := by omega
      have hlt' : (k : Int) < (zs.length : Int) := by omega
      obtain ⟨nm, hnm⟩ : ∃ nm, nm = zs[k] := ⟨_, rfl⟩
      rw [← hnm] at hcell
      have HNC := hid (show ∀ W, Below wo.heap.size wo W → W.cell? ⟨g3, k, none⟩ = some (.string (ofL nm)) from fun W h => by
        have h2 : Below B8 w3 W := HBR.out.trans (h.mono (by have h1 := HBR.out.size; have h3 := HB8.out; omega))
        rw [h2.cell (p := ⟨g3, k, none⟩) (by rw [HB8.out]; exact hg3)]
        exact hcell)
      have hwo2 : Below w.heap.size w wo := HB3.out.trans (HBR.out.mono (by have h1 := HB3.out.size; have h3 := HB8.out; omega))
      obtain ⟨zl, hzl⟩ : ∃ zl, zl = txtsL la (ofL nm) := ⟨_, rfl⟩
      obtain ⟨zr, hzr⟩ : ∃ zr, zr = txtsL lb (ofL nm) := ⟨_, rfl⟩
      have HC1 := hid (show ∀ W, Below wo.heap.size wo W → Calls Tryz.prog 25 #[.slice a n c, .string (ofL nm)] W fun e w' => ∃ v, e = .returned v ∧ w'.ownsRow W.heap.size 9 1 v zl.length (zl.map Value.string) ∧ Below W.heap.size W w' from fun W h => hzl ▸ HT1.out (ofL nm) W (hwo2.trans (h.mono hwo2.size)))
      have HC2 := hid (show ∀ W, Below wo.heap.size wo W → Calls Tryz.prog 25 #[.slice a' n' c', .string (ofL nm)] W fun e w' => ∃ v, e = .returned v ∧ w'.ownsRow W.heap.size 9 1 v zr.length (zr.map Value.string) ∧ Below W.heap.size W w' from fun W h => hzr ▸ HT2.out (ofL nm) W (hwo2.trans (h.mono hwo2.size)))
      have HZZ := hid (show zl.length ≤ 30 ∧ zr.length ≤ 30 by
        have h1 := txtsL_le la (ofL nm)
        have h2 := txtsL_le lb (ofL nm)
        have h3 := HLL.out
        rw [← hzl] at h1
        rw [← hzr] at h2
        omega)
      have HZL := hid (And.intro hzl hzr)
      have HNMK := hid (show ∀ h : k < zs.length, zs[k] = nm from fun _ => hnm.symm)
      clear hcell hnm hzl hzr hg3 hwo2
      go_upto_region 6 with (fail)
      refine wp_region_held_drew (S := (fun W => Below wo.heap.size wo W)) (by kernel_rfl) ((Below.refl _ _).drew) (fun hS => ?_)
      refine wpAnyH_take (i := 0) (oi := _) (v := ?_) rfl (by kernel_rfl) (by kernel_rfl) (by kernel_rfl) (fun _ _ _ h => h) (Or.inl ⟨by rfl, ?_⟩) hS ?_
      rotate_left
      · intro w' hw'
        have hcells := HNC.out w' hw'
        go_simp
        (try with_reducible rfl)
      simp only [Act.put, List.getElem_toArray, List.getElem_cons_succ, List.getElem_cons_zero, List.setIfInBounds_toArray, List.set_cons_zero, List.set_cons_succ]
      refine wpAnyH_take (i := 1) (oi := _) (v := ?_) rfl (by kernel_rfl) (by kernel_rfl) (by kernel_rfl) (fun _ _ _ h => h) (Or.inl ⟨by rfl, ?_⟩) hS ?_
      rotate_left
      · intro w' hw'
        have hcells := HNC.out w' hw'
        go_simp
        (try with_reducible rfl)
      simp only [Act.put, List.getElem_toArray, List.getElem_cons_succ, List.getElem_cons_zero, List.setIfInBounds_toArray, List.set_cons_zero, List.set_cons_succ]
      refine wpAnyH_take (i := 2) (oi := _) (v := ?_) rfl (by kernel_rfl) (by kernel_rfl) (by kernel_rfl) (fun _ _ _ h => h) (Or.inl ⟨by rfl, ?_⟩) hS ?_
      rotate_left
      · intro w' hw'
        have hcells := HNC.out w' hw'
        go_simp
        (try with_reducible rfl)
      simp only [Act.put, List.getElem_toArray, List.getElem_cons_succ, List.getElem_cons_zero, List.setIfInBounds_toArray, List.set_cons_zero, List.set_cons_succ]
      refine wpAnyH_take (i := 3) (oi := _) (v := ?_) rfl (by kernel_rfl) (by kernel_rfl) (by kernel_rfl) (fun _ _ _ h => h) (Or.inl ⟨by rfl, ?_⟩) hS ?_
      rotate_left
      · intro w' hw'
        have hcells := HNC.out w' hw'
        go_simp
        (try with_reducible rfl)
      simp only [Act.put, List.getElem_toArray, List.getElem_cons_succ, List.getElem_cons_zero, List.setIfInBounds_toArray, List.set_cons_zero, List.set_cons_succ]
      refine wpAnyH_take (i := 4) (oi := _) (v := ?_) rfl (by kernel_rfl) (by kernel_rfl) (by kernel_rfl) (fun _ _ _ h => h) (Or.inl ⟨by rfl, ?_⟩) hS ?_
      rotate_left
      · intro w' hw'
        have hcells := HNC.out w' hw'
        go_simp
        (try with_reducible rfl)
      simp only [Act.put, List.getElem_toArray, List.getElem_cons_succ, List.getElem_cons_zero, List.setIfInBounds_toArray, List.set_cons_zero, List.set_cons_succ]
      refine wpAnyH_take (i := 6) (oi := _) (v := ?_) rfl (by kernel_rfl) (by kernel_rfl) (by kernel_rfl) (fun _ _ _ h => h) (Or.inl ⟨by rfl, ?_⟩) hS ?_
      rotate_left
      · intro w' hw'
        have hcells := HNC.out w' hw'
        go_simp
        (try with_reducible rfl)
      simp only [Act.put, List.getElem_toArray, List.getElem_cons_succ, List.getElem_cons_zero, List.setIfInBounds_toArray, List.set_cons_zero, List.set_cons_succ]
      refine wpAnyH_take (i := 7) (oi := _) (v := ?_) rfl (by kernel_rfl) (by kernel_rfl) (by kernel_rfl) (fun _ _ _ h => h) (Or.inl ⟨by rfl, ?_⟩) hS ?_
      rotate_left
      · intro w' hw'
        have hcells := HNC.out w' hw'
        go_simp
        (try with_reducible rfl)
      simp only [Act.put, List.getElem_toArray, List.getElem_cons_succ, List.getElem_cons_zero, List.setIfInBounds_toArray, List.set_cons_zero, List.set_cons_succ]
      refine wpAnyH_take (i := 8) (oi := _) (v := ?_) rfl (by kernel_rfl) (by kernel_rfl) (by kernel_rfl) (fun _ _ _ h => h) (Or.inl ⟨by rfl, ?_⟩) hS ?_
      rotate_left
      · intro w' hw'
        have hcells := HNC.out w' hw'
        go_simp
        (try with_reducible rfl)
      simp only [Act.put, List.getElem_toArray, List.getElem_cons_succ, List.getElem_cons_zero, List.setIfInBounds_toArray, List.set_cons_zero, List.set_cons_succ]
      refine wpAnyH_take (i := 9) (oi := _) (v := ?_) rfl (by kernel_rfl) (by kernel_rfl) (by kernel_rfl) (fun _ _ _ h => h) (Or.inl ⟨by rfl, ?_⟩) hS ?_
      rotate_left
      · intro w' hw'
        have hcells := HNC.out w' hw'
        go_simp
        (try with_reducible rfl)
      simp only [Act.put, List.getElem_toArray, List.getElem_cons_succ, List.getElem_cons_zero, List.setIfInBounds_toArray, List.set_cons_zero, List.set_cons_succ]
      refine wpAnyH_take (i := 10) (oi := _) (v := ?_) rfl (by kernel_rfl) (by kernel_rfl) (by kernel_rfl) (fun _ _ _ h => h) (Or.inl ⟨by rfl, ?_⟩) hS ?_
      rotate_left
      · intro w' hw'
        have hcells := HNC.out w' hw'
        go_simp
        (try with_reducible rfl)
      simp only [Act.put, List.getElem_toArray, List.getElem_cons_succ, List.getElem_cons_zero, List.setIfInBounds_toArray, List.set_cons_zero, List.set_cons_succ]
      refine wpAnyH_ready (rs := [5]) (by kernel_rfl) (by simp) ?_
      refine AllReadyH.cons (o := _) rfl (fun K hK => ?_) AllReadyH.nil
      go_simp; go_at_call 25; refine (HC1.out _ hS).mono ?_
      rintro e W5 ⟨v1, rfl, ho1, hb5⟩
      obtain ⟨pl, cl, rfl, hcl, hxl⟩ := OwnS.shape ho1
      have HXL0 := hid hxl
      have HB5 := hid (hS.trans (hb5.mono hS.size))
      clear hxl ho1 hb5
      refine hK.out _ _ (HB5.out) (fun hS => ?_)
      clear hK K
      (try simp only [Act.put, List.getElem_toArray, List.getElem_cons_succ, List.getElem_cons_zero, List.setIfInBounds_toArray, List.set_cons_zero, List.set_cons_succ])
      refine wpAnyH_ready (rs := [11]) (by kernel_rfl) (by simp) ?_
      refine AllReadyH.cons (o := _) rfl (fun K hK => ?_) AllReadyH.nil
      go_simp; go_at_call 25; refine (HC2.out _ hS).mono ?_
      rintro e W6 ⟨v2, rfl, ho2, hb6⟩
      obtain ⟨pr, cr, rfl, hcr, hxr⟩ := OwnS.shape ho2
      have HXR0 := hid hxr
      have HB6 := hid (hS.trans (hb6.mono hS.size))
      have HB56 := hid hb6
      clear hxr ho2 hb6
      refine hK.out _ _ (HB6.out) (fun hS => ?_)
      clear hK K
      (try simp only [Act.put, List.getElem_toArray, List.getElem_cons_succ, List.getElem_cons_zero, List.setIfInBounds_toArray, List.set_cons_zero, List.set_cons_succ])
      refine wpAnyH_take (i := 12) (oi := _) (v := ?_) rfl (by kernel_rfl) (by kernel_rfl) (by kernel_rfl) (fun _ _ _ h => h) (Or.inl ⟨by rfl, ?_⟩) hS ?_
      rotate_left
      · intro w' hw'
        have hcells := HNC.out w' hw'
        go_simp
        (try with_reducible rfl)
      simp only [Act.put, List.getElem_toArray, List.getElem_cons_succ, List.getElem_cons_zero, List.setIfInBounds_toArray, List.set_cons_zero, List.set_cons_succ]
      refine wpAnyH_take (i := 13) (oi := _) (v := ?_) rfl (by kernel_rfl) (by kernel_rfl) (by kernel_rfl) (fun _ _ _ h => h) (Or.inl ⟨by rfl, ?_⟩) hS ?_
      rotate_left
      · intro w' hw'
        have hcells := HNC.out w' hw'
        go_simp
        (try with_reducible rfl)
      simp only [Act.put, List.getElem_toArray, List.getElem_cons_succ, List.getElem_cons_zero, List.setIfInBounds_toArray, List.set_cons_zero, List.set_cons_succ]
      refine wpAnyH_done (by kernel_rfl) ?_ _
      (try dsimp only)
      clear hS
      have HXL := hid (show ∀ (j : Nat) (hj : j < zl.length), ∃ g, pl = some ⟨g, 0, none⟩ ∧ ∀ W : World, Below W6.heap.size W6 W → W.cell? ⟨g, j, none⟩ = some (.string zl[j]) from fun j hj => by
        obtain ⟨g, h1, h2, h3⟩ := HXL0.out j hj
        exact ⟨g, h1, fun W h => (h.cell (p := ⟨g, j, none⟩) (Nat.lt_of_lt_of_le h2 HB56.out.size)).trans ((HB56.out.cell (p := ⟨g, j, none⟩) h2).trans h3)⟩)
      have HXR := hid (show ∀ (j : Nat) (hj : j < zr.length), ∃ g, pr = some ⟨g, 0, none⟩ ∧ ∀ W : World, Below W6.heap.size W6 W → W.cell? ⟨g, j, none⟩ = some (.string zr[j]) from fun j hj => by
        obtain ⟨g, h1, h2, h3⟩ := HXR0.out j hj
        exact ⟨g, h1, fun W h => (h.cell (p := ⟨g, j, none⟩) h2).trans h3⟩)
      clear HXL0 HXR0 HB56 HC1 HC2 HB5
      go_wp2
      go_loopw [10] (fun jv wi => ∃ j : Nat, jv = .int .i64 j ∧ j ≤ zl.length ∧ j ≤ zr.length ∧ (∀ i, i < j → zl[i]? = zr[i]?) ∧ Below W6.heap.size W6 wi ∧ Below wo.heap.size wo wi) (fun jv _ => zl.length + 1 - (intOf jv).toNat)
      case atStart => exact ⟨0, rfl, Nat.zero_le _, Nat.zero_le _, fun i hi => absurd hi (Nat.not_lt_zero _), Below.refl _ _, HB6.out⟩
      case round =>
        obtain ⟨j, rfl, hj1, hj2, heq, hbi6, hbi⟩ := hrel
        obtain ⟨wi, hwi⟩ : ∃ w1 : World, w1 = wr := ⟨_, rfl⟩
        rw [← hwi] at hbi hbi6 ⊢
        clear hwi
        have HBI := hid hbi
        have HBI6 := hid hbi6
        have HEQ := hid heq
        clear hbi heq hbi6
        have hj0 : (0 : Int) ≤ (j : Int) := by omega
        by_cases hm1 : j < zl.length
        · have hjl : (j : Int) < (zl.length : Int) := by omega
          by_cases hm2 : j < zr.length
          · obtain ⟨gl, rfl, hl⟩ := HXL.out j hm1
            obtain ⟨gr, rfl, hr⟩ := HXR.out j hm2
            obtain ⟨xl, hxl⟩ : ∃ xl, xl = zl[j]'hm1 := ⟨_, rfl⟩
            obtain ⟨xr, hxr⟩ : ∃ xr, xr = zr[j]'hm2 := ⟨_, rfl⟩
            rw [← hxl] at hl
            rw [← hxr] at hr
            have HC8 : Hid (∀ W, Below wi.heap.size wi W → W.cell? ⟨gl, j, none⟩ = some (.string xl) ∧ W.cell? ⟨gr, j, none⟩ = some (.string xr)) := hid fun W h => by
              have hb : Below W6.heap.size W6 W := HBI6.out.trans (h.mono HBI6.out.size)
              exact ⟨hl W hb, hr W hb⟩
            have hjr : (j : Int) < (zr.length : Int) := by omega
            have HXJ := hid (show zl[j]? = some xl ∧ zr[j]? = some xr by rw [List.getElem?_eq_getElem hm1, List.getElem?_eq_getElem hm2, hxl, hxr]; exact ⟨rfl, rfl⟩)
            clear hl hr hxl hxr
            by_cases hq : xl = xr
            · have HEQJ := hid (show zl[j]? = zr[j]? by rw [HXJ.out.1, HXJ.out.2, hq])
              subst hq
              go_upto_region 8 with (fail)
              refine wp_region_held_drew (S := (fun W => Below wi.heap.size wi W)) (by kernel_rfl) ((Below.refl _ _).drew) (fun hS => ?_)
              refine wpAnyH_take (i := 0) (oi := _) (v := ?_) rfl (by kernel_rfl) (by kernel_rfl) (by kernel_rfl) (fun _ _ _ h => h) (Or.inl ⟨by rfl, ?_⟩) hS ?_
              rotate_left
              · intro w' hw'
                have hcells := HC8.out w' hw'
                go_simp
                (try with_reducible rfl)
              simp only [Act.put, List.getElem_toArray, List.getElem_cons_succ, List.getElem_cons_zero, List.setIfInBounds_toArray, List.set_cons_zero, List.set_cons_succ]
              refine wpAnyH_take (i := 1) (oi := _) (v := ?_) rfl (by kernel_rfl) (by kernel_rfl) (by kernel_rfl) (fun _ _ _ h => h) (Or.inl ⟨by rfl, ?_⟩) hS ?_
              rotate_left
              · intro w' hw'
                have hcells := HC8.out w' hw'
                go_simp
                (try with_reducible rfl)
              simp only [Act.put, List.getElem_toArray, List.getElem_cons_succ, List.getElem_cons_zero, List.setIfInBounds_toArray, List.set_cons_zero, List.set_cons_succ]
              refine wpAnyH_take (i := 2) (oi := _) (v := ?_) rfl (by kernel_rfl) (by kernel_rfl) (by kernel_rfl) (fun _ _ _ h => h) (Or.inl ⟨by rfl, ?_⟩) hS ?_
              rotate_left
              · intro w' hw'
                have hcells := HC8.out w' hw'
                go_simp
                (try with_reducible rfl)
              simp only [Act.put, List.getElem_toArray, List.getElem_cons_succ, List.getElem_cons_zero, List.setIfInBounds_toArray, List.set_cons_zero, List.set_cons_succ]
              refine wpAnyH_take (i := 3) (oi := _) (v := ?_) rfl (by kernel_rfl) (by kernel_rfl) (by kernel_rfl) (fun _ _ _ h => h) (Or.inl ⟨by rfl, ?_⟩) hS ?_
              rotate_left
              · intro w' hw'
                have hcells := HC8.out w' hw'
                go_simp
                (try with_reducible rfl)
              simp only [Act.put, List.getElem_toArray, List.getElem_cons_succ, List.getElem_cons_zero, List.setIfInBounds_toArray, List.set_cons_zero, List.set_cons_succ]
              refine wpAnyH_take (i := 4) (oi := _) (v := ?_) rfl (by kernel_rfl) (by kernel_rfl) (by kernel_rfl) (fun _ _ _ h => h) (Or.inl ⟨by rfl, ?_⟩) hS ?_
              rotate_left
              · intro w' hw'
                have hcells := HC8.out w' hw'
                go_simp
                (try with_reducible rfl)
              simp only [Act.put, List.getElem_toArray, List.getElem_cons_succ, List.getElem_cons_zero, List.setIfInBounds_toArray, List.set_cons_zero, List.set_cons_succ]
              refine wpAnyH_take (i := 5) (oi := _) (v := ?_) rfl (by kernel_rfl) (by kernel_rfl) (by kernel_rfl) (fun _ _ _ h => h) (Or.inl ⟨by rfl, ?_⟩) hS ?_
              rotate_left
              · intro w' hw'
                have hcells := HC8.out w' hw'
                go_simp
                (try with_reducible rfl)
              simp only [Act.put, List.getElem_toArray, List.getElem_cons_succ, List.getElem_cons_zero, List.setIfInBounds_toArray, List.set_cons_zero, List.set_cons_succ]
              refine wpAnyH_take (i := 6) (oi := _) (v := ?_) rfl (by kernel_rfl) (by kernel_rfl) (by kernel_rfl) (fun _ _ _ h => h) (Or.inl ⟨by rfl, ?_⟩) hS ?_
              rotate_left
              · intro w' hw'
                have hcells := HC8.out w' hw'
                go_simp
                (try with_reducible rfl)
              simp only [Act.put, List.getElem_toArray, List.getElem_cons_succ, List.getElem_cons_zero, List.setIfInBounds_toArray, List.set_cons_zero, List.set_cons_succ]
              refine wpAnyH_take (i := 7) (oi := _) (v := ?_) rfl (by kernel_rfl) (by kernel_rfl) (by kernel_rfl) (fun _ _ _ h => h) (Or.inl ⟨by rfl, ?_⟩) hS ?_
              rotate_left
              · intro w' hw'
                have hcells := HC8.out w' hw'
                go_simp
                (try with_reducible rfl)
              simp only [Act.put, List.getElem_toArray, List.getElem_cons_succ, List.getElem_cons_zero, List.setIfInBounds_toArray, List.set_cons_zero, List.set_cons_succ]
              refine wpAnyH_take (i := 8) (oi := _) (v := ?_) rfl (by kernel_rfl) (by kernel_rfl) (by kernel_rfl) (fun _ _ _ h => h) (Or.inl ⟨by rfl, ?_⟩) hS ?_
              rotate_left
              · intro w' hw'
                have hcells := HC8.out w' hw'
                go_simp
                (try with_reducible rfl)
              simp only [Act.put, List.getElem_toArray, List.getElem_cons_succ, List.getElem_cons_zero, List.setIfInBounds_toArray, List.set_cons_zero, List.set_cons_succ]
              refine wpAnyH_take (i := 9) (oi := _) (v := ?_) rfl (by kernel_rfl) (by kernel_rfl) (by kernel_rfl) (fun _ _ _ h => h) (Or.inl ⟨by rfl, ?_⟩) hS ?_
              rotate_left
              · intro w' hw'
                have hcells := HC8.out w' hw'
                go_simp
                (try with_reducible rfl)
              simp only [Act.put, List.getElem_toArray, List.getElem_cons_succ, List.getElem_cons_zero, List.setIfInBounds_toArray, List.set_cons_zero, List.set_cons_succ]
              refine wpAnyH_take (i := 10) (oi := _) (v := ?_) rfl (by kernel_rfl) (by kernel_rfl) (by kernel_rfl) (fun _ _ _ h => h) (Or.inl ⟨by rfl, ?_⟩) hS ?_
              rotate_left
              · intro w' hw'
                have hcells := HC8.out w' hw'
                go_simp
                (try with_reducible rfl)
              simp only [Act.put, List.getElem_toArray, List.getElem_cons_succ, List.getElem_cons_zero, List.setIfInBounds_toArray, List.set_cons_zero, List.set_cons_succ]
              refine wpAnyH_take (i := 11) (oi := _) (v := ?_) rfl (by kernel_rfl) (by kernel_rfl) (by kernel_rfl) (fun _ _ _ h => h) (Or.inl ⟨by rfl, ?_⟩) hS ?_
              rotate_left
              · intro w' hw'
                have hcells := HC8.out w' hw'
                go_simp
                (try with_reducible rfl)
              simp only [Act.put, List.getElem_toArray, List.getElem_cons_succ, List.getElem_cons_zero, List.setIfInBounds_toArray, List.set_cons_zero, List.set_cons_succ]
              refine wpAnyH_take (i := 12) (oi := _) (v := ?_) rfl (by kernel_rfl) (by kernel_rfl) (by kernel_rfl) (fun _ _ _ h => h) (Or.inl ⟨by rfl, ?_⟩) hS ?_
              rotate_left
              · intro w' hw'
                have hcells := HC8.out w' hw'
                go_simp
                (try with_reducible rfl)
              simp only [Act.put, List.getElem_toArray, List.getElem_cons_succ, List.getElem_cons_zero, List.setIfInBounds_toArray, List.set_cons_zero, List.set_cons_succ]
              refine wpAnyH_take (i := 13) (oi := _) (v := ?_) rfl (by kernel_rfl) (by kernel_rfl) (by kernel_rfl) (fun _ _ _ h => h) (Or.inl ⟨by rfl, ?_⟩) hS ?_
              rotate_left
              · intro w' hw'
                have hcells := HC8.out w' hw'
                go_simp
                (try with_reducible rfl)
              simp only [Act.put, List.getElem_toArray, List.getElem_cons_succ, List.getElem_cons_zero, List.setIfInBounds_toArray, List.set_cons_zero, List.set_cons_succ]
              refine wpAnyH_take (i := 14) (oi := _) (v := ?_) rfl (by kernel_rfl) (by kernel_rfl) (by kernel_rfl) (fun _ _ _ h => h) (Or.inl ⟨by rfl, ?_⟩) hS ?_
              rotate_left
              · intro w' hw'
                have hcells := HC8.out w' hw'
                go_simp
                (try with_reducible rfl)
              simp only [Act.put, List.getElem_toArray, List.getElem_cons_succ, List.getElem_cons_zero, List.setIfInBounds_toArray, List.set_cons_zero, List.set_cons_succ]
              refine wpAnyH_take (i := 15) (oi := _) (v := ?_) rfl (by kernel_rfl) (by kernel_rfl) (by kernel_rfl) (fun _ _ _ h => h) (Or.inl ⟨by rfl, ?_⟩) hS ?_
              rotate_left
              · intro w' hw'
                have hcells := HC8.out w' hw'
                go_simp
                (try with_reducible rfl)
              simp only [Act.put, List.getElem_toArray, List.getElem_cons_succ, List.getElem_cons_zero, List.setIfInBounds_toArray, List.set_cons_zero, List.set_cons_succ]
              refine wpAnyH_take (i := 16) (oi := _) (v := ?_) rfl (by kernel_rfl) (by kernel_rfl) (by kernel_rfl) (fun _ _ _ h => h) (Or.inl ⟨by rfl, ?_⟩) hS ?_
              rotate_left
              · intro w' hw'
                have hcells := HC8.out w' hw'
                go_simp
                (try with_reducible rfl)
              simp only [Act.put, List.getElem_toArray, List.getElem_cons_succ, List.getElem_cons_zero, List.setIfInBounds_toArray, List.set_cons_zero, List.set_cons_succ]
              refine wpAnyH_take (i := 17) (oi := _) (v := ?_) rfl (by kernel_rfl) (by kernel_rfl) (by kernel_rfl) (fun _ _ _ h => h) (Or.inl ⟨by rfl, ?_⟩) hS ?_
              rotate_left
              · intro w' hw'
                have hcells := HC8.out w' hw'
                go_simp
                (try with_reducible rfl)
              simp only [Act.put, List.getElem_toArray, List.getElem_cons_succ, List.getElem_cons_zero, List.setIfInBounds_toArray, List.set_cons_zero, List.set_cons_succ]
              refine wpAnyH_take (i := 18) (oi := _) (v := ?_) rfl (by kernel_rfl) (by kernel_rfl) (by kernel_rfl) (fun _ _ _ h => h) (Or.inl ⟨by rfl, ?_⟩) hS ?_
              rotate_left
              · intro w' hw'
                have hcells := HC8.out w' hw'
                go_simp
                (try with_reducible rfl)
              simp only [Act.put, List.getElem_toArray, List.getElem_cons_succ, List.getElem_cons_zero, List.setIfInBounds_toArray, List.set_cons_zero, List.set_cons_succ]
              refine wpAnyH_take (i := 19) (oi := _) (v := ?_) rfl (by kernel_rfl) (by kernel_rfl) (by kernel_rfl) (fun _ _ _ h => h) (Or.inl ⟨by rfl, ?_⟩) hS ?_
              rotate_left
              · intro w' hw'
                have hcells := HC8.out w' hw'
                go_simp
                (try with_reducible rfl)
              simp only [Act.put, List.getElem_toArray, List.getElem_cons_succ, List.getElem_cons_zero, List.setIfInBounds_toArray, List.set_cons_zero, List.set_cons_succ]
              refine wpAnyH_take (i := 20) (oi := _) (v := ?_) rfl (by kernel_rfl) (by kernel_rfl) (by kernel_rfl) (fun _ _ _ h => h) (Or.inl ⟨by rfl, ?_⟩) hS ?_
              rotate_left
              · intro w' hw'
                have hcells := HC8.out w' hw'
                go_simp
                (try with_reducible rfl)
              simp only [Act.put, List.getElem_toArray, List.getElem_cons_succ, List.getElem_cons_zero, List.setIfInBounds_toArray, List.set_cons_zero, List.set_cons_succ]
              refine wpAnyH_done (by kernel_rfl) ?_ _
              (try dsimp only)
              have HBJ := hid hS
              clear hS HC8
              have hy1 := HZZ.out.1
              go_wp2
              go_roundw
              case rel => exact ⟨j + 1, by go_num, by omega, by omega, fun i hi => if e : i = j then by subst e; exact HEQJ.out else HEQ.out i (by omega), HBI6.out.trans (HBJ.out.mono HBI6.out.size), HBI.out.trans (HBJ.out.mono HBI.out.size)⟩
              case measure => simp [intOf]; omega
            · have hqb : (xl.toList == xr.toList) = false := by rw [strEqR]; exact decide_eq_false fun h => hq (ByteArray.ext (Array.ext' h))
              have HCP := hid (comP_eq j zl zr hj1 hj2 HEQ.out (.inr (.inr (by rw [HXJ.out.1, HXJ.out.2]; simpa using hq))))
              go_upto_region 8 with (fail)
              refine wp_region_held_drew (S := (fun W => Below wi.heap.size wi W)) (by kernel_rfl) ((Below.refl _ _).drew) (fun hS => ?_)
              refine wpAnyH_take (i := 0) (oi := _) (v := ?_) rfl (by kernel_rfl) (by kernel_rfl) (by kernel_rfl) (fun _ _ _ h => h) (Or.inl ⟨by rfl, ?_⟩) hS ?_
              rotate_left
              · intro w' hw'
                have hcells := HC8.out w' hw'
                go_simp
                (try with_reducible rfl)
              simp only [Act.put, List.getElem_toArray, List.getElem_cons_succ, List.getElem_cons_zero, List.setIfInBounds_toArray, List.set_cons_zero, List.set_cons_succ]
              refine wpAnyH_take (i := 1) (oi := _) (v := ?_) rfl (by kernel_rfl) (by kernel_rfl) (by kernel_rfl) (fun _ _ _ h => h) (Or.inl ⟨by rfl, ?_⟩) hS ?_
              rotate_left
              · intro w' hw'
                have hcells := HC8.out w' hw'
                go_simp
                (try with_reducible rfl)
              simp only [Act.put, List.getElem_toArray, List.getElem_cons_succ, List.getElem_cons_zero, List.setIfInBounds_toArray, List.set_cons_zero, List.set_cons_succ]
              refine wpAnyH_take (i := 2) (oi := _) (v := ?_) rfl (by kernel_rfl) (by kernel_rfl) (by kernel_rfl) (fun _ _ _ h => h) (Or.inl ⟨by rfl, ?_⟩) hS ?_
              rotate_left
              · intro w' hw'
                have hcells := HC8.out w' hw'
                go_simp
                (try with_reducible rfl)
              simp only [Act.put, List.getElem_toArray, List.getElem_cons_succ, List.getElem_cons_zero, List.setIfInBounds_toArray, List.set_cons_zero, List.set_cons_succ]
              refine wpAnyH_take (i := 3) (oi := _) (v := ?_) rfl (by kernel_rfl) (by kernel_rfl) (by kernel_rfl) (fun _ _ _ h => h) (Or.inl ⟨by rfl, ?_⟩) hS ?_
              rotate_left
              · intro w' hw'
                have hcells := HC8.out w' hw'
                go_simp
                (try with_reducible rfl)
              simp only [Act.put, List.getElem_toArray, List.getElem_cons_succ, List.getElem_cons_zero, List.setIfInBounds_toArray, List.set_cons_zero, List.set_cons_succ]
              refine wpAnyH_take (i := 4) (oi := _) (v := ?_) rfl (by kernel_rfl) (by kernel_rfl) (by kernel_rfl) (fun _ _ _ h => h) (Or.inl ⟨by rfl, ?_⟩) hS ?_
              rotate_left
              · intro w' hw'
                have hcells := HC8.out w' hw'
                go_simp
                (try with_reducible rfl)
              simp only [Act.put, List.getElem_toArray, List.getElem_cons_succ, List.getElem_cons_zero, List.setIfInBounds_toArray, List.set_cons_zero, List.set_cons_succ]
              refine wpAnyH_take (i := 5) (oi := _) (v := ?_) rfl (by kernel_rfl) (by kernel_rfl) (by kernel_rfl) (fun _ _ _ h => h) (Or.inl ⟨by rfl, ?_⟩) hS ?_
              rotate_left
              · intro w' hw'
                have hcells := HC8.out w' hw'
                go_simp
                (try with_reducible rfl)
              simp only [Act.put, List.getElem_toArray, List.getElem_cons_succ, List.getElem_cons_zero, List.setIfInBounds_toArray, List.set_cons_zero, List.set_cons_succ]
              refine wpAnyH_take (i := 6) (oi := _) (v := ?_) rfl (by kernel_rfl) (by kernel_rfl) (by kernel_rfl) (fun _ _ _ h => h) (Or.inl ⟨by rfl, ?_⟩) hS ?_
              rotate_left
              · intro w' hw'
                have hcells := HC8.out w' hw'
                go_simp
                (try with_reducible rfl)
              simp only [Act.put, List.getElem_toArray, List.getElem_cons_succ, List.getElem_cons_zero, List.setIfInBounds_toArray, List.set_cons_zero, List.set_cons_succ]
              refine wpAnyH_take (i := 7) (oi := _) (v := ?_) rfl (by kernel_rfl) (by kernel_rfl) (by kernel_rfl) (fun _ _ _ h => h) (Or.inl ⟨by rfl, ?_⟩) hS ?_
              rotate_left
              · intro w' hw'
                have hcells := HC8.out w' hw'
                go_simp
                (try with_reducible rfl)
              simp only [Act.put, List.getElem_toArray, List.getElem_cons_succ, List.getElem_cons_zero, List.setIfInBounds_toArray, List.set_cons_zero, List.set_cons_succ]
              refine wpAnyH_take (i := 8) (oi := _) (v := ?_) rfl (by kernel_rfl) (by kernel_rfl) (by kernel_rfl) (fun _ _ _ h => h) (Or.inl ⟨by rfl, ?_⟩) hS ?_
              rotate_left
              · intro w' hw'
                have hcells := HC8.out w' hw'
                go_simp
                (try with_reducible rfl)
              simp only [Act.put, List.getElem_toArray, List.getElem_cons_succ, List.getElem_cons_zero, List.setIfInBounds_toArray, List.set_cons_zero, List.set_cons_succ]
              refine wpAnyH_take (i := 9) (oi := _) (v := ?_) rfl (by kernel_rfl) (by kernel_rfl) (by kernel_rfl) (fun _ _ _ h => h) (Or.inl ⟨by rfl, ?_⟩) hS ?_
              rotate_left
              · intro w' hw'
                have hcells := HC8.out w' hw'
                go_simp
                (try with_reducible rfl)
              simp only [Act.put, List.getElem_toArray, List.getElem_cons_succ, List.getElem_cons_zero, List.setIfInBounds_toArray, List.set_cons_zero, List.set_cons_succ]
              refine wpAnyH_take (i := 10) (oi := _) (v := ?_) rfl (by kernel_rfl) (by kernel_rfl) (by kernel_rfl) (fun _ _ _ h => h) (Or.inl ⟨by rfl, ?_⟩) hS ?_
              rotate_left
              · intro w' hw'
                have hcells := HC8.out w' hw'
                go_simp
                (try with_reducible rfl)
              simp only [Act.put, List.getElem_toArray, List.getElem_cons_succ, List.getElem_cons_zero, List.setIfInBounds_toArray, List.set_cons_zero, List.set_cons_succ]
              refine wpAnyH_take (i := 11) (oi := _) (v := ?_) rfl (by kernel_rfl) (by kernel_rfl) (by kernel_rfl) (fun _ _ _ h => h) (Or.inl ⟨by rfl, ?_⟩) hS ?_
              rotate_left
              · intro w' hw'
                have hcells := HC8.out w' hw'
                go_simp
                (try with_reducible rfl)
              simp only [Act.put, List.getElem_toArray, List.getElem_cons_succ, List.getElem_cons_zero, List.setIfInBounds_toArray, List.set_cons_zero, List.set_cons_succ]
              refine wpAnyH_take (i := 12) (oi := _) (v := ?_) rfl (by kernel_rfl) (by kernel_rfl) (by kernel_rfl) (fun _ _ _ h => h) (Or.inl ⟨by rfl, ?_⟩) hS ?_
              rotate_left
              · intro w' hw'
                have hcells := HC8.out w' hw'
                go_simp
                (try with_reducible rfl)
              simp only [Act.put, List.getElem_toArray, List.getElem_cons_succ, List.getElem_cons_zero, List.setIfInBounds_toArray, List.set_cons_zero, List.set_cons_succ]
              refine wpAnyH_take (i := 13) (oi := _) (v := ?_) rfl (by kernel_rfl) (by kernel_rfl) (by kernel_rfl) (fun _ _ _ h => h) (Or.inl ⟨by rfl, ?_⟩) hS ?_
              rotate_left
              · intro w' hw'
                have hcells := HC8.out w' hw'
                go_simp
                (try with_reducible rfl)
              simp only [Act.put, List.getElem_toArray, List.getElem_cons_succ, List.getElem_cons_zero, List.setIfInBounds_toArray, List.set_cons_zero, List.set_cons_succ]
              refine wpAnyH_take (i := 14) (oi := _) (v := ?_) rfl (by kernel_rfl) (by kernel_rfl) (by kernel_rfl) (fun _ _ _ h => h) (Or.inl ⟨by rfl, ?_⟩) hS ?_
              rotate_left
              · intro w' hw'
                have hcells := HC8.out w' hw'
                go_simp
                (try with_reducible rfl)
              simp only [Act.put, List.getElem_toArray, List.getElem_cons_succ, List.getElem_cons_zero, List.setIfInBounds_toArray, List.set_cons_zero, List.set_cons_succ]
              refine wpAnyH_take (i := 15) (oi := _) (v := ?_) rfl (by kernel_rfl) (by kernel_rfl) (by kernel_rfl) (fun _ _ _ h => h) (Or.inl ⟨by rfl, ?_⟩) hS ?_
              rotate_left
              · intro w' hw'
                have hcells := HC8.out w' hw'
                go_simp
                (try with_reducible rfl)
              simp only [Act.put, List.getElem_toArray, List.getElem_cons_succ, List.getElem_cons_zero, List.setIfInBounds_toArray, List.set_cons_zero, List.set_cons_succ]
              refine wpAnyH_take (i := 16) (oi := _) (v := ?_) rfl (by kernel_rfl) (by kernel_rfl) (by kernel_rfl) (fun _ _ _ h => h) (Or.inl ⟨by rfl, ?_⟩) hS ?_
              rotate_left
              · intro w' hw'
                have hcells := HC8.out w' hw'
                go_simp
                (try with_reducible rfl)
              simp only [Act.put, List.getElem_toArray, List.getElem_cons_succ, List.getElem_cons_zero, List.setIfInBounds_toArray, List.set_cons_zero, List.set_cons_succ]
              refine wpAnyH_take (i := 17) (oi := _) (v := ?_) rfl (by kernel_rfl) (by kernel_rfl) (by kernel_rfl) (fun _ _ _ h => h) (Or.inl ⟨by rfl, ?_⟩) hS ?_
              rotate_left
              · intro w' hw'
                have hcells := HC8.out w' hw'
                go_simp
                (try with_reducible rfl)
              simp only [Act.put, List.getElem_toArray, List.getElem_cons_succ, List.getElem_cons_zero, List.setIfInBounds_toArray, List.set_cons_zero, List.set_cons_succ]
              refine wpAnyH_take (i := 18) (oi := _) (v := ?_) rfl (by kernel_rfl) (by kernel_rfl) (by kernel_rfl) (fun _ _ _ h => h) (Or.inl ⟨by rfl, ?_⟩) hS ?_
              rotate_left
              · intro w' hw'
                have hcells := HC8.out w' hw'
                go_simp
                (try with_reducible rfl)
              simp only [Act.put, List.getElem_toArray, List.getElem_cons_succ, List.getElem_cons_zero, List.setIfInBounds_toArray, List.set_cons_zero, List.set_cons_succ]
              refine wpAnyH_take (i := 19) (oi := _) (v := ?_) rfl (by kernel_rfl) (by kernel_rfl) (by kernel_rfl) (fun _ _ _ h => h) (Or.inl ⟨by rfl, ?_⟩) hS ?_
              rotate_left
              · intro w' hw'
                have hcells := HC8.out w' hw'
                go_simp
                (try with_reducible rfl)
              simp only [Act.put, List.getElem_toArray, List.getElem_cons_succ, List.getElem_cons_zero, List.setIfInBounds_toArray, List.set_cons_zero, List.set_cons_succ]
              refine wpAnyH_take (i := 20) (oi := _) (v := ?_) rfl (by kernel_rfl) (by kernel_rfl) (by kernel_rfl) (fun _ _ _ h => h) (Or.inl ⟨by rfl, ?_⟩) hS ?_
              rotate_left
              · intro w' hw'
                have hcells := HC8.out w' hw'
                go_simp
                (try with_reducible rfl)
              simp only [Act.put, List.getElem_toArray, List.getElem_cons_succ, List.getElem_cons_zero, List.setIfInBounds_toArray, List.set_cons_zero, List.set_cons_succ]
              refine wpAnyH_done (by kernel_rfl) ?_ _
              (try dsimp only)
              have HBJ := hid (HBI.out.trans (hS.mono HBI.out.size))
              clear hS HC8
              obtain ⟨wx, hwx⟩ : ∃ w1 : World, w1 = wi.drew := ⟨_, rfl⟩
              rw [← hwx] at HBJ ⊢
              clear hwx
              have hy1 := HZZ.out
              have hk2 : k < zs.length := hlt
              have hnx := HNC.out wx HBJ.out
              have HTK := hid (show zs.take (k + 1) = zs.take k ++ [nm] by rw [List.take_succ_eq_append_getElem hlt, HNMK.out])
              · have hd : j < zl.length ∨ j < zr.length := by omega
                have HDF := hid (show difO la lb nm = some ⟨ofL nm, j, zl.length, zr.length⟩ by rw [difO, ← HZL.out.1, ← HZL.out.2, HCP.out, if_pos (by omega)])
                obtain ⟨DL, hDL⟩ : ∃ DL, DL = (zs.take k).filterMap (difO la lb) := ⟨_, rfl⟩
                have HDL := hid hDL
                have hown := HOWN.out
                rw [← hDL] at hown
                have hdl : DL.length ≤ 2000 := by
                  rw [hDL]
                  refine Nat.le_trans (List.length_filterMap_le _ _) ?_
                  rw [List.length_take]
                  omega
                have hcap1 : DL.length + 1 ≤ maxLen := by unfold maxLen; omega
                have hcap2 : (DL.length + 1) * 40 ≤ 140737488355328 := by omega
                have HOW2 := hid (ownExt hown HBJ.out)
                clear hDL hown
                go_wp2_with (at_builtin; go_loud (refine wpList_append_own_at _ (by rfl) _ _ 31 (by rfl) B8 35 ti _ 4 40 Tryz.underlying31 hi hz0 hz1 hz2 rfl (by omega) u5 DL.length _ (by rfl) (HOW2.out.alloc _) ⟨wx.heap.size, 0, none⟩ 1 1 (Dif.cs ⟨ofL nm, j, zl.length, zr.length⟩) (by rfl) (by rfl) (World.news_of_block (heap_alloc_new wx _)) (by simp [Dif.cs, Value.oneCell']) hcap1 hcap2 (by have h1 := HBR.out.size; have h2 := HBJ.out.size; have h3 := HB8.out; simp; omega) ?_); intro v' w5 hown' hgrow hnil hloc; have HO5 := hid hown'; have HG5 := hid hgrow; clear hown' hgrow hnil hloc)
                go_roundw
                case rel =>
                  refine ⟨k + 1, by omega, by go_num, ?_, ?_⟩
                  · rw [HTK.out, List.filterMap_append, ← HDL.out, List.filterMap_cons_some HDF.out, List.filterMap_nil, List.length_append, List.flatMap_append, List.flatMap_cons, List.flatMap_nil, List.append_nil]
                    exact HO5.out
                  · have h1 := HBR.out.size; have h2 := HBJ.out.size; have h3 := HB8.out
                    exact ((HBR.out.trans (HBJ.out.mono (by omega))).alloc (by omega) _).grown HG5.out (by simp; omega) (fun j e => (World.ownsRow.lt HOW2.out j e).1)
                case measure => simp [intOf]; omega
          · have hjr : ¬ (j : Int) < (zr.length : Int) := by omega
            have HCP := hid (comP_eq j zl zr hj1 hj2 HEQ.out (by omega))
            go_upto_region 8 with (fail)
            refine wp_region_held_drew (S := (fun W => Below wi.heap.size wi W)) (by kernel_rfl) ((Below.refl _ _).drew) (fun hS => ?_)
            refine wpAnyH_take (i := 0) (oi := _) (v := ?_) rfl (by kernel_rfl) (by kernel_rfl) (by kernel_rfl) (fun _ _ _ h => h) (Or.inl ⟨by rfl, ?_⟩) hS ?_
            rotate_left
            · intro w' hw'
              (try dsimp only at hw')
              go_simp
              (try with_reducible rfl)
            simp only [Act.put, List.getElem_toArray, List.getElem_cons_succ, List.getElem_cons_zero, List.setIfInBounds_toArray, List.set_cons_zero, List.set_cons_succ]
            refine wpAnyH_take (i := 1) (oi := _) (v := ?_) rfl (by kernel_rfl) (by kernel_rfl) (by kernel_rfl) (fun _ _ _ h => h) (Or.inl ⟨by rfl, ?_⟩) hS ?_
            rotate_left
            · intro w' hw'
              (try dsimp only at hw')
              go_simp
              (try with_reducible rfl)
            simp only [Act.put, List.getElem_toArray, List.getElem_cons_succ, List.getElem_cons_zero, List.setIfInBounds_toArray, List.set_cons_zero, List.set_cons_succ]
            refine wpAnyH_take (i := 2) (oi := _) (v := ?_) rfl (by kernel_rfl) (by kernel_rfl) (by kernel_rfl) (fun _ _ _ h => h) (Or.inl ⟨by rfl, ?_⟩) hS ?_
            rotate_left
            · intro w' hw'
              (try dsimp only at hw')
              go_simp
              (try with_reducible rfl)
            simp only [Act.put, List.getElem_toArray, List.getElem_cons_succ, List.getElem_cons_zero, List.setIfInBounds_toArray, List.set_cons_zero, List.set_cons_succ]
            refine wpAnyH_take (i := 3) (oi := _) (v := ?_) rfl (by kernel_rfl) (by kernel_rfl) (by kernel_rfl) (fun _ _ _ h => h) (Or.inl ⟨by rfl, ?_⟩) hS ?_
            rotate_left
            · intro w' hw'
              (try dsimp only at hw')
              go_simp
              (try with_reducible rfl)
            simp only [Act.put, List.getElem_toArray, List.getElem_cons_succ, List.getElem_cons_zero, List.setIfInBounds_toArray, List.set_cons_zero, List.set_cons_succ]
            refine wpAnyH_take (i := 4) (oi := _) (v := ?_) rfl (by kernel_rfl) (by kernel_rfl) (by kernel_rfl) (fun _ _ _ h => h) (Or.inl ⟨by rfl, ?_⟩) hS ?_
            rotate_left
            · intro w' hw'
              (try dsimp only at hw')
              go_simp
              (try with_reducible rfl)
            simp only [Act.put, List.getElem_toArray, List.getElem_cons_succ, List.getElem_cons_zero, List.setIfInBounds_toArray, List.set_cons_zero, List.set_cons_succ]
            refine wpAnyH_take (i := 5) (oi := _) (v := ?_) rfl (by kernel_rfl) (by kernel_rfl) (by kernel_rfl) (fun _ _ _ h => h) (Or.inl ⟨by rfl, ?_⟩) hS ?_
            rotate_left
            · intro w' hw'
              (try dsimp only at hw')
              go_simp
              (try with_reducible rfl)
            simp only [Act.put, List.getElem_toArray, List.getElem_cons_succ, List.getElem_cons_zero, List.setIfInBounds_toArray, List.set_cons_zero, List.set_cons_succ]
            refine wpAnyH_take (i := 6) (oi := _) (v := ?_) rfl (by kernel_rfl) (by kernel_rfl) (by kernel_rfl) (fun _ _ _ h => h) (Or.inl ⟨by rfl, ?_⟩) hS ?_
            rotate_left
            · intro w' hw'
              (try dsimp only at hw')
              go_simp
              (try with_reducible rfl)
            simp only [Act.put, List.getElem_toArray, List.getElem_cons_succ, List.getElem_cons_zero, List.setIfInBounds_toArray, List.set_cons_zero, List.set_cons_succ]
            refine wpAnyH_take (i := 7) (oi := _) (v := ?_) rfl (by kernel_rfl) (by kernel_rfl) (by kernel_rfl) (fun _ _ _ h => h) (Or.inl ⟨by rfl, ?_⟩) hS ?_
            rotate_left
            · intro w' hw'
              (try dsimp only at hw')
              go_simp
              (try with_reducible rfl)
            simp only [Act.put, List.getElem_toArray, List.getElem_cons_succ, List.getElem_cons_zero, List.setIfInBounds_toArray, List.set_cons_zero, List.set_cons_succ]
            refine wpAnyH_take (i := 8) (oi := _) (v := ?_) rfl (by kernel_rfl) (by kernel_rfl) (by kernel_rfl) (fun _ _ _ h => h) (Or.inl ⟨by rfl, ?_⟩) hS ?_
            rotate_left
            · intro w' hw'
              (try dsimp only at hw')
              go_simp
              (try with_reducible rfl)
            simp only [Act.put, List.getElem_toArray, List.getElem_cons_succ, List.getElem_cons_zero, List.setIfInBounds_toArray, List.set_cons_zero, List.set_cons_succ]
            refine wpAnyH_take (i := 9) (oi := _) (v := ?_) rfl (by kernel_rfl) (by kernel_rfl) (by kernel_rfl) (fun _ _ _ h => h) (Or.inl ⟨by rfl, ?_⟩) hS ?_
            rotate_left
            · intro w' hw'
              (try dsimp only at hw')
              go_simp
              (try with_reducible rfl)
            simp only [Act.put, List.getElem_toArray, List.getElem_cons_succ, List.getElem_cons_zero, List.setIfInBounds_toArray, List.set_cons_zero, List.set_cons_succ]
            refine wpAnyH_take (i := 10) (oi := _) (v := ?_) rfl (by kernel_rfl) (by kernel_rfl) (by kernel_rfl) (fun _ _ _ h => h) (Or.inl ⟨by rfl, ?_⟩) hS ?_
            rotate_left
            · intro w' hw'
              (try dsimp only at hw')
              go_simp
              (try with_reducible rfl)
            simp only [Act.put, List.getElem_toArray, List.getElem_cons_succ, List.getElem_cons_zero, List.setIfInBounds_toArray, List.set_cons_zero, List.set_cons_succ]
            refine wpAnyH_take (i := 11) (oi := _) (v := undef) rfl (by kernel_rfl) (by kernel_rfl) (by kernel_rfl) (fun _ _ _ h => h) (Or.inr ⟨by rfl, rfl⟩) hS ?_
            simp only [Act.put, List.getElem_toArray, List.getElem_cons_succ, List.getElem_cons_zero, List.setIfInBounds_toArray, List.set_cons_zero, List.set_cons_succ]
            refine wpAnyH_take (i := 12) (oi := _) (v := undef) rfl (by kernel_rfl) (by kernel_rfl) (by kernel_rfl) (fun _ _ _ h => h) (Or.inr ⟨by rfl, rfl⟩) hS ?_
            simp only [Act.put, List.getElem_toArray, List.getElem_cons_succ, List.getElem_cons_zero, List.setIfInBounds_toArray, List.set_cons_zero, List.set_cons_succ]
            refine wpAnyH_take (i := 13) (oi := _) (v := undef) rfl (by kernel_rfl) (by kernel_rfl) (by kernel_rfl) (fun _ _ _ h => h) (Or.inr ⟨by rfl, rfl⟩) hS ?_
            simp only [Act.put, List.getElem_toArray, List.getElem_cons_succ, List.getElem_cons_zero, List.setIfInBounds_toArray, List.set_cons_zero, List.set_cons_succ]
            refine wpAnyH_take (i := 14) (oi := _) (v := undef) rfl (by kernel_rfl) (by kernel_rfl) (by kernel_rfl) (fun _ _ _ h => h) (Or.inr ⟨by rfl, rfl⟩) hS ?_
            simp only [Act.put, List.getElem_toArray, List.getElem_cons_succ, List.getElem_cons_zero, List.setIfInBounds_toArray, List.set_cons_zero, List.set_cons_succ]
            refine wpAnyH_take (i := 15) (oi := _) (v := undef) rfl (by kernel_rfl) (by kernel_rfl) (by kernel_rfl) (fun _ _ _ h => h) (Or.inr ⟨by rfl, rfl⟩) hS ?_
            simp only [Act.put, List.getElem_toArray, List.getElem_cons_succ, List.getElem_cons_zero, List.setIfInBounds_toArray, List.set_cons_zero, List.set_cons_succ]
            refine wpAnyH_take (i := 16) (oi := _) (v := undef) rfl (by kernel_rfl) (by kernel_rfl) (by kernel_rfl) (fun _ _ _ h => h) (Or.inr ⟨by rfl, rfl⟩) hS ?_
            simp only [Act.put, List.getElem_toArray, List.getElem_cons_succ, List.getElem_cons_zero, List.setIfInBounds_toArray, List.set_cons_zero, List.set_cons_succ]
            refine wpAnyH_take (i := 17) (oi := _) (v := undef) rfl (by kernel_rfl) (by kernel_rfl) (by kernel_rfl) (fun _ _ _ h => h) (Or.inr ⟨by rfl, rfl⟩) hS ?_
            simp only [Act.put, List.getElem_toArray, List.getElem_cons_succ, List.getElem_cons_zero, List.setIfInBounds_toArray, List.set_cons_zero, List.set_cons_succ]
            refine wpAnyH_take (i := 18) (oi := _) (v := undef) rfl (by kernel_rfl) (by kernel_rfl) (by kernel_rfl) (fun _ _ _ h => h) (Or.inr ⟨by rfl, rfl⟩) hS ?_
            simp only [Act.put, List.getElem_toArray, List.getElem_cons_succ, List.getElem_cons_zero, List.setIfInBounds_toArray, List.set_cons_zero, List.set_cons_succ]
            refine wpAnyH_take (i := 19) (oi := _) (v := undef) rfl (by kernel_rfl) (by kernel_rfl) (by kernel_rfl) (fun _ _ _ h => h) (Or.inr ⟨by rfl, rfl⟩) hS ?_
            simp only [Act.put, List.getElem_toArray, List.getElem_cons_succ, List.getElem_cons_zero, List.setIfInBounds_toArray, List.set_cons_zero, List.set_cons_succ]
            refine wpAnyH_take (i := 20) (oi := _) (v := ?_) rfl (by kernel_rfl) (by kernel_rfl) (by kernel_rfl) (fun _ _ _ h => h) (Or.inl ⟨by rfl, ?_⟩) hS ?_
            rotate_left
            · intro w' hw'
              (try dsimp only at hw')
              go_simp
              (try with_reducible rfl)
            simp only [Act.put, List.getElem_toArray, List.getElem_cons_succ, List.getElem_cons_zero, List.setIfInBounds_toArray, List.set_cons_zero, List.set_cons_succ]
            refine wpAnyH_done (by kernel_rfl) ?_ _
            (try dsimp only)
            have HBJ := hid (HBI.out.trans (hS.mono HBI.out.size))
            clear hS
            obtain ⟨wx, hwx⟩ : ∃ w1 : World, w1 = wi.drew := ⟨_, rfl⟩
            rw [← hwx] at HBJ ⊢
            clear hwx
            have hy1 := HZZ.out
            have hk2 : k < zs.length := hlt
            have hnx := HNC.out wx HBJ.out
            have HTK := hid (show zs.take (k + 1) = zs.take k ++ [nm] by rw [List.take_succ_eq_append_getElem hlt, HNMK.out])
            · have hd : j < zl.length ∨ j < zr.length := by omega
              have HDF := hid (show difO la lb nm = some ⟨ofL nm, j, zl.length, zr.length⟩ by rw [difO, ← HZL.out.1, ← HZL.out.2, HCP.out, if_pos (by omega)])
              obtain ⟨DL, hDL⟩ : ∃ DL, DL = (zs.take k).filterMap (difO la lb) := ⟨_, rfl⟩
              have HDL := hid hDL
              have hown := HOWN.out
              rw [← hDL] at hown
              have hdl : DL.length ≤ 2000 := by
                rw [hDL]
                refine Nat.le_trans (List.length_filterMap_le _ _) ?_
                rw [List.length_take]
                omega
              have hcap1 : DL.length + 1 ≤ maxLen := by unfold maxLen; omega
              have hcap2 : (DL.length + 1) * 40 ≤ 140737488355328 := by omega
              have HOW2 := hid (ownExt hown HBJ.out)
              clear hDL hown
              go_wp2_with (at_builtin; go_loud (refine wpList_append_own_at _ (by rfl) _ _ 31 (by rfl) B8 35 ti _ 4 40 Tryz.underlying31 hi hz0 hz1 hz2 rfl (by omega) u5 DL.length _ (by rfl) (HOW2.out.alloc _) ⟨wx.heap.size, 0, none⟩ 1 1 (Dif.cs ⟨ofL nm, j, zl.length, zr.length⟩) (by rfl) (by rfl) (World.news_of_block (heap_alloc_new wx _)) (by simp [Dif.cs, Value.oneCell']) hcap1 hcap2 (by have h1 := HBR.out.size; have h2 := HBJ.out.size; have h3 := HB8.out; simp; omega) ?_); intro v' w5 hown' hgrow hnil hloc; have HO5 := hid hown'; have HG5 := hid hgrow; clear hown' hgrow hnil hloc)
              go_roundw
              case rel =>
                refine ⟨k + 1, by omega, by go_num, ?_, ?_⟩
                · rw [HTK.out, List.filterMap_append, ← HDL.out, List.filterMap_cons_some HDF.out, List.filterMap_nil, List.length_append, List.flatMap_append, List.flatMap_cons, List.flatMap_nil, List.append_nil]
                  exact HO5.out
                · have h1 := HBR.out.size; have h2 := HBJ.out.size; have h3 := HB8.out
                  exact ((HBR.out.trans (HBJ.out.mono (by omega))).alloc (by omega) _).grown HG5.out (by simp; omega) (fun j e => (World.ownsRow.lt HOW2.out j e).1)
              case measure => simp [intOf]; omega
        · have hjl : ¬ (j : Int) < (zl.length : Int) := by omega
          have HCP := hid (comP_eq j zl zr hj1 hj2 HEQ.out (by omega))
          go_upto_region 8 with (fail)
          refine wp_region_held_drew (S := (fun W => Below wi.heap.size wi W)) (by kernel_rfl) ((Below.refl _ _).drew) (fun hS => ?_)
          refine wpAnyH_take (i := 0) (oi := _) (v := ?_) rfl (by kernel_rfl) (by kernel_rfl) (by kernel_rfl) (fun _ _ _ h => h) (Or.inl ⟨by rfl, ?_⟩) hS ?_
          rotate_left
          · intro w' hw'
            (try dsimp only at hw')
            go_simp
            (try with_reducible rfl)
          simp only [Act.put, List.getElem_toArray, List.getElem_cons_succ, List.getElem_cons_zero, List.setIfInBounds_toArray, List.set_cons_zero, List.set_cons_succ]
          refine wpAnyH_take (i := 1) (oi := _) (v := ?_) rfl (by kernel_rfl) (by kernel_rfl) (by kernel_rfl) (fun _ _ _ h => h) (Or.inl ⟨by rfl, ?_⟩) hS ?_
          rotate_left
          · intro w' hw'
            (try dsimp only at hw')
            go_simp
            (try with_reducible rfl)
          simp only [Act.put, List.getElem_toArray, List.getElem_cons_succ, List.getElem_cons_zero, List.setIfInBounds_toArray, List.set_cons_zero, List.set_cons_succ]
          refine wpAnyH_take (i := 2) (oi := _) (v := ?_) rfl (by kernel_rfl) (by kernel_rfl) (by kernel_rfl) (fun _ _ _ h => h) (Or.inl ⟨by rfl, ?_⟩) hS ?_
          rotate_left
          · intro w' hw'
            (try dsimp only at hw')
            go_simp
            (try with_reducible rfl)
          simp only [Act.put, List.getElem_toArray, List.getElem_cons_succ, List.getElem_cons_zero, List.setIfInBounds_toArray, List.set_cons_zero, List.set_cons_succ]
          refine wpAnyH_take (i := 3) (oi := _) (v := ?_) rfl (by kernel_rfl) (by kernel_rfl) (by kernel_rfl) (fun _ _ _ h => h) (Or.inl ⟨by rfl, ?_⟩) hS ?_
          rotate_left
          · intro w' hw'
            (try dsimp only at hw')
            go_simp
            (try with_reducible rfl)
          simp only [Act.put, List.getElem_toArray, List.getElem_cons_succ, List.getElem_cons_zero, List.setIfInBounds_toArray, List.set_cons_zero, List.set_cons_succ]
          refine wpAnyH_take (i := 4) (oi := _) (v := ?_) rfl (by kernel_rfl) (by kernel_rfl) (by kernel_rfl) (fun _ _ _ h => h) (Or.inl ⟨by rfl, ?_⟩) hS ?_
          rotate_left
          · intro w' hw'
            (try dsimp only at hw')
            go_simp
            (try with_reducible rfl)
          simp only [Act.put, List.getElem_toArray, List.getElem_cons_succ, List.getElem_cons_zero, List.setIfInBounds_toArray, List.set_cons_zero, List.set_cons_succ]
          refine wpAnyH_take (i := 5) (oi := _) (v := undef) rfl (by kernel_rfl) (by kernel_rfl) (by kernel_rfl) (fun _ _ _ h => h) (Or.inr ⟨by rfl, rfl⟩) hS ?_
          simp only [Act.put, List.getElem_toArray, List.getElem_cons_succ, List.getElem_cons_zero, List.setIfInBounds_toArray, List.set_cons_zero, List.set_cons_succ]
          refine wpAnyH_take (i := 6) (oi := _) (v := undef) rfl (by kernel_rfl) (by kernel_rfl) (by kernel_rfl) (fun _ _ _ h => h) (Or.inr ⟨by rfl, rfl⟩) hS ?_
          simp only [Act.put, List.getElem_toArray, List.getElem_cons_succ, List.getElem_cons_zero, List.setIfInBounds_toArray, List.set_cons_zero, List.set_cons_succ]
          refine wpAnyH_take (i := 7) (oi := _) (v := undef) rfl (by kernel_rfl) (by kernel_rfl) (by kernel_rfl) (fun _ _ _ h => h) (Or.inr ⟨by rfl, rfl⟩) hS ?_
          simp only [Act.put, List.getElem_toArray, List.getElem_cons_succ, List.getElem_cons_zero, List.setIfInBounds_toArray, List.set_cons_zero, List.set_cons_succ]
          refine wpAnyH_take (i := 8) (oi := _) (v := undef) rfl (by kernel_rfl) (by kernel_rfl) (by kernel_rfl) (fun _ _ _ h => h) (Or.inr ⟨by rfl, rfl⟩) hS ?_
          simp only [Act.put, List.getElem_toArray, List.getElem_cons_succ, List.getElem_cons_zero, List.setIfInBounds_toArray, List.set_cons_zero, List.set_cons_succ]
          refine wpAnyH_take (i := 9) (oi := _) (v := ?_) rfl (by kernel_rfl) (by kernel_rfl) (by kernel_rfl) (fun _ _ _ h => h) (Or.inl ⟨by rfl, ?_⟩) hS ?_
          rotate_left
          · intro w' hw'
            (try dsimp only at hw')
            go_simp
            (try with_reducible rfl)
          simp only [Act.put, List.getElem_toArray, List.getElem_cons_succ, List.getElem_cons_zero, List.setIfInBounds_toArray, List.set_cons_zero, List.set_cons_succ]
          refine wpAnyH_take (i := 10) (oi := _) (v := ?_) rfl (by kernel_rfl) (by kernel_rfl) (by kernel_rfl) (fun _ _ _ h => h) (Or.inl ⟨by rfl, ?_⟩) hS ?_
          rotate_left
          · intro w' hw'
            (try dsimp only at hw')
            go_simp
            (try with_reducible rfl)
          simp only [Act.put, List.getElem_toArray, List.getElem_cons_succ, List.getElem_cons_zero, List.setIfInBounds_toArray, List.set_cons_zero, List.set_cons_succ]
          refine wpAnyH_take (i := 11) (oi := _) (v := undef) rfl (by kernel_rfl) (by kernel_rfl) (by kernel_rfl) (fun _ _ _ h => h) (Or.inr ⟨by rfl, rfl⟩) hS ?_
          simp only [Act.put, List.getElem_toArray, List.getElem_cons_succ, List.getElem_cons_zero, List.setIfInBounds_toArray, List.set_cons_zero, List.set_cons_succ]
          refine wpAnyH_take (i := 12) (oi := _) (v := undef) rfl (by kernel_rfl) (by kernel_rfl) (by kernel_rfl) (fun _ _ _ h => h) (Or.inr ⟨by rfl, rfl⟩) hS ?_
          simp only [Act.put, List.getElem_toArray, List.getElem_cons_succ, List.getElem_cons_zero, List.setIfInBounds_toArray, List.set_cons_zero, List.set_cons_succ]
          refine wpAnyH_take (i := 13) (oi := _) (v := undef) rfl (by kernel_rfl) (by kernel_rfl) (by kernel_rfl) (fun _ _ _ h => h) (Or.inr ⟨by rfl, rfl⟩) hS ?_
          simp only [Act.put, List.getElem_toArray, List.getElem_cons_succ, List.getElem_cons_zero, List.setIfInBounds_toArray, List.set_cons_zero, List.set_cons_succ]
          refine wpAnyH_take (i := 14) (oi := _) (v := undef) rfl (by kernel_rfl) (by kernel_rfl) (by kernel_rfl) (fun _ _ _ h => h) (Or.inr ⟨by rfl, rfl⟩) hS ?_
          simp only [Act.put, List.getElem_toArray, List.getElem_cons_succ, List.getElem_cons_zero, List.setIfInBounds_toArray, List.set_cons_zero, List.set_cons_succ]
          refine wpAnyH_take (i := 15) (oi := _) (v := undef) rfl (by kernel_rfl) (by kernel_rfl) (by kernel_rfl) (fun _ _ _ h => h) (Or.inr ⟨by rfl, rfl⟩) hS ?_
          simp only [Act.put, List.getElem_toArray, List.getElem_cons_succ, List.getElem_cons_zero, List.setIfInBounds_toArray, List.set_cons_zero, List.set_cons_succ]
          refine wpAnyH_take (i := 16) (oi := _) (v := undef) rfl (by kernel_rfl) (by kernel_rfl) (by kernel_rfl) (fun _ _ _ h => h) (Or.inr ⟨by rfl, rfl⟩) hS ?_
          simp only [Act.put, List.getElem_toArray, List.getElem_cons_succ, List.getElem_cons_zero, List.setIfInBounds_toArray, List.set_cons_zero, List.set_cons_succ]
          refine wpAnyH_take (i := 17) (oi := _) (v := undef) rfl (by kernel_rfl) (by kernel_rfl) (by kernel_rfl) (fun _ _ _ h => h) (Or.inr ⟨by rfl, rfl⟩) hS ?_
          simp only [Act.put, List.getElem_toArray, List.getElem_cons_succ, List.getElem_cons_zero, List.setIfInBounds_toArray, List.set_cons_zero, List.set_cons_succ]
          refine wpAnyH_take (i := 18) (oi := _) (v := undef) rfl (by kernel_rfl) (by kernel_rfl) (by kernel_rfl) (fun _ _ _ h => h) (Or.inr ⟨by rfl, rfl⟩) hS ?_
          simp only [Act.put, List.getElem_toArray, List.getElem_cons_succ, List.getElem_cons_zero, List.setIfInBounds_toArray, List.set_cons_zero, List.set_cons_succ]
          refine wpAnyH_take (i := 19) (oi := _) (v := undef) rfl (by kernel_rfl) (by kernel_rfl) (by kernel_rfl) (fun _ _ _ h => h) (Or.inr ⟨by rfl, rfl⟩) hS ?_
          simp only [Act.put, List.getElem_toArray, List.getElem_cons_succ, List.getElem_cons_zero, List.setIfInBounds_toArray, List.set_cons_zero, List.set_cons_succ]
          refine wpAnyH_take (i := 20) (oi := _) (v := ?_) rfl (by kernel_rfl) (by kernel_rfl) (by kernel_rfl) (fun _ _ _ h => h) (Or.inl ⟨by rfl, ?_⟩) hS ?_
          rotate_left
          · intro w' hw'
            (try dsimp only at hw')
            go_simp
            (try with_reducible rfl)
          simp only [Act.put, List.getElem_toArray, List.getElem_cons_succ, List.getElem_cons_zero, List.setIfInBounds_toArray, List.set_cons_zero, List.set_cons_succ]
          refine wpAnyH_done (by kernel_rfl) ?_ _
          (try dsimp only)
          have HBJ := hid (HBI.out.trans (hS.mono HBI.out.size))
          clear hS
          obtain ⟨wx, hwx⟩ : ∃ w1 : World, w1 = wi.drew := ⟨_, rfl⟩
          rw [← hwx] at HBJ ⊢
          clear hwx
          have hy1 := HZZ.out
          have hk2 : k < zs.length := hlt
          have hnx := HNC.out wx HBJ.out
          have HTK := hid (show zs.take (k + 1) = zs.take k ++ [nm] by rw [List.take_succ_eq_append_getElem hlt, HNMK.out])
          by_cases hjr : (j : Int) < (zr.length : Int)
          · have hd : j < zl.length ∨ j < zr.length := by omega
            have HDF := hid (show difO la lb nm = some ⟨ofL nm, j, zl.length, zr.length⟩ by rw [difO, ← HZL.out.1, ← HZL.out.2, HCP.out, if_pos (by omega)])
            obtain ⟨DL, hDL⟩ : ∃ DL, DL = (zs.take k).filterMap (difO la lb) := ⟨_, rfl⟩
            have HDL := hid hDL
            have hown := HOWN.out
            rw [← hDL] at hown
            have hdl : DL.length ≤ 2000 := by
              rw [hDL]
              refine Nat.le_trans (List.length_filterMap_le _ _) ?_
              rw [List.length_take]
              omega
            have hcap1 : DL.length + 1 ≤ maxLen := by unfold maxLen; omega
            have hcap2 : (DL.length + 1) * 40 ≤ 140737488355328 := by omega
            have HOW2 := hid (ownExt hown HBJ.out)
            clear hDL hown
            go_wp2_with (at_builtin; go_loud (refine wpList_append_own_at _ (by rfl) _ _ 31 (by rfl) B8 35 ti _ 4 40 Tryz.underlying31 hi hz0 hz1 hz2 rfl (by omega) u5 DL.length _ (by rfl) (HOW2.out.alloc _) ⟨wx.heap.size, 0, none⟩ 1 1 (Dif.cs ⟨ofL nm, j, zl.length, zr.length⟩) (by rfl) (by rfl) (World.news_of_block (heap_alloc_new wx _)) (by simp [Dif.cs, Value.oneCell']) hcap1 hcap2 (by have h1 := HBR.out.size; have h2 := HBJ.out.size; have h3 := HB8.out; simp; omega) ?_); intro v' w5 hown' hgrow hnil hloc; have HO5 := hid hown'; have HG5 := hid hgrow; clear hown' hgrow hnil hloc)
            go_roundw
            case rel =>
              refine ⟨k + 1, by omega, by go_num, ?_, ?_⟩
              · rw [HTK.out, List.filterMap_append, ← HDL.out, List.filterMap_cons_some HDF.out, List.filterMap_nil, List.length_append, List.flatMap_append, List.flatMap_cons, List.flatMap_nil, List.append_nil]
                exact HO5.out
              · have h1 := HBR.out.size; have h2 := HBJ.out.size; have h3 := HB8.out
                exact ((HBR.out.trans (HBJ.out.mono (by omega))).alloc (by omega) _).grown HG5.out (by simp; omega) (fun j e => (World.ownsRow.lt HOW2.out j e).1)
            case measure => simp [intOf]; omega
          · have HDF := hid (show difO la lb nm = none by rw [difO, ← HZL.out.1, ← HZL.out.2, HCP.out, if_neg (by omega)])
            go_wp2
            go_roundw
            case rel =>
              have h1 := HBR.out.size; have h3 := HB8.out
              refine ⟨k + 1, by omega, by go_num, ?_, HBR.out.trans (HBJ.out.mono (by omega))⟩
              rw [HTK.out, List.filterMap_append, List.filterMap_cons_none HDF.out, List.filterMap_nil, List.append_nil]
              exact ownExt HOWN.out HBJ.out
            case measure => simp [intOf]; omega
    · obtain rfl : k = zs.length := by omega
      clear hlt
      rw [List.take_length] at HOWN
      have hnq : ¬ (zs.length : Int) < (zs.length : Int) := by omega
      go_wp2
      go_ret
      exact ⟨_, rfl, by rw [cmpL, ← HZS.out]; exact HOWN.out.mono (by have h1 := HB3.out.size; have h3 := HB8.out; omega), HB3.out.trans (HBR.out.mono (by have h1 := HB3.out.size; have h3 := HB8.out; omega))⟩
end Go.Proofs.YtkljbfaemahchaaGreatDoor
