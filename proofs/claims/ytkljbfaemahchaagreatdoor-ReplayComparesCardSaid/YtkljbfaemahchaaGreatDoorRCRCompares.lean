/-
  The law ReplayCompares: it answers true. Conditions: the effects can be read as data; Tabs, ZTab.
-/
import Derived.Test.YtkljbfaemahchaaGreatDoorRCCmpW
import Derived.Test.YtkljbfaemahchaaGreatDoorRT26Mrg
namespace Go.Proofs.YtkljbfaemahchaaGreatDoor
open Go Go.RowKit Go.Shelf Go.Sort
set_option linter.unusedVariables false
set_option linter.unusedSimpArgs false
attribute [local go_sem ↓] Go.wp_at_zero Go.wp_at_succ

theorem comP_symm : ∀ (x y : List ByteArray), comP x y = comP y x
  | [], [] => rfl
  | [], _ :: _ => rfl
  | _ :: _, [] => rfl
  | a :: r, b :: q => by
    rw [comP, comP]
    by_cases h : a = b
    · rw [if_pos h, if_pos h.symm, comP_symm r q]
    · rw [if_neg h, if_neg (fun e => h e.symm)]
theorem comP_self : ∀ (x : List ByteArray), comP x x = x.length
  | [] => rfl
  | a :: r => by rw [comP, if_pos rfl, comP_self r]; rfl
def Dif.swap (d : Dif) : Dif := ⟨d.nm, d.s, d.r, d.l⟩
theorem nms_symm (a b : List Ef) : nmsL a b = nmsL b a := by
  refine Inc.eq (nms_inc _ _) (nms_inc _ _) fun x => ?_
  rw [nms_mem, nms_mem]
  exact Or.comm
theorem difO_symm (a b : List Ef) (nm : TB) : difO b a nm = (difO a b nm).map Dif.swap := by
  unfold difO
  rw [comP_symm (txtsL b (ofL nm)), Nat.max_comm (txtsL b (ofL nm)).length]
  split <;> rfl
theorem cmpL_symm (a b : List Ef) : cmpL b a = (cmpL a b).map Dif.swap := by
  unfold cmpL
  rw [nms_symm b a, List.map_filterMap]
  congr 1
  funext nm
  exact difO_symm a b nm
theorem cmpL_self (a : List Ef) : cmpL a a = [] := by
  unfold cmpL
  rw [List.filterMap_eq_nil_iff]
  intro x _
  unfold difO
  rw [comP_self, if_neg (by simp)]
@[reducible] def difK : Kit Dif Dif := ⟨4, 40, Dif.cs, fun _ => rfl, by decide, fun _ _ c d => c = d, fun _ h => h⟩
theorem dif_shape {w : World} {base : Nat} {v : Value} {ds : List Dif} (h : w.ownsRow base 35 4 v ds.length (ds.flatMap Dif.cs)) : ∃ p c, v = .slice p ds.length c ∧ ∀ (j : Nat) (hj : j < ds.length), ∃ g, p = some ⟨g, 0, none⟩ ∧ g < w.heap.size ∧ AtG difK w g (j * 4) ds[j] := by
  rcases h.2 with ⟨rfl, h0⟩ | ⟨g, cap, cur, rfl, _, hh, _⟩
  · exact ⟨none, 0, by rw [h0], fun j hj => by omega⟩
  · exact ⟨some ⟨g, 0, none⟩, cap, rfl, fun j hj => ⟨g, rfl, (Array.getElem?_eq_some_iff.1 hh).1, AtG.ofRow (K := difK) h j hj⟩⟩
theorem AtG.dif {w : World} {g o : Nat} {d : Dif} (h : AtG difK w g o d) : w.cell? ⟨g, o, none⟩ = some (.string d.nm) ∧ w.cell? ⟨g, o + 1, none⟩ = some (.int .i64 d.s) ∧ w.cell? ⟨g, o + 2, none⟩ = some (.int .i64 d.l) ∧ w.cell? ⟨g, o + 3, none⟩ = some (.int .i64 d.r) :=
  ⟨h 0 (by decide), h 1 (by decide), h 2 (by decide), h 3 (by decide)⟩

set_option maxRecDepth 100000 in
set_option maxHeartbeats 8000000 in
theorem sameDif_call (B1 B2 : Nat) (v1 v2 : Value) (ds : List Dif) (w : World) (h1 : w.ownsRow B1 35 4 v1 ds.length (ds.flatMap Dif.cs)) (h2 : w.ownsRow B2 35 4 v2 ds.length (ds.flatMap Dif.cs)) (hd : ds.length ≤ 2000) :
    Calls Tryz.prog 22 #[v1, v2] w fun e w' => e = .returned (.bool true) ∧ Below w.heap.size w w' := by
  obtain ⟨p1, c1, rfl, hx1⟩ := dif_shape h1
  obtain ⟨p2, c2, rfl, hx2⟩ := dif_shape h2
  have HX1 := hid hx1
  have HX2 := hid hx2
  clear h1 h2 hx1 hx2
  go_enter Tryz.func22, Tryz.ntmps22
  go_wp2
  go_loopw [5] (fun i wr => ∃ k : Nat, k ≤ ds.length ∧ i = .int .i64 k ∧ Below w.heap.size w wr) (fun i _ => ds.length - (intOf i).toNat)
  case atStart => exact ⟨0, Nat.zero_le _, rfl, Below.refl _ _⟩
  case round =>
    obtain ⟨k, hk, rfl, hbr⟩ := hrel
    obtain ⟨wo, hwo⟩ : ∃ w1 : World, w1 = wr := ⟨_, rfl⟩
    rw [← hwo] at hbr ⊢
    clear hwo
    have HBR := hid hbr
    clear hbr
    by_cases hlt : k < ds.length
    · obtain ⟨g1, rfl, hg1, hz1⟩ := HX1.out k hlt
      obtain ⟨g2, rfl, hg2, hz2⟩ := HX2.out k hlt
      have hk0 : (0 : Int) ≤ (k : Int) := by omega
      have hlt' : (k : Int) < (ds.length : Int) := by omega
      obtain ⟨d, hdd⟩ : ∃ d, d = ds[k] := ⟨_, rfl⟩
      rw [← hdd] at hz1 hz2
      have HC := hid (show ∀ W, Below wo.heap.size wo W → (W.cell? ⟨g1, k * 4, none⟩ = some (.string d.nm) ∧ W.cell? ⟨g1, k * 4 + 1, none⟩ = some (.int .i64 d.s) ∧ W.cell? ⟨g1, k * 4 + 2, none⟩ = some (.int .i64 d.l) ∧ W.cell? ⟨g1, k * 4 + 3, none⟩ = some (.int .i64 d.r)) ∧ (W.cell? ⟨g2, k * 4, none⟩ = some (.string d.nm) ∧ W.cell? ⟨g2, k * 4 + 1, none⟩ = some (.int .i64 d.s) ∧ W.cell? ⟨g2, k * 4 + 2, none⟩ = some (.int .i64 d.l) ∧ W.cell? ⟨g2, k * 4 + 3, none⟩ = some (.int .i64 d.r)) from fun W h => by
        have hb : Below w.heap.size w W := HBR.out.trans (h.mono HBR.out.size)
        exact ⟨(hz1.same (hb.block g1 hg1)).dif, (hz2.same (hb.block g2 hg2)).dif⟩)
      clear hz1 hz2 hdd hg1 hg2
      go_upto_region 6 with (fail)
      refine wp_region_held_drew (S := (fun W => Below wo.heap.size wo W)) (by kernel_rfl) ((Below.refl _ _).drew) (fun hS => ?_)
      refine wpAnyH_take (i := 0) (oi := _) (v := ?_) rfl (by kernel_rfl) (by kernel_rfl) (by kernel_rfl) (fun _ _ _ h => h) (Or.inl ⟨by rfl, ?_⟩) hS ?_
      rotate_left
      · intro w' hw'
        have hcells := HC.out w' hw'
        go_simp
        (try with_reducible rfl)
      simp only [Act.put, List.getElem_toArray, List.getElem_cons_succ, List.getElem_cons_zero, List.setIfInBounds_toArray, List.set_cons_zero, List.set_cons_succ]
      refine wpAnyH_take (i := 1) (oi := _) (v := ?_) rfl (by kernel_rfl) (by kernel_rfl) (by kernel_rfl) (fun _ _ _ h => h) (Or.inl ⟨by rfl, ?_⟩) hS ?_
      rotate_left
      · intro w' hw'
        have hcells := HC.out w' hw'
        go_simp
        (try with_reducible rfl)
      simp only [Act.put, List.getElem_toArray, List.getElem_cons_succ, List.getElem_cons_zero, List.setIfInBounds_toArray, List.set_cons_zero, List.set_cons_succ]
      refine wpAnyH_take (i := 2) (oi := _) (v := ?_) rfl (by kernel_rfl) (by kernel_rfl) (by kernel_rfl) (fun _ _ _ h => h) (Or.inl ⟨by rfl, ?_⟩) hS ?_
      rotate_left
      · intro w' hw'
        have hcells := HC.out w' hw'
        go_simp
        (try with_reducible rfl)
      simp only [Act.put, List.getElem_toArray, List.getElem_cons_succ, List.getElem_cons_zero, List.setIfInBounds_toArray, List.set_cons_zero, List.set_cons_succ]
      refine wpAnyH_take (i := 3) (oi := _) (v := ?_) rfl (by kernel_rfl) (by kernel_rfl) (by kernel_rfl) (fun _ _ _ h => h) (Or.inl ⟨by rfl, ?_⟩) hS ?_
      rotate_left
      · intro w' hw'
        have hcells := HC.out w' hw'
        go_simp
        (try with_reducible rfl)
      simp only [Act.put, List.getElem_toArray, List.getElem_cons_succ, List.getElem_cons_zero, List.setIfInBounds_toArray, List.set_cons_zero, List.set_cons_succ]
      refine wpAnyH_take (i := 4) (oi := _) (v := ?_) rfl (by kernel_rfl) (by kernel_rfl) (by kernel_rfl) (fun _ _ _ h => h) (Or.inl ⟨by rfl, ?_⟩) hS ?_
      rotate_left
      · intro w' hw'
        have hcells := HC.out w' hw'
        go_simp
        (try with_reducible rfl)
      simp only [Act.put, List.getElem_toArray, List.getElem_cons_succ, List.getElem_cons_zero, List.setIfInBounds_toArray, List.set_cons_zero, List.set_cons_succ]
      refine wpAnyH_take (i := 5) (oi := _) (v := ?_) rfl (by kernel_rfl) (by kernel_rfl) (by kernel_rfl) (fun _ _ _ h => h) (Or.inl ⟨by rfl, ?_⟩) hS ?_
      rotate_left
      · intro w' hw'
        have hcells := HC.out w' hw'
        go_simp
        (try with_reducible rfl)
      simp only [Act.put, List.getElem_toArray, List.getElem_cons_succ, List.getElem_cons_zero, List.setIfInBounds_toArray, List.set_cons_zero, List.set_cons_succ]
      refine wpAnyH_take (i := 6) (oi := _) (v := ?_) rfl (by kernel_rfl) (by kernel_rfl) (by kernel_rfl) (fun _ _ _ h => h) (Or.inl ⟨by rfl, ?_⟩) hS ?_
      rotate_left
      · intro w' hw'
        have hcells := HC.out w' hw'
        go_simp
        (try with_reducible rfl)
      simp only [Act.put, List.getElem_toArray, List.getElem_cons_succ, List.getElem_cons_zero, List.setIfInBounds_toArray, List.set_cons_zero, List.set_cons_succ]
      refine wpAnyH_take (i := 7) (oi := _) (v := ?_) rfl (by kernel_rfl) (by kernel_rfl) (by kernel_rfl) (fun _ _ _ h => h) (Or.inl ⟨by rfl, ?_⟩) hS ?_
      rotate_left
      · intro w' hw'
        have hcells := HC.out w' hw'
        go_simp
        (try with_reducible rfl)
      simp only [Act.put, List.getElem_toArray, List.getElem_cons_succ, List.getElem_cons_zero, List.setIfInBounds_toArray, List.set_cons_zero, List.set_cons_succ]
      refine wpAnyH_take (i := 8) (oi := _) (v := ?_) rfl (by kernel_rfl) (by kernel_rfl) (by kernel_rfl) (fun _ _ _ h => h) (Or.inl ⟨by rfl, ?_⟩) hS ?_
      rotate_left
      · intro w' hw'
        have hcells := HC.out w' hw'
        go_simp
        (try with_reducible rfl)
      simp only [Act.put, List.getElem_toArray, List.getElem_cons_succ, List.getElem_cons_zero, List.setIfInBounds_toArray, List.set_cons_zero, List.set_cons_succ]
      refine wpAnyH_done (by kernel_rfl) ?_ _
      (try dsimp only)
      have HBJ := hid hS
      clear hS HC
      go_wp2
      go_roundw
      case rel => exact ⟨k + 1, by omega, by go_num, HBR.out.trans (HBJ.out.mono HBR.out.size)⟩
      case measure => simp [intOf]; omega
    · obtain rfl : k = ds.length := by omega
      clear hlt
      have hnq : ¬ (ds.length : Int) < (ds.length : Int) := by omega
      go_wp2
      go_ret
      exact ⟨rfl, HBR.out⟩
theorem dif_shapeM {w : World} {base : Nat} {v : Value} {ds : List Dif} (h : w.ownsRow base 35 4 v (ds.map Dif.swap).length ((ds.map Dif.swap).flatMap Dif.cs)) : ∃ p c, v = .slice p ds.length c ∧ ∀ (j : Nat) (hj : j < ds.length), ∃ g, p = some ⟨g, 0, none⟩ ∧ g < w.heap.size ∧ AtG difK w g (j * 4) ds[j].swap := by
  obtain ⟨p, c, e, hx⟩ := dif_shape h
  rw [List.length_map] at e
  refine ⟨p, c, e, fun j hj => ?_⟩
  obtain ⟨g, h1, h2, h3⟩ := hx j (by rw [List.length_map]; exact hj)
  rw [List.getElem_map] at h3
  exact ⟨g, h1, h2, h3⟩

set_option maxRecDepth 100000 in
set_option maxHeartbeats 8000000 in
theorem rcompares_call (a : Option Addr) (n c : Nat) (la : List Ef) (a' : Option Addr) (n' c' : Nat) (lb : List Ef) (w : World) (hla : IsRow efK (· < w.heap.size) w a n c la) (hlb : IsRow efK (· < w.heap.size) w a' n' c' lb) (hT : Tabs w) (hZ : ZTab w) :
    Calls Tryz.prog 4 #[.slice a n c, .slice a' n' c'] w fun e w' => e = .returned (.bool true) ∧ Below w.heap.size w w' := by
  have HK1 := hid (known54_call w hT hZ)
  have HK2 : Hid (∀ W, Below w.heap.size w W → Calls Tryz.prog 20 #[] W fun e w' => e = .returned (.bool true) ∧ Below W.heap.size W w') := hid fun W h => known54_call W (hT.below h) (hZ.below h)
  have hrow : ∀ {a n c l}, IsRow efK (· < w.heap.size) w a n c l → ∀ W, Below w.heap.size w W → IsRow efK (· < W.heap.size) W a n c l := fun hl W h => hl.same fun b hb => ⟨Nat.lt_of_lt_of_le hb h.size, h.block b hb⟩
  have hbig := hla.big
  have hbig' := hlb.big
  dsimp only [efK] at hbig hbig'
  by_cases h30 : 30 < n ∨ 30 < n'
  · clear hla hlb hT hZ hrow
    by_cases h31 : 30 < n
    · have h30' : (30 : Int) < (n : Int) := by omega
      clear h30
      go_enter Tryz.func4, Tryz.ntmps4
      go_wp2_with (first
        | (go_at_call 20; refine (HK2.out w1 HB1.out).mono ?_; rintro e w2 ⟨rfl, hb2⟩; have HB2 := hid hb2; clear hb2)
        | (go_at_call 20; refine HK1.out.mono ?_; rintro e w1 ⟨rfl, hb1⟩; have HB1 := hid hb1; clear hb1))
      go_ret
      exact ⟨rfl, HB1.out.trans (HB2.out.mono HB1.out.size)⟩
    · have h30' : ¬ (30 : Int) < (n : Int) := by omega
      have h30'' : (30 : Int) < (n' : Int) := by omega
      clear h30
      go_enter Tryz.func4, Tryz.ntmps4
      go_wp2_with (first
        | (go_at_call 20; refine (HK2.out w1 HB1.out).mono ?_; rintro e w2 ⟨rfl, hb2⟩; have HB2 := hid hb2; clear hb2)
        | (go_at_call 20; refine HK1.out.mono ?_; rintro e w1 ⟨rfl, hb1⟩; have HB1 := hid hb1; clear hb1))
      go_ret
      exact ⟨rfl, HB1.out.trans (HB2.out.mono HB1.out.size)⟩
  · have h30' : ¬ (30 : Int) < (n : Int) := by omega
    have h30'' : ¬ (30 : Int) < (n' : Int) := by omega
    obtain ⟨ds, hds⟩ : ∃ ds, ds = cmpL la lb := ⟨_, rfl⟩
    have hdl : ds.length ≤ 60 := by
      rw [hds]
      refine Nat.le_trans (List.length_filterMap_le _ _) (Nat.le_trans (compactB_len _) ?_)
      rw [List.length_mergeSort, List.length_map, List.length_append]
      have h1 := hla.len
      have h2 := hlb.len
      omega
    have HAB : Hid (∀ W, Below w.heap.size w W → Calls Tryz.prog 21 #[.slice a n c, .slice a' n' c'] W fun e w' => ∃ v, e = .returned v ∧ w'.ownsRow W.heap.size 35 4 v ds.length (ds.flatMap Dif.cs) ∧ Below W.heap.size W w') := hid fun W h => by
      rw [hds]; exact rCompare_call a n c la a' n' c' lb W (hrow hla W h) (hrow hlb W h) (by omega) (by omega) (hT.below h) (hZ.below h)
    have HBA : Hid (∀ W, Below w.heap.size w W → Calls Tryz.prog 21 #[.slice a' n' c', .slice a n c] W fun e w' => ∃ v, e = .returned v ∧ w'.ownsRow W.heap.size 35 4 v (ds.map Dif.swap).length ((ds.map Dif.swap).flatMap Dif.cs) ∧ Below W.heap.size W w') := hid fun W h => by
      rw [hds, ← cmpL_symm]; exact rCompare_call a' n' c' lb a n c la W (hrow hlb W h) (hrow hla W h) (by omega) (by omega) (hT.below h) (hZ.below h)
    have HAA : Hid (∀ W, Below w.heap.size w W → Calls Tryz.prog 21 #[.slice a n c, .slice a n c] W fun e w' => ∃ v, e = .returned v ∧ w'.ownsRow W.heap.size 35 4 v ([] : List Dif).length (([] : List Dif).flatMap Dif.cs) ∧ Below W.heap.size W w') := hid fun W h => by
      rw [← cmpL_self la]; exact rCompare_call a n c la a n c la W (hrow hla W h) (hrow hla W h) (by omega) (by omega) (hT.below h) (hZ.below h)
    have HLC : Hid (∀ W, Below w.heap.size w W → Calls Tryz.prog 23 #[.slice a n c, .slice a' n' c'] W fun e w' => ∃ v, e = .returned v ∧ w'.ownsRow W.heap.size 35 4 v ds.length (ds.flatMap Dif.cs) ∧ Below W.heap.size W w') := hid fun W h => by
      rw [hds]; exact lCompare_call a n c la a' n' c' lb W (hrow hla W h) (hrow hlb W h) (by omega) (by omega) (hT.below h) (hZ.below h)
    clear hla hlb hT hZ hrow hds h30
    go_enter Tryz.func4, Tryz.ntmps4
    go_wp2_with (first
      | (go_at_call 20; refine HK1.out.mono ?_; rintro e w1 ⟨rfl, hb1⟩; have HB1 := hid hb1; clear hb1)
      | (go_at_call 23; refine (HLC.out w3 HB3.out).mono ?_; rintro e w4 ⟨v4, rfl, ho4, hb4⟩; have HB4 := hid (HB3.out.trans (hb4.mono HB3.out.size)); have HSD := hid (sameDif_call _ _ _ _ ds w4 (ownExt (ownExt HO1.out HB23.out) hb4) ho4 (by omega)); obtain ⟨p4, c4, rfl, hx4⟩ := dif_shape ho4; have HB34 := hid hb4; clear ho4 hb4 hx4)
      | (go_at_call 22; refine HSD.out.mono ?_; rintro e w5 ⟨rfl, hb5⟩; have HB5 := hid (HB4.out.trans (hb5.mono HB4.out.size)); have HB45 := hid hb5; clear hb5)
      | (go_at_call 21; refine (HAA.out w5 HB5.out).mono ?_; rintro e w6 ⟨v6, rfl, ho6, hb6⟩; obtain ⟨p6, c6, rfl, hx6⟩ := dif_shape ho6; rw [List.length_nil]; have HB56 := hid hb6; clear ho6 hb6 hx6)
      | (go_at_call 21; refine (HBA.out w2 HB2.out).mono ?_; rintro e w3 ⟨v2, rfl, ho2, hb3⟩; obtain ⟨p2, c2, rfl, hx2⟩ := dif_shapeM ho2; have HX2 := hid hx2; have HB3 := hid (HB2.out.trans (hb3.mono HB2.out.size)); have HB23 := hid hb3; clear ho2 hb3 hx2)
      | (go_at_call 21; refine (HAB.out w1 HB1.out).mono ?_; rintro e w2 ⟨v1, rfl, ho1, hb2⟩; obtain ⟨p1, c1, rfl, hx1⟩ := dif_shape ho1; have HO1 := hid ho1; have HX1 := hid hx1; have HB2 := hid (HB1.out.trans (hb2.mono HB1.out.size)); clear ho1 hb2 hx1))
    have hw6 : Below w.heap.size w w6 := HB5.out.trans (HB56.out.mono HB5.out.size)
    have h26 : Below w3.heap.size w3 w6 := HB34.out.trans ((HB45.out.trans (HB56.out.mono HB45.out.size)).mono HB34.out.size)
    have H36 := hid h26
    have HW6 := hid hw6
    clear hw6 h26 HSD HAB HBA HAA HLC HK1 HK2
    go_loopw [7] (fun i wr => ∃ k : Nat, k ≤ ds.length ∧ i = .int .i64 k ∧ Below w6.heap.size w6 wr) (fun i _ => ds.length - (intOf i).toNat)
    case atStart => exact ⟨0, Nat.zero_le _, rfl, Below.refl _ _⟩
    case round =>
      obtain ⟨k, hk, rfl, hbr⟩ := hrel
      obtain ⟨wo, hwo⟩ : ∃ w1 : World, w1 = wr := ⟨_, rfl⟩
      rw [← hwo] at hbr ⊢
      clear hwo
      have HBR := hid hbr
      clear hbr
      by_cases hlt : k < ds.length
      · obtain ⟨g1, rfl, hg1, hz1⟩ := HX1.out k hlt
        obtain ⟨g2, rfl, hg2, hz2⟩ := HX2.out k hlt
        have hk0 : (0 : Int) ≤ (k : Int) := by omega
        have hlt' : (k : Int) < (ds.length : Int) := by omega
        obtain ⟨d, hdd⟩ : ∃ d, d = ds[k] := ⟨_, rfl⟩
        rw [← hdd] at hz1 hz2
        have HC := hid (show ∀ W, Below wo.heap.size wo W → (W.cell? ⟨g1, k * 4, none⟩ = some (.string d.nm) ∧ W.cell? ⟨g1, k * 4 + 1, none⟩ = some (.int .i64 d.s) ∧ W.cell? ⟨g1, k * 4 + 2, none⟩ = some (.int .i64 d.l) ∧ W.cell? ⟨g1, k * 4 + 3, none⟩ = some (.int .i64 d.r)) ∧ (W.cell? ⟨g2, k * 4, none⟩ = some (.string d.nm) ∧ W.cell? ⟨g2, k * 4 + 1, none⟩ = some (.int .i64 d.s) ∧ W.cell? ⟨g2, k * 4 + 2, none⟩ = some (.int .i64 d.r) ∧ W.cell? ⟨g2, k * 4 + 3, none⟩ = some (.int .i64 d.l)) from fun W h => by
          have hb : Below w3.heap.size w3 W := H36.out.trans ((HBR.out.trans (h.mono HBR.out.size)).mono H36.out.size)
          have hb1 : Below w2.heap.size w2 W := HB23.out.trans (hb.mono HB23.out.size)
          exact ⟨(hz1.same (hb1.block g1 hg1)).dif, (hz2.same (hb.block g2 hg2)).dif⟩)
        clear hz1 hz2 hdd hg1 hg2
        go_upto_region 9 with (fail)
        refine wp_region_held_drew (S := (fun W => Below wo.heap.size wo W)) (by kernel_rfl) ((Below.refl _ _).drew) (fun hS => ?_)
        refine wpAnyH_take (i := 0) (oi := _) (v := ?_) rfl (by kernel_rfl) (by kernel_rfl) (by kernel_rfl) (fun _ _ _ h => h) (Or.inl ⟨by rfl, ?_⟩) hS ?_
        rotate_left
        · intro w' hw'
          have hcells := HC.out w' hw'
          go_simp
          (try with_reducible rfl)
        simp only [Act.put, List.getElem_toArray, List.getElem_cons_succ, List.getElem_cons_zero, List.setIfInBounds_toArray, List.set_cons_zero, List.set_cons_succ]
        refine wpAnyH_take (i := 1) (oi := _) (v := ?_) rfl (by kernel_rfl) (by kernel_rfl) (by kernel_rfl) (fun _ _ _ h => h) (Or.inl ⟨by rfl, ?_⟩) hS ?_
        rotate_left
        · intro w' hw'
          have hcells := HC.out w' hw'
          go_simp
          (try with_reducible rfl)
        simp only [Act.put, List.getElem_toArray, List.getElem_cons_succ, List.getElem_cons_zero, List.setIfInBounds_toArray, List.set_cons_zero, List.set_cons_succ]
        refine wpAnyH_take (i := 2) (oi := _) (v := ?_) rfl (by kernel_rfl) (by kernel_rfl) (by kernel_rfl) (fun _ _ _ h => h) (Or.inl ⟨by rfl, ?_⟩) hS ?_
        rotate_left
        · intro w' hw'
          have hcells := HC.out w' hw'
          go_simp
          (try with_reducible rfl)
        simp only [Act.put, List.getElem_toArray, List.getElem_cons_succ, List.getElem_cons_zero, List.setIfInBounds_toArray, List.set_cons_zero, List.set_cons_succ]
        refine wpAnyH_take (i := 3) (oi := _) (v := ?_) rfl (by kernel_rfl) (by kernel_rfl) (by kernel_rfl) (fun _ _ _ h => h) (Or.inl ⟨by rfl, ?_⟩) hS ?_
        rotate_left
        · intro w' hw'
          have hcells := HC.out w' hw'
          go_simp
          (try with_reducible rfl)
        simp only [Act.put, List.getElem_toArray, List.getElem_cons_succ, List.getElem_cons_zero, List.setIfInBounds_toArray, List.set_cons_zero, List.set_cons_succ]
        refine wpAnyH_take (i := 4) (oi := _) (v := ?_) rfl (by kernel_rfl) (by kernel_rfl) (by kernel_rfl) (fun _ _ _ h => h) (Or.inl ⟨by rfl, ?_⟩) hS ?_
        rotate_left
        · intro w' hw'
          have hcells := HC.out w' hw'
          go_simp
          (try with_reducible rfl)
        simp only [Act.put, List.getElem_toArray, List.getElem_cons_succ, List.getElem_cons_zero, List.setIfInBounds_toArray, List.set_cons_zero, List.set_cons_succ]
        refine wpAnyH_take (i := 5) (oi := _) (v := ?_) rfl (by kernel_rfl) (by kernel_rfl) (by kernel_rfl) (fun _ _ _ h => h) (Or.inl ⟨by rfl, ?_⟩) hS ?_
        rotate_left
        · intro w' hw'
          have hcells := HC.out w' hw'
          go_simp
          (try with_reducible rfl)
        simp only [Act.put, List.getElem_toArray, List.getElem_cons_succ, List.getElem_cons_zero, List.setIfInBounds_toArray, List.set_cons_zero, List.set_cons_succ]
        refine wpAnyH_take (i := 6) (oi := _) (v := ?_) rfl (by kernel_rfl) (by kernel_rfl) (by kernel_rfl) (fun _ _ _ h => h) (Or.inl ⟨by rfl, ?_⟩) hS ?_
        rotate_left
        · intro w' hw'
          have hcells := HC.out w' hw'
          go_simp
          (try with_reducible rfl)
        simp only [Act.put, List.getElem_toArray, List.getElem_cons_succ, List.getElem_cons_zero, List.setIfInBounds_toArray, List.set_cons_zero, List.set_cons_succ]
        refine wpAnyH_take (i := 7) (oi := _) (v := ?_) rfl (by kernel_rfl) (by kernel_rfl) (by kernel_rfl) (fun _ _ _ h => h) (Or.inl ⟨by rfl, ?_⟩) hS ?_
        rotate_left
        · intro w' hw'
          have hcells := HC.out w' hw'
          go_simp
          (try with_reducible rfl)
        simp only [Act.put, List.getElem_toArray, List.getElem_cons_succ, List.getElem_cons_zero, List.setIfInBounds_toArray, List.set_cons_zero, List.set_cons_succ]
        refine wpAnyH_take (i := 8) (oi := _) (v := ?_) rfl (by kernel_rfl) (by kernel_rfl) (by kernel_rfl) (fun _ _ _ h => h) (Or.inl ⟨by rfl, ?_⟩) hS ?_
        rotate_left
        · intro w' hw'
          have hcells := HC.out w' hw'
          go_simp
          (try with_reducible rfl)
        simp only [Act.put, List.getElem_toArray, List.getElem_cons_succ, List.getElem_cons_zero, List.setIfInBounds_toArray, List.set_cons_zero, List.set_cons_succ]
        refine wpAnyH_take (i := 9) (oi := _) (v := ?_) rfl (by kernel_rfl) (by kernel_rfl) (by kernel_rfl) (fun _ _ _ h => h) (Or.inl ⟨by rfl, ?_⟩) hS ?_
        rotate_left
        · intro w' hw'
          have hcells := HC.out w' hw'
          go_simp
          (try with_reducible rfl)
        simp only [Act.put, List.getElem_toArray, List.getElem_cons_succ, List.getElem_cons_zero, List.setIfInBounds_toArray, List.set_cons_zero, List.set_cons_succ]
        refine wpAnyH_take (i := 10) (oi := _) (v := ?_) rfl (by kernel_rfl) (by kernel_rfl) (by kernel_rfl) (fun _ _ _ h => h) (Or.inl ⟨by rfl, ?_⟩) hS ?_
        rotate_left
        · intro w' hw'
          have hcells := HC.out w' hw'
          go_simp
          (try with_reducible rfl)
        simp only [Act.put, List.getElem_toArray, List.getElem_cons_succ, List.getElem_cons_zero, List.setIfInBounds_toArray, List.set_cons_zero, List.set_cons_succ]
        refine wpAnyH_take (i := 11) (oi := _) (v := ?_) rfl (by kernel_rfl) (by kernel_rfl) (by kernel_rfl) (fun _ _ _ h => h) (Or.inl ⟨by rfl, ?_⟩) hS ?_
        rotate_left
        · intro w' hw'
          have hcells := HC.out w' hw'
          go_simp
          (try with_reducible rfl)
        simp only [Act.put, List.getElem_toArray, List.getElem_cons_succ, List.getElem_cons_zero, List.setIfInBounds_toArray, List.set_cons_zero, List.set_cons_succ]
        refine wpAnyH_take (i := 12) (oi := _) (v := ?_) rfl (by kernel_rfl) (by kernel_rfl) (by kernel_rfl) (fun _ _ _ h => h) (Or.inl ⟨by rfl, ?_⟩) hS ?_
        rotate_left
        · intro w' hw'
          have hcells := HC.out w' hw'
          go_simp
          (try with_reducible rfl)
        simp only [Act.put, List.getElem_toArray, List.getElem_cons_succ, List.getElem_cons_zero, List.setIfInBounds_toArray, List.set_cons_zero, List.set_cons_succ]
        refine wpAnyH_take (i := 13) (oi := _) (v := ?_) rfl (by kernel_rfl) (by kernel_rfl) (by kernel_rfl) (fun _ _ _ h => h) (Or.inl ⟨by rfl, ?_⟩) hS ?_
        rotate_left
        · intro w' hw'
          have hcells := HC.out w' hw'
          go_simp
          (try with_reducible rfl)
        simp only [Act.put, List.getElem_toArray, List.getElem_cons_succ, List.getElem_cons_zero, List.setIfInBounds_toArray, List.set_cons_zero, List.set_cons_succ]
        refine wpAnyH_take (i := 14) (oi := _) (v := ?_) rfl (by kernel_rfl) (by kernel_rfl) (by kernel_rfl) (fun _ _ _ h => h) (Or.inl ⟨by rfl, ?_⟩) hS ?_
        rotate_left
        · intro w' hw'
          have hcells := HC.out w' hw'
          go_simp
          (try with_reducible rfl)
        simp only [Act.put, List.getElem_toArray, List.getElem_cons_succ, List.getElem_cons_zero, List.setIfInBounds_toArray, List.set_cons_zero, List.set_cons_succ]
        refine wpAnyH_take (i := 15) (oi := _) (v := ?_) rfl (by kernel_rfl) (by kernel_rfl) (by kernel_rfl) (fun _ _ _ h => h) (Or.inl ⟨by rfl, ?_⟩) hS ?_
        rotate_left
        · intro w' hw'
          have hcells := HC.out w' hw'
          go_simp
          (try with_reducible rfl)
        simp only [Act.put, List.getElem_toArray, List.getElem_cons_succ, List.getElem_cons_zero, List.setIfInBounds_toArray, List.set_cons_zero, List.set_cons_succ]
        refine wpAnyH_take (i := 16) (oi := _) (v := ?_) rfl (by kernel_rfl) (by kernel_rfl) (by kernel_rfl) (fun _ _ _ h => h) (Or.inl ⟨by rfl, ?_⟩) hS ?_
        rotate_left
        · intro w' hw'
          have hcells := HC.out w' hw'
          go_simp
          (try with_reducible rfl)
        simp only [Act.put, List.getElem_toArray, List.getElem_cons_succ, List.getElem_cons_zero, List.setIfInBounds_toArray, List.set_cons_zero, List.set_cons_succ]
        refine wpAnyH_take (i := 17) (oi := _) (v := ?_) rfl (by kernel_rfl) (by kernel_rfl) (by kernel_rfl) (fun _ _ _ h => h) (Or.inl ⟨by rfl, ?_⟩) hS ?_
        rotate_left
        · intro w' hw'
          have hcells := HC.out w' hw'
          go_simp
          (try with_reducible rfl)
        simp only [Act.put, List.getElem_toArray, List.getElem_cons_succ, List.getElem_cons_zero, List.setIfInBounds_toArray, List.set_cons_zero, List.set_cons_succ]
        refine wpAnyH_take (i := 18) (oi := _) (v := ?_) rfl (by kernel_rfl) (by kernel_rfl) (by kernel_rfl) (fun _ _ _ h => h) (Or.inl ⟨by rfl, ?_⟩) hS ?_
        rotate_left
        · intro w' hw'
          have hcells := HC.out w' hw'
          go_simp
          (try with_reducible rfl)
        simp only [Act.put, List.getElem_toArray, List.getElem_cons_succ, List.getElem_cons_zero, List.setIfInBounds_toArray, List.set_cons_zero, List.set_cons_succ]
        refine wpAnyH_take (i := 19) (oi := _) (v := ?_) rfl (by kernel_rfl) (by kernel_rfl) (by kernel_rfl) (fun _ _ _ h => h) (Or.inl ⟨by rfl, ?_⟩) hS ?_
        rotate_left
        · intro w' hw'
          have hcells := HC.out w' hw'
          go_simp
          (try with_reducible rfl)
        simp only [Act.put, List.getElem_toArray, List.getElem_cons_succ, List.getElem_cons_zero, List.setIfInBounds_toArray, List.set_cons_zero, List.set_cons_succ]
        refine wpAnyH_take (i := 20) (oi := _) (v := ?_) rfl (by kernel_rfl) (by kernel_rfl) (by kernel_rfl) (fun _ _ _ h => h) (Or.inl ⟨by rfl, ?_⟩) hS ?_
        rotate_left
        · intro w' hw'
          have hcells := HC.out w' hw'
          go_simp
          (try with_reducible rfl)
        simp only [Act.put, List.getElem_toArray, List.getElem_cons_succ, List.getElem_cons_zero, List.setIfInBounds_toArray, List.set_cons_zero, List.set_cons_succ]
        refine wpAnyH_take (i := 21) (oi := _) (v := ?_) rfl (by kernel_rfl) (by kernel_rfl) (by kernel_rfl) (fun _ _ _ h => h) (Or.inl ⟨by rfl, ?_⟩) hS ?_
        rotate_left
        · intro w' hw'
          have hcells := HC.out w' hw'
          go_simp
          (try with_reducible rfl)
        simp only [Act.put, List.getElem_toArray, List.getElem_cons_succ, List.getElem_cons_zero, List.setIfInBounds_toArray, List.set_cons_zero, List.set_cons_succ]
        refine wpAnyH_take (i := 22) (oi := _) (v := ?_) rfl (by kernel_rfl) (by kernel_rfl) (by kernel_rfl) (fun _ _ _ h => h) (Or.inl ⟨by rfl, ?_⟩) hS ?_
        rotate_left
        · intro w' hw'
          have hcells := HC.out w' hw'
          go_simp
          (try with_reducible rfl)
        simp only [Act.put, List.getElem_toArray, List.getElem_cons_succ, List.getElem_cons_zero, List.setIfInBounds_toArray, List.set_cons_zero, List.set_cons_succ]
        refine wpAnyH_take (i := 23) (oi := _) (v := ?_) rfl (by kernel_rfl) (by kernel_rfl) (by kernel_rfl) (fun _ _ _ h => h) (Or.inl ⟨by rfl, ?_⟩) hS ?_
        rotate_left
        · intro w' hw'
          have hcells := HC.out w' hw'
          go_simp
          (try with_reducible rfl)
        simp only [Act.put, List.getElem_toArray, List.getElem_cons_succ, List.getElem_cons_zero, List.setIfInBounds_toArray, List.set_cons_zero, List.set_cons_succ]
        refine wpAnyH_take (i := 24) (oi := _) (v := ?_) rfl (by kernel_rfl) (by kernel_rfl) (by kernel_rfl) (fun _ _ _ h => h) (Or.inl ⟨by rfl, ?_⟩) hS ?_
        rotate_left
        · intro w' hw'
          have hcells := HC.out w' hw'
          go_simp
          (try with_reducible rfl)
        simp only [Act.put, List.getElem_toArray, List.getElem_cons_succ, List.getElem_cons_zero, List.setIfInBounds_toArray, List.set_cons_zero, List.set_cons_succ]
        refine wpAnyH_take (i := 25) (oi := _) (v := ?_) rfl (by kernel_rfl) (by kernel_rfl) (by kernel_rfl) (fun _ _ _ h => h) (Or.inl ⟨by rfl, ?_⟩) hS ?_
        rotate_left
        · intro w' hw'
          have hcells := HC.out w' hw'
          go_simp
          (try with_reducible rfl)
        simp only [Act.put, List.getElem_toArray, List.getElem_cons_succ, List.getElem_cons_zero, List.setIfInBounds_toArray, List.set_cons_zero, List.set_cons_succ]
        refine wpAnyH_take (i := 26) (oi := _) (v := ?_) rfl (by kernel_rfl) (by kernel_rfl) (by kernel_rfl) (fun _ _ _ h => h) (Or.inl ⟨by rfl, ?_⟩) hS ?_
        rotate_left
        · intro w' hw'
          have hcells := HC.out w' hw'
          go_simp
          (try with_reducible rfl)
        simp only [Act.put, List.getElem_toArray, List.getElem_cons_succ, List.getElem_cons_zero, List.setIfInBounds_toArray, List.set_cons_zero, List.set_cons_succ]
        refine wpAnyH_take (i := 27) (oi := _) (v := ?_) rfl (by kernel_rfl) (by kernel_rfl) (by kernel_rfl) (fun _ _ _ h => h) (Or.inl ⟨by rfl, ?_⟩) hS ?_
        rotate_left
        · intro w' hw'
          have hcells := HC.out w' hw'
          go_simp
          (try with_reducible rfl)
        simp only [Act.put, List.getElem_toArray, List.getElem_cons_succ, List.getElem_cons_zero, List.setIfInBounds_toArray, List.set_cons_zero, List.set_cons_succ]
        refine wpAnyH_take (i := 28) (oi := _) (v := ?_) rfl (by kernel_rfl) (by kernel_rfl) (by kernel_rfl) (fun _ _ _ h => h) (Or.inl ⟨by rfl, ?_⟩) hS ?_
        rotate_left
        · intro w' hw'
          have hcells := HC.out w' hw'
          go_simp
          (try with_reducible rfl)
        simp only [Act.put, List.getElem_toArray, List.getElem_cons_succ, List.getElem_cons_zero, List.setIfInBounds_toArray, List.set_cons_zero, List.set_cons_succ]
        refine wpAnyH_take (i := 29) (oi := _) (v := ?_) rfl (by kernel_rfl) (by kernel_rfl) (by kernel_rfl) (fun _ _ _ h => h) (Or.inl ⟨by rfl, ?_⟩) hS ?_
        rotate_left
        · intro w' hw'
          have hcells := HC.out w' hw'
          go_simp
          (try with_reducible rfl)
        simp only [Act.put, List.getElem_toArray, List.getElem_cons_succ, List.getElem_cons_zero, List.setIfInBounds_toArray, List.set_cons_zero, List.set_cons_succ]
        refine wpAnyH_take (i := 30) (oi := _) (v := ?_) rfl (by kernel_rfl) (by kernel_rfl) (by kernel_rfl) (fun _ _ _ h => h) (Or.inl ⟨by rfl, ?_⟩) hS ?_
        rotate_left
        · intro w' hw'
          have hcells := HC.out w' hw'
          go_simp
          (try with_reducible rfl)
        simp only [Act.put, List.getElem_toArray, List.getElem_cons_succ, List.getElem_cons_zero, List.setIfInBounds_toArray, List.set_cons_zero, List.set_cons_succ]
        refine wpAnyH_take (i := 31) (oi := _) (v := ?_) rfl (by kernel_rfl) (by kernel_rfl) (by kernel_rfl) (fun _ _ _ h => h) (Or.inl ⟨by rfl, ?_⟩) hS ?_
        rotate_left
        · intro w' hw'
          have hcells := HC.out w' hw'
          go_simp
          (try with_reducible rfl)
        simp only [Act.put, List.getElem_toArray, List.getElem_cons_succ, List.getElem_cons_zero, List.setIfInBounds_toArray, List.set_cons_zero, List.set_cons_succ]
        refine wpAnyH_take (i := 32) (oi := _) (v := ?_) rfl (by kernel_rfl) (by kernel_rfl) (by kernel_rfl) (fun _ _ _ h => h) (Or.inl ⟨by rfl, ?_⟩) hS ?_
        rotate_left
        · intro w' hw'
          have hcells := HC.out w' hw'
          go_simp
          (try with_reducible rfl)
        simp only [Act.put, List.getElem_toArray, List.getElem_cons_succ, List.getElem_cons_zero, List.setIfInBounds_toArray, List.set_cons_zero, List.set_cons_succ]
        refine wpAnyH_take (i := 33) (oi := _) (v := ?_) rfl (by kernel_rfl) (by kernel_rfl) (by kernel_rfl) (fun _ _ _ h => h) (Or.inl ⟨by rfl, ?_⟩) hS ?_
        rotate_left
        · intro w' hw'
          have hcells := HC.out w' hw'
          go_simp
          (try with_reducible rfl)
        simp only [Act.put, List.getElem_toArray, List.getElem_cons_succ, List.getElem_cons_zero, List.setIfInBounds_toArray, List.set_cons_zero, List.set_cons_succ]
        refine wpAnyH_take (i := 34) (oi := _) (v := ?_) rfl (by kernel_rfl) (by kernel_rfl) (by kernel_rfl) (fun _ _ _ h => h) (Or.inl ⟨by rfl, ?_⟩) hS ?_
        rotate_left
        · intro w' hw'
          have hcells := HC.out w' hw'
          go_simp
          (try with_reducible rfl)
        simp only [Act.put, List.getElem_toArray, List.getElem_cons_succ, List.getElem_cons_zero, List.setIfInBounds_toArray, List.set_cons_zero, List.set_cons_succ]
        refine wpAnyH_take (i := 35) (oi := _) (v := ?_) rfl (by kernel_rfl) (by kernel_rfl) (by kernel_rfl) (fun _ _ _ h => h) (Or.inl ⟨by rfl, ?_⟩) hS ?_
        rotate_left
        · intro w' hw'
          have hcells := HC.out w' hw'
          go_simp
          (try with_reducible rfl)
        simp only [Act.put, List.getElem_toArray, List.getElem_cons_succ, List.getElem_cons_zero, List.setIfInBounds_toArray, List.set_cons_zero, List.set_cons_succ]
        refine wpAnyH_take (i := 36) (oi := _) (v := ?_) rfl (by kernel_rfl) (by kernel_rfl) (by kernel_rfl) (fun _ _ _ h => h) (Or.inl ⟨by rfl, ?_⟩) hS ?_
        rotate_left
        · intro w' hw'
          have hcells := HC.out w' hw'
          go_simp
          (try with_reducible rfl)
        simp only [Act.put, List.getElem_toArray, List.getElem_cons_succ, List.getElem_cons_zero, List.setIfInBounds_toArray, List.set_cons_zero, List.set_cons_succ]
        refine wpAnyH_take (i := 37) (oi := _) (v := ?_) rfl (by kernel_rfl) (by kernel_rfl) (by kernel_rfl) (fun _ _ _ h => h) (Or.inl ⟨by rfl, ?_⟩) hS ?_
        rotate_left
        · intro w' hw'
          have hcells := HC.out w' hw'
          go_simp
          (try with_reducible rfl)
        simp only [Act.put, List.getElem_toArray, List.getElem_cons_succ, List.getElem_cons_zero, List.setIfInBounds_toArray, List.set_cons_zero, List.set_cons_succ]
        refine wpAnyH_take (i := 38) (oi := _) (v := ?_) rfl (by kernel_rfl) (by kernel_rfl) (by kernel_rfl) (fun _ _ _ h => h) (Or.inl ⟨by rfl, ?_⟩) hS ?_
        rotate_left
        · intro w' hw'
          have hcells := HC.out w' hw'
          go_simp
          (try with_reducible rfl)
        simp only [Act.put, List.getElem_toArray, List.getElem_cons_succ, List.getElem_cons_zero, List.setIfInBounds_toArray, List.set_cons_zero, List.set_cons_succ]
        refine wpAnyH_take (i := 39) (oi := _) (v := ?_) rfl (by kernel_rfl) (by kernel_rfl) (by kernel_rfl) (fun _ _ _ h => h) (Or.inl ⟨by rfl, ?_⟩) hS ?_
        rotate_left
        · intro w' hw'
          have hcells := HC.out w' hw'
          go_simp
          (try with_reducible rfl)
        simp only [Act.put, List.getElem_toArray, List.getElem_cons_succ, List.getElem_cons_zero, List.setIfInBounds_toArray, List.set_cons_zero, List.set_cons_succ]
        refine wpAnyH_take (i := 40) (oi := _) (v := ?_) rfl (by kernel_rfl) (by kernel_rfl) (by kernel_rfl) (fun _ _ _ h => h) (Or.inl ⟨by rfl, ?_⟩) hS ?_
        rotate_left
        · intro w' hw'
          have hcells := HC.out w' hw'
          go_simp
          (try with_reducible rfl)
        simp only [Act.put, List.getElem_toArray, List.getElem_cons_succ, List.getElem_cons_zero, List.setIfInBounds_toArray, List.set_cons_zero, List.set_cons_succ]
        refine wpAnyH_take (i := 41) (oi := _) (v := ?_) rfl (by kernel_rfl) (by kernel_rfl) (by kernel_rfl) (fun _ _ _ h => h) (Or.inl ⟨by rfl, ?_⟩) hS ?_
        rotate_left
        · intro w' hw'
          have hcells := HC.out w' hw'
          go_simp
          (try with_reducible rfl)
        simp only [Act.put, List.getElem_toArray, List.getElem_cons_succ, List.getElem_cons_zero, List.setIfInBounds_toArray, List.set_cons_zero, List.set_cons_succ]
        refine wpAnyH_take (i := 42) (oi := _) (v := ?_) rfl (by kernel_rfl) (by kernel_rfl) (by kernel_rfl) (fun _ _ _ h => h) (Or.inl ⟨by rfl, ?_⟩) hS ?_
        rotate_left
        · intro w' hw'
          have hcells := HC.out w' hw'
          go_simp
          (try with_reducible rfl)
        simp only [Act.put, List.getElem_toArray, List.getElem_cons_succ, List.getElem_cons_zero, List.setIfInBounds_toArray, List.set_cons_zero, List.set_cons_succ]
        refine wpAnyH_take (i := 43) (oi := _) (v := ?_) rfl (by kernel_rfl) (by kernel_rfl) (by kernel_rfl) (fun _ _ _ h => h) (Or.inl ⟨by rfl, ?_⟩) hS ?_
        rotate_left
        · intro w' hw'
          have hcells := HC.out w' hw'
          go_simp
          (try with_reducible rfl)
        simp only [Act.put, List.getElem_toArray, List.getElem_cons_succ, List.getElem_cons_zero, List.setIfInBounds_toArray, List.set_cons_zero, List.set_cons_succ]
        refine wpAnyH_take (i := 44) (oi := _) (v := ?_) rfl (by kernel_rfl) (by kernel_rfl) (by kernel_rfl) (fun _ _ _ h => h) (Or.inl ⟨by rfl, ?_⟩) hS ?_
        rotate_left
        · intro w' hw'
          have hcells := HC.out w' hw'
          go_simp
          (try with_reducible rfl)
        simp only [Act.put, List.getElem_toArray, List.getElem_cons_succ, List.getElem_cons_zero, List.setIfInBounds_toArray, List.set_cons_zero, List.set_cons_succ]
        refine wpAnyH_take (i := 45) (oi := _) (v := ?_) rfl (by kernel_rfl) (by kernel_rfl) (by kernel_rfl) (fun _ _ _ h => h) (Or.inl ⟨by rfl, ?_⟩) hS ?_
        rotate_left
        · intro w' hw'
          have hcells := HC.out w' hw'
          go_simp
          (try with_reducible rfl)
        simp only [Act.put, List.getElem_toArray, List.getElem_cons_succ, List.getElem_cons_zero, List.setIfInBounds_toArray, List.set_cons_zero, List.set_cons_succ]
        refine wpAnyH_take (i := 46) (oi := _) (v := ?_) rfl (by kernel_rfl) (by kernel_rfl) (by kernel_rfl) (fun _ _ _ h => h) (Or.inl ⟨by rfl, ?_⟩) hS ?_
        rotate_left
        · intro w' hw'
          have hcells := HC.out w' hw'
          go_simp
          (try with_reducible rfl)
        simp only [Act.put, List.getElem_toArray, List.getElem_cons_succ, List.getElem_cons_zero, List.setIfInBounds_toArray, List.set_cons_zero, List.set_cons_succ]
        refine wpAnyH_take (i := 47) (oi := _) (v := ?_) rfl (by kernel_rfl) (by kernel_rfl) (by kernel_rfl) (fun _ _ _ h => h) (Or.inl ⟨by rfl, ?_⟩) hS ?_
        rotate_left
        · intro w' hw'
          have hcells := HC.out w' hw'
          go_simp
          (try with_reducible rfl)
        simp only [Act.put, List.getElem_toArray, List.getElem_cons_succ, List.getElem_cons_zero, List.setIfInBounds_toArray, List.set_cons_zero, List.set_cons_succ]
        refine wpAnyH_take (i := 48) (oi := _) (v := ?_) rfl (by kernel_rfl) (by kernel_rfl) (by kernel_rfl) (fun _ _ _ h => h) (Or.inl ⟨by rfl, ?_⟩) hS ?_
        rotate_left
        · intro w' hw'
          have hcells := HC.out w' hw'
          go_simp
          (try with_reducible rfl)
        simp only [Act.put, List.getElem_toArray, List.getElem_cons_succ, List.getElem_cons_zero, List.setIfInBounds_toArray, List.set_cons_zero, List.set_cons_succ]
        refine wpAnyH_take (i := 49) (oi := _) (v := ?_) rfl (by kernel_rfl) (by kernel_rfl) (by kernel_rfl) (fun _ _ _ h => h) (Or.inl ⟨by rfl, ?_⟩) hS ?_
        rotate_left
        · intro w' hw'
          have hcells := HC.out w' hw'
          go_simp
          (try with_reducible rfl)
        simp only [Act.put, List.getElem_toArray, List.getElem_cons_succ, List.getElem_cons_zero, List.setIfInBounds_toArray, List.set_cons_zero, List.set_cons_succ]
        refine wpAnyH_done (by kernel_rfl) ?_ _
        (try dsimp only)
        have HBJ := hid hS
        clear hS HC
        go_wp2
        go_roundw
        case rel => exact ⟨k + 1, by omega, by go_num, HBR.out.trans (HBJ.out.mono HBR.out.size)⟩
        case measure => simp [intOf]; omega
      · obtain rfl : k = ds.length := by omega
        clear hlt
        have hnq : ¬ (ds.length : Int) < (ds.length : Int) := by omega
        go_wp2
        go_ret
        exact ⟨rfl, HW6.out.trans (HBR.out.mono HW6.out.size)⟩
end Go.Proofs.YtkljbfaemahchaaGreatDoor
