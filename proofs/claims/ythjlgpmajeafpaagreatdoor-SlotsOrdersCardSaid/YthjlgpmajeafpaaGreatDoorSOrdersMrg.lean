/-
  SlotsOrders returns true. Conditions: the list can be read as data; Tabs.
-/
import Derived.Test.YthjlgpmajeafpaaGreatDoorPutMrg
import Derived.Test.YthjlgpmajeafpaaGreatDoorPlaceMrg
import Derived.Test.YthjlgpmajeafpaaGreatDoorSmallSMrg
namespace Go.Proofs.YthjlgpmajeafpaaGreatDoor
open Go Go.RowKit Go.Shelf
set_option linter.unusedVariables false
set_option linter.unusedSimpArgs false

theorem fresh_key {l : List Slot} (h : KD l) {i : Nat} (hi : i < l.length) : placeB (putAll (l.take i)) l[i].k = false := by
  rw [placeB]
  split
  · rename_i y hy
    have hm := (putAll_perm (h.take i)).mem_iff.1 (List.mem_of_getElem? hy)
    obtain ⟨j, hj, rfl⟩ := List.getElem_of_mem hm
    rw [List.length_take] at hj
    have h1 := List.pairwise_iff_getElem.1 h j i (by omega) hi (by omega)
    rw [List.getElem_take]
    simpa using h1
  · rfl
set_option maxRecDepth 100000 in
set_option maxHeartbeats 16000000 in
theorem slotsOrders_call (a : Option Addr) (n c : Nat) (l : List Slot) (w : World) (hd : IsRow slK (· < w.heap.size) w a n c l) (hT : Tabs w) : Calls Tryz.prog 11 #[.slice a n c] w fun e w' => e = .returned (.bool true) ∧ Below w.heap.size w w' := by
  have HT := hid hT
  have HD := hid hd
  have HL := hid hd.len
  have HK : Hid (∀ w', Below w.heap.size w w' → Calls Tryz.prog 29 #[] w' fun e w2 => e = .returned (.bool true) ∧ Below w'.heap.size w' w2) := hid fun w' h => knownS_call w' (HT.out.below h)
  have HSM : Hid (∀ w', Below w.heap.size w w' → Calls Tryz.prog 30 #[.agg #[.int .i64 0, .int .i64 0, .slice a n c]] w' (SmStPost ⟨0, 0, l⟩ w')) := hid fun w' h => smallSta_call ⟨0, 0, a, n, c⟩ ⟨0, 0, l⟩ w' ⟨rfl, (show I64 0 from ⟨by decide, by decide⟩), rfl, (show I64 0 from ⟨by decide, by decide⟩), HD.out.same fun b q => ⟨Nat.lt_of_lt_of_le q h.size, h.block b q⟩⟩
  clear hd hT
  go_enter Tryz.func11, Tryz.ntmps11
  go_upto_region 3 with (first
    | (go_at_call 29; refine (HK.out _ hb3).mono ?_; rintro e w9 ⟨rfl, hb9⟩; have hbz := hb3.trans (hb9.mono hb3.size))
    | (go_at_call 30; refine (HSM.out _ hb2).mono ?_; rintro e w3 ⟨⟨b1, rfl, hs1⟩, hb3'⟩; have hb3 := hb2.trans (hb3'.mono hb2.size); cases b1)
    | (go_at_call 29; refine (HK.out _ (Below.refl _ _)).mono ?_; rintro e w2 ⟨rfl, hb2⟩))
  · go_ret
    exact ⟨rfl, hbz⟩
  have hsm : SmSta ⟨0, 0, l⟩ := by first | exact hs1 rfl | exact hs1 trivial | exact hs1
  have hn10 : n ≤ 10 := by have h1 := hsm.1; have h2 := HL.out; dsimp only at h1; omega
  have HB3 := hid hb3
  have HU3 : Hid (∀ w', Below w3.heap.size w3 w' → Below w.heap.size w w') := hid fun w' h => HB3.out.trans (h.mono HB3.out.size)
  clear HK HSM hs1 hb3' hb2 hb3 hsm
  go_wp2
  go_loopw [3] (fun iv wr => ∃ i : Nat, i ≤ n ∧ iv = .int .i64 i ∧ Below w3.heap.size w3 wr ∧ ∀ (i' k' : Nat) (hi' : i' < l.length) (hk' : k' < i'), (i' < i ∨ (i' = i ∧ k' < 0)) → cmpV l[i'].k (l[k']'(by omega)).k ≠ 0) (fun iv _ => n - (intOf iv).toNat)
  case atStart => exact ⟨0, Nat.zero_le _, rfl, Below.refl _ _, fun i' k' _ _ h => by omega⟩
  case round =>
  obtain ⟨i, hin, rfl, hbr, hfa⟩ := hrel
  by_cases hlt : i < n
  · have HBR0 := hid hbr
    have HF0 := hid hfa
    have hi1 : (i : Int) < (n : Int) := by omega
    clear hbr hfa
    go_wp2
    go_loopw [4] (fun kv wr2 => ∃ k : Nat, k ≤ i ∧ kv = .int .i64 k ∧ Below w3.heap.size w3 wr2 ∧ ∀ (i' k' : Nat) (hi' : i' < l.length) (hk' : k' < i'), (i' < i ∨ (i' = i ∧ k' < k)) → cmpV l[i'].k (l[k']'(by omega)).k ≠ 0) (fun kv _ => i - (intOf kv).toNat)
    case atStart => exact ⟨0, Nat.zero_le _, rfl, HBR0.out, HF0.out⟩
    case round =>
    obtain ⟨k, hk, rfl, hbr, hfa⟩ := hrel
    obtain ⟨wz, hwz⟩ : ∃ u, u = wr := ⟨_, rfl⟩
    rw [← hwz] at hbr ⊢
    clear hwz HBR0 HF0
    have HBR := hid hbr
    have HF := hid hfa
    clear hbr hfa
    by_cases hlk : k < i
    · have hil : i < l.length := by have := HL.out; omega
      obtain ⟨b, o, hab, hb, hx⟩ := HD.out.slot (show 0 < n by omega)
      subst hab
      obtain ⟨x, hxa, hxi⟩ := hx i hil
      obtain ⟨y, hya, hyi⟩ := hx k (by omega)
      obtain ⟨eb, heb⟩ : ∃ eb, eb = (cmpV l[i].k (l[k]'(by omega)).k == 0) := ⟨_, rfl⟩
      have HC9 : Hid (∀ w', Below wz.heap.size wz w' → (w'.cell? ⟨b, o + i * 10, none⟩ = some (.int .i64 x.k.k) ∧ w'.cell? ⟨b, o + i * 10 + 1, none⟩ = some (.int .i64 x.k.i) ∧ w'.cell? ⟨b, o + i * 10 + 2, none⟩ = some (.int .i64 x.k.s) ∧ w'.cell? ⟨b, o + i * 10 + 3, none⟩ = some (.string x.k.t) ∧ w'.cell? ⟨b, o + i * 10 + 4, none⟩ = some (.slice x.k.la x.k.ll x.k.lc) ∧ w'.cell? ⟨b, o + i * 10 + 5, none⟩ = some (.slice x.k.fa x.k.fl x.k.fc)) ∧ (w'.cell? ⟨b, o + k * 10, none⟩ = some (.int .i64 y.k.k) ∧ w'.cell? ⟨b, o + k * 10 + 1, none⟩ = some (.int .i64 y.k.i) ∧ w'.cell? ⟨b, o + k * 10 + 2, none⟩ = some (.int .i64 y.k.s) ∧ w'.cell? ⟨b, o + k * 10 + 3, none⟩ = some (.string y.k.t) ∧ w'.cell? ⟨b, o + k * 10 + 4, none⟩ = some (.slice y.k.la y.k.ll y.k.lc) ∧ w'.cell? ⟨b, o + k * 10 + 5, none⟩ = some (.slice y.k.fa y.k.fl y.k.fc))) := hid fun w' h => by
        have h1 := HU3.out _ (HBR.out.trans (h.mono HBR.out.size))
        obtain ⟨x0, x1, x2, x3, x4, x5, _⟩ := (hxa.same (h1.block b hb)).slot
        obtain ⟨y0, y1, y2, y3, y4, y5, _⟩ := (hya.same (h1.block b hb)).slot
        exact ⟨⟨x0, x1, x2, x3, x4, x5⟩, ⟨y0, y1, y2, y3, y4, y5⟩⟩
      have HEQ : Hid (∀ w', Below wz.heap.size wz w' → Calls Tryz.prog 52 #[.agg #[.int .i64 x.k.k, .int .i64 x.k.i, .int .i64 x.k.s, .string x.k.t, .slice x.k.la x.k.ll x.k.lc, .slice x.k.fa x.k.fl x.k.fc], .agg #[.int .i64 y.k.k, .int .i64 y.k.i, .int .i64 y.k.s, .string y.k.t, .slice y.k.la y.k.ll y.k.lc, .slice y.k.fa y.k.fl y.k.fc]] w' fun e w2 => e = .returned (.bool eb) ∧ Below w'.heap.size w' w2) := hid fun w' h => by
        have h1 := HU3.out _ (HBR.out.trans (h.mono HBR.out.size))
        rw [heb]
        exact valEqual_call x.k y.k _ _ w' (hxi.k.same fun b q => ⟨Nat.lt_of_lt_of_le q h1.size, h1.block b q⟩) (hyi.k.same fun b q => ⟨Nat.lt_of_lt_of_le q h1.size, h1.block b q⟩)
      have HNE : Hid (eb = false → ∀ (h : i < l.length) (h' : k < i), cmpV l[i].k (l[k]'(by omega)).k ≠ 0) := hid fun h0 h h' e => by rw [h0, e] at heb; cases heb
      have hi1 : (i : Int) < (n : Int) := by omega
      have hi0 : (0 : Int) ≤ (i : Int) := by omega
      have hk1 : (k : Int) < (n : Int) := by omega
      have hk0 : (0 : Int) ≤ (k : Int) := by omega
      have hki : (k : Int) < (i : Int) := by omega
      have hn10 : (n : Int) ≤ 10 := by omega
      clear hx hxa hxi hya hyi hb heb
      cases eb with
      | true =>
        go_upto_region 9 with (fail)
        refine wp_region_split 11 (fun w' => Below wz.heap.size wz w') (by kernel_rfl) (by kernel_rfl) (by kernel_rfl) (by decide) ((Below.refl _ _).drew) (fun hS => ?_)
        simp only [List.take_succ_cons, List.take_zero, List.drop_succ_cons, List.drop_zero]
        refine wpAnyH_take (i := 0) (oi := _) (v := ?_) rfl (by kernel_rfl) (by kernel_rfl) (by kernel_rfl) (fun _ _ _ h => h) (Or.inl ⟨by rfl, ?_⟩) hS ?_
        rotate_left
        · intro w' hw'
          have hcells := HC9.out w' hw'
          go_simp
          (try with_reducible rfl)
        simp only [Act.put, List.getElem_toArray, List.getElem_cons_succ, List.getElem_cons_zero, List.setIfInBounds_toArray, List.set_cons_zero, List.set_cons_succ]
        refine wpAnyH_take (i := 1) (oi := _) (v := ?_) rfl (by kernel_rfl) (by kernel_rfl) (by kernel_rfl) (fun _ _ _ h => h) (Or.inl ⟨by rfl, ?_⟩) hS ?_
        rotate_left
        · intro w' hw'
          have hcells := HC9.out w' hw'
          go_simp
          (try with_reducible rfl)
        simp only [Act.put, List.getElem_toArray, List.getElem_cons_succ, List.getElem_cons_zero, List.setIfInBounds_toArray, List.set_cons_zero, List.set_cons_succ]
        refine wpAnyH_take (i := 2) (oi := _) (v := ?_) rfl (by kernel_rfl) (by kernel_rfl) (by kernel_rfl) (fun _ _ _ h => h) (Or.inl ⟨by rfl, ?_⟩) hS ?_
        rotate_left
        · intro w' hw'
          have hcells := HC9.out w' hw'
          go_simp
          (try with_reducible rfl)
        simp only [Act.put, List.getElem_toArray, List.getElem_cons_succ, List.getElem_cons_zero, List.setIfInBounds_toArray, List.set_cons_zero, List.set_cons_succ]
        refine wpAnyH_take (i := 3) (oi := _) (v := ?_) rfl (by kernel_rfl) (by kernel_rfl) (by kernel_rfl) (fun _ _ _ h => h) (Or.inl ⟨by rfl, ?_⟩) hS ?_
        rotate_left
        · intro w' hw'
          have hcells := HC9.out w' hw'
          go_simp
          (try with_reducible rfl)
        simp only [Act.put, List.getElem_toArray, List.getElem_cons_succ, List.getElem_cons_zero, List.setIfInBounds_toArray, List.set_cons_zero, List.set_cons_succ]
        refine wpAnyH_take (i := 4) (oi := _) (v := ?_) rfl (by kernel_rfl) (by kernel_rfl) (by kernel_rfl) (fun _ _ _ h => h) (Or.inl ⟨by rfl, ?_⟩) hS ?_
        rotate_left
        · intro w' hw'
          have hcells := HC9.out w' hw'
          go_simp
          (try with_reducible rfl)
        simp only [Act.put, List.getElem_toArray, List.getElem_cons_succ, List.getElem_cons_zero, List.setIfInBounds_toArray, List.set_cons_zero, List.set_cons_succ]
        refine wpAnyH_take (i := 5) (oi := _) (v := ?_) rfl (by kernel_rfl) (by kernel_rfl) (by kernel_rfl) (fun _ _ _ h => h) (Or.inl ⟨by rfl, ?_⟩) hS ?_
        rotate_left
        · intro w' hw'
          have hcells := HC9.out w' hw'
          go_simp
          (try with_reducible rfl)
        simp only [Act.put, List.getElem_toArray, List.getElem_cons_succ, List.getElem_cons_zero, List.setIfInBounds_toArray, List.set_cons_zero, List.set_cons_succ]
        refine wpAnyH_take (i := 6) (oi := _) (v := ?_) rfl (by kernel_rfl) (by kernel_rfl) (by kernel_rfl) (fun _ _ _ h => h) (Or.inl ⟨by rfl, ?_⟩) hS ?_
        rotate_left
        · intro w' hw'
          have hcells := HC9.out w' hw'
          go_simp
          (try with_reducible rfl)
        simp only [Act.put, List.getElem_toArray, List.getElem_cons_succ, List.getElem_cons_zero, List.setIfInBounds_toArray, List.set_cons_zero, List.set_cons_succ]
        refine wpAnyH_take (i := 7) (oi := _) (v := ?_) rfl (by kernel_rfl) (by kernel_rfl) (by kernel_rfl) (fun _ _ _ h => h) (Or.inl ⟨by rfl, ?_⟩) hS ?_
        rotate_left
        · intro w' hw'
          have hcells := HC9.out w' hw'
          go_simp
          (try with_reducible rfl)
        simp only [Act.put, List.getElem_toArray, List.getElem_cons_succ, List.getElem_cons_zero, List.setIfInBounds_toArray, List.set_cons_zero, List.set_cons_succ]
        refine wpAnyH_take (i := 8) (oi := _) (v := ?_) rfl (by kernel_rfl) (by kernel_rfl) (by kernel_rfl) (fun _ _ _ h => h) (Or.inl ⟨by rfl, ?_⟩) hS ?_
        rotate_left
        · intro w' hw'
          have hcells := HC9.out w' hw'
          go_simp
          (try with_reducible rfl)
        simp only [Act.put, List.getElem_toArray, List.getElem_cons_succ, List.getElem_cons_zero, List.setIfInBounds_toArray, List.set_cons_zero, List.set_cons_succ]
        refine wpAnyH_take (i := 9) (oi := _) (v := ?_) rfl (by kernel_rfl) (by kernel_rfl) (by kernel_rfl) (fun _ _ _ h => h) (Or.inl ⟨by rfl, ?_⟩) hS ?_
        rotate_left
        · intro w' hw'
          have hcells := HC9.out w' hw'
          go_simp
          (try with_reducible rfl)
        simp only [Act.put, List.getElem_toArray, List.getElem_cons_succ, List.getElem_cons_zero, List.setIfInBounds_toArray, List.set_cons_zero, List.set_cons_succ]
        refine wpAnyH_ready (rs := [10]) (by kernel_rfl) (by simp) ?_
        refine AllReadyH.cons (o := _) rfl (fun K hK => ?_) AllReadyH.nil
        go_simp; go_at_call 52; refine (HEQ.out _ hS).mono ?_
        rintro e wy ⟨rfl, hby⟩
        refine hK.out _ _ (hS.trans (hby.mono hS.size)) (fun hS => ?_)
        clear hK K
        (try simp only [Act.put, List.getElem_toArray, List.getElem_cons_succ, List.getElem_cons_zero, List.setIfInBounds_toArray, List.set_cons_zero, List.set_cons_succ])
        refine wpAnyH_done (by kernel_rfl) ?_ _
        (try dsimp only)
        have HBZ := hid hS
        clear hS
        go_wp2
        go_ret
        exact ⟨rfl, HU3.out _ (HBR.out.trans (HBZ.out.mono HBR.out.size))⟩
      | false =>
        have HNE := hid (HNE.out rfl)
        go_upto_region 9 with (fail)
        refine wp_region_split 11 (fun w' => Below wz.heap.size wz w') (by kernel_rfl) (by kernel_rfl) (by kernel_rfl) (by decide) ((Below.refl _ _).drew) (fun hS => ?_)
        simp only [List.take_succ_cons, List.take_zero, List.drop_succ_cons, List.drop_zero]
        refine wpAnyH_take (i := 0) (oi := _) (v := ?_) rfl (by kernel_rfl) (by kernel_rfl) (by kernel_rfl) (fun _ _ _ h => h) (Or.inl ⟨by rfl, ?_⟩) hS ?_
        rotate_left
        · intro w' hw'
          have hcells := HC9.out w' hw'
          go_simp
          (try with_reducible rfl)
        simp only [Act.put, List.getElem_toArray, List.getElem_cons_succ, List.getElem_cons_zero, List.setIfInBounds_toArray, List.set_cons_zero, List.set_cons_succ]
        refine wpAnyH_take (i := 1) (oi := _) (v := ?_) rfl (by kernel_rfl) (by kernel_rfl) (by kernel_rfl) (fun _ _ _ h => h) (Or.inl ⟨by rfl, ?_⟩) hS ?_
        rotate_left
        · intro w' hw'
          have hcells := HC9.out w' hw'
          go_simp
          (try with_reducible rfl)
        simp only [Act.put, List.getElem_toArray, List.getElem_cons_succ, List.getElem_cons_zero, List.setIfInBounds_toArray, List.set_cons_zero, List.set_cons_succ]
        refine wpAnyH_take (i := 2) (oi := _) (v := ?_) rfl (by kernel_rfl) (by kernel_rfl) (by kernel_rfl) (fun _ _ _ h => h) (Or.inl ⟨by rfl, ?_⟩) hS ?_
        rotate_left
        · intro w' hw'
          have hcells := HC9.out w' hw'
          go_simp
          (try with_reducible rfl)
        simp only [Act.put, List.getElem_toArray, List.getElem_cons_succ, List.getElem_cons_zero, List.setIfInBounds_toArray, List.set_cons_zero, List.set_cons_succ]
        refine wpAnyH_take (i := 3) (oi := _) (v := ?_) rfl (by kernel_rfl) (by kernel_rfl) (by kernel_rfl) (fun _ _ _ h => h) (Or.inl ⟨by rfl, ?_⟩) hS ?_
        rotate_left
        · intro w' hw'
          have hcells := HC9.out w' hw'
          go_simp
          (try with_reducible rfl)
        simp only [Act.put, List.getElem_toArray, List.getElem_cons_succ, List.getElem_cons_zero, List.setIfInBounds_toArray, List.set_cons_zero, List.set_cons_succ]
        refine wpAnyH_take (i := 4) (oi := _) (v := ?_) rfl (by kernel_rfl) (by kernel_rfl) (by kernel_rfl) (fun _ _ _ h => h) (Or.inl ⟨by rfl, ?_⟩) hS ?_
        rotate_left
        · intro w' hw'
          have hcells := HC9.out w' hw'
          go_simp
          (try with_reducible rfl)
        simp only [Act.put, List.getElem_toArray, List.getElem_cons_succ, List.getElem_cons_zero, List.setIfInBounds_toArray, List.set_cons_zero, List.set_cons_succ]
        refine wpAnyH_take (i := 5) (oi := _) (v := ?_) rfl (by kernel_rfl) (by kernel_rfl) (by kernel_rfl) (fun _ _ _ h => h) (Or.inl ⟨by rfl, ?_⟩) hS ?_
        rotate_left
        · intro w' hw'
          have hcells := HC9.out w' hw'
          go_simp
          (try with_reducible rfl)
        simp only [Act.put, List.getElem_toArray, List.getElem_cons_succ, List.getElem_cons_zero, List.setIfInBounds_toArray, List.set_cons_zero, List.set_cons_succ]
        refine wpAnyH_take (i := 6) (oi := _) (v := ?_) rfl (by kernel_rfl) (by kernel_rfl) (by kernel_rfl) (fun _ _ _ h => h) (Or.inl ⟨by rfl, ?_⟩) hS ?_
        rotate_left
        · intro w' hw'
          have hcells := HC9.out w' hw'
          go_simp
          (try with_reducible rfl)
        simp only [Act.put, List.getElem_toArray, List.getElem_cons_succ, List.getElem_cons_zero, List.setIfInBounds_toArray, List.set_cons_zero, List.set_cons_succ]
        refine wpAnyH_take (i := 7) (oi := _) (v := ?_) rfl (by kernel_rfl) (by kernel_rfl) (by kernel_rfl) (fun _ _ _ h => h) (Or.inl ⟨by rfl, ?_⟩) hS ?_
        rotate_left
        · intro w' hw'
          have hcells := HC9.out w' hw'
          go_simp
          (try with_reducible rfl)
        simp only [Act.put, List.getElem_toArray, List.getElem_cons_succ, List.getElem_cons_zero, List.setIfInBounds_toArray, List.set_cons_zero, List.set_cons_succ]
        refine wpAnyH_take (i := 8) (oi := _) (v := ?_) rfl (by kernel_rfl) (by kernel_rfl) (by kernel_rfl) (fun _ _ _ h => h) (Or.inl ⟨by rfl, ?_⟩) hS ?_
        rotate_left
        · intro w' hw'
          have hcells := HC9.out w' hw'
          go_simp
          (try with_reducible rfl)
        simp only [Act.put, List.getElem_toArray, List.getElem_cons_succ, List.getElem_cons_zero, List.setIfInBounds_toArray, List.set_cons_zero, List.set_cons_succ]
        refine wpAnyH_take (i := 9) (oi := _) (v := ?_) rfl (by kernel_rfl) (by kernel_rfl) (by kernel_rfl) (fun _ _ _ h => h) (Or.inl ⟨by rfl, ?_⟩) hS ?_
        rotate_left
        · intro w' hw'
          have hcells := HC9.out w' hw'
          go_simp
          (try with_reducible rfl)
        simp only [Act.put, List.getElem_toArray, List.getElem_cons_succ, List.getElem_cons_zero, List.setIfInBounds_toArray, List.set_cons_zero, List.set_cons_succ]
        refine wpAnyH_ready (rs := [10]) (by kernel_rfl) (by simp) ?_
        refine AllReadyH.cons (o := _) rfl (fun K hK => ?_) AllReadyH.nil
        go_simp; go_at_call 52; refine (HEQ.out _ hS).mono ?_
        rintro e wy ⟨rfl, hby⟩
        refine hK.out _ _ (hS.trans (hby.mono hS.size)) (fun hS => ?_)
        clear hK K
        (try simp only [Act.put, List.getElem_toArray, List.getElem_cons_succ, List.getElem_cons_zero, List.setIfInBounds_toArray, List.set_cons_zero, List.set_cons_succ])
        refine wpAnyH_done (by kernel_rfl) ?_ _
        (try dsimp only)
        have HBZ := hid hS
        clear hS
        go_wp2
        go_roundw
        case rel => exact ⟨k + 1, by omega, by go_num, HBR.out.trans (HBZ.out.mono HBR.out.size), fun i' k' hi' hk' hlt' => by
            rcases hlt' with h | h
            · exact HF.out i' k' hi' hk' (.inl h)
            · rcases Nat.lt_or_ge k' k with g | g
              · exact HF.out i' k' hi' hk' (.inr ⟨h.1, g⟩)
              · obtain rfl : k' = k := by omega
                obtain rfl : i' = i := h.1
                exact HNE.out hi' hk'⟩
        case measure => simp [intOf]; omega
    · obtain rfl : i = k := by omega
      clear hlk
      have HF2 := hid (show ∀ (i' k' : Nat) (hi' : i' < l.length) (hk' : k' < i'), (i' < (i + 1) ∨ (i' = (i + 1) ∧ k' < 0)) → cmpV l[i'].k (l[k']'(by omega)).k ≠ 0 from fun i' k' hi' hk' h => by
        rcases h with h | h
        · rcases Nat.lt_or_ge i' i with g | g
          · exact HF.out i' k' hi' hk' (.inl g)
          · obtain rfl : i' = i := by omega
            exact HF.out i' k' hi' hk' (.inr ⟨rfl, hk'⟩)
        · omega)
      go_wp2
      go_roundw
      case rel => exact ⟨i + 1, by omega, by go_num, HBR.out, HF2.out⟩
      case measure => simp [intOf]; omega
  · obtain rfl : n = i := by omega
    clear hlt
    obtain ⟨w4, hw4⟩ : ∃ u, u = wr := ⟨_, rfl⟩
    have HU4 : Hid (∀ w', Below w4.heap.size w4 w' → Below w.heap.size w w') := hid fun w' h => by
      have h1 : Below w3.heap.size w3 w4 := by rw [hw4]; exact hbr
      exact HU3.out _ (h1.trans (h.mono h1.size))
    rw [← hw4]
    clear hw4
    have HKD := hid (KD.of (l := l) fun i k hi hk => hfa i k hi hk (.inl (by have := HL.out; omega)))
    clear hbr hfa
    go_wp2
    go_loopw [7] (fun iv wr => ∃ (i : Nat) (ca cb : StC), i ≤ n ∧ iv = .int .i64 i ∧ Below w4.heap.size w4 wr ∧ wr.heap[w4.heap.size]? = some (.cells #[.int .i64 ca.n, .int .i64 ca.t, .slice ca.a ca.l ca.c] 55) ∧ wr.heap[w4.heap.size + 1]? = some (.cells #[.int .i64 cb.n, .int .i64 cb.t, .slice cb.a cb.l cb.c] 55) ∧ IsSta (fun b => w4.heap.size + 2 ≤ b ∧ b < wr.heap.size) wr ca ⟨0, 0, putAll (l.take i)⟩ ∧ IsSta (fun b => w4.heap.size + 2 ≤ b ∧ b < wr.heap.size) wr cb ⟨0, 0, putAll (l.reverse.take i)⟩) (fun iv _ => n - (intOf iv).toNat)
    case atStart =>
      have z : ∀ S w', IsSta S w' ⟨0, 0, none, 0, 0⟩ ⟨0, 0, []⟩ := fun S w' => ⟨rfl, (show I64 0 from ⟨by decide, by decide⟩), rfl, (show I64 0 from ⟨by decide, by decide⟩), row_nil' _ _⟩
      exact ⟨0, ⟨0, 0, none, 0, 0⟩, ⟨0, 0, none, 0, 0⟩, Nat.zero_le _, rfl, ((Below.refl _ _).alloc (Nat.le_refl _) _).alloc (by simp) _, heapAlloc _ (heap_alloc_new w4 _), heapNewAt _ _ _ (by simp), z _ _, z _ _⟩
    case round =>
    obtain ⟨i, ca, cb, hin, rfl, hbr, haa, hbb, hia, hib⟩ := hrel
    obtain ⟨wz, hwz⟩ : ∃ u, u = wr := ⟨_, rfl⟩
    rw [← hwz] at hbr haa hbb hia hib ⊢
    clear hwz
    by_cases hlt : i < n
    · have hil : i < l.length := by have := HL.out; omega
      obtain ⟨b, o, hab, hb, hx⟩ := HD.out.slot (show 0 < n by omega)
      subst hab
      obtain ⟨j, hj⟩ : ∃ j, j = n - 1 - i := ⟨_, rfl⟩
      have hjl : j < l.length := by have := HL.out; omega
      obtain ⟨x, hxa, hxi⟩ := hx i hil
      obtain ⟨y, hya, hyi⟩ := hx j hjl
      obtain ⟨dx, hdx⟩ : ∃ d, d = l[i] := ⟨_, rfl⟩
      obtain ⟨dy, hdy⟩ : ∃ d, d = l[j] := ⟨_, rfl⟩
      rw [← hdx] at hxi
      rw [← hdy] at hyi
      obtain ⟨LA, hLA⟩ : ∃ L, L = putAll (l.take i) := ⟨_, rfl⟩
      obtain ⟨LB, hLB⟩ : ∃ L, L = putAll (l.reverse.take i) := ⟨_, rfl⟩
      rw [← hLA] at hia
      rw [← hLB] at hib
      have hrj : l.reverse[i]'(by rw [List.length_reverse]; exact hil) = dy := by
        rw [List.getElem_reverse, hdy]
        congr 1
        have := HL.out
        omega
      have HIL := hid hil
      have HLA := hid hLA
      have HLB := hid hLB
      have HDX : Hid (∀ (h : i < l.length), dx = l[i]'h) := hid fun h => hdx
      have HDY : Hid (∀ (h : i < l.reverse.length), dy = l.reverse[i]'h) := hid fun h => hrj.symm
      have HSA' := hid (show Srt LA by rw [hLA]; exact putAll_srt (HKD.out.take i))
      have HSB := hid (show Srt LB by rw [hLB]; exact putAll_srt (HKD.out.rev.take i))
      have HNA := hid (show placeB LA dx.k = false by rw [hLA, hdx]; exact fresh_key HKD.out hil)
      have HNB := hid (show placeB LB dy.k = false by rw [hLB, ← hrj]; exact fresh_key HKD.out.rev (by rw [List.length_reverse]; exact hil))
      have HLAL := hid (show LA.length < 1024 by rw [hLA, putAll_len (HKD.out.take i), List.length_take]; have := HL.out; omega)
      have HLBL := hid (show LB.length < 1024 by rw [hLB, putAll_len (HKD.out.rev.take i), List.length_take]; have := HL.out; omega)
      have HXA := hid (show AtG slK w b (o + i * 10) x from hxa)
      have HYA := hid (show AtG slK w b (o + j * 10) y from hya)
      have HXI := hid hxi
      have HYI := hid hyi
      have HB0 := hid hb
      have HIA := hid hia
      have HIB := hid hib
      have HAA := hid haa
      have HBB := hid hbb
      have HUZ := hid hbr
      have HSZ4 := hid (show w4.heap.size + 2 ≤ wz.heap.size by have := ltOf hbb; omega)
      have hi1 : (i : Int) < (n : Int) := by omega
      have hi0 : (0 : Int) ≤ (i : Int) := by omega
      have hn10 : (n : Int) ≤ 10 := by omega
      have hjj : (n : Int) - 1 - (i : Int) = (j : Int) := by omega
      have hj0 : (0 : Int) ≤ (j : Int) := by omega
      have hj1 : (j : Int) < (n : Int) := by omega
      have hnw : IntKind.i64.wrap ((n : Int) - 1) = (n : Int) - 1 := IntWalk.i64_in _ (by omega)
      have hnw2 : IntKind.i64.wrap (j : Int) = (j : Int) := IntWalk.i64_in _ (by omega)
      have HC15 : Hid (∀ w', Below wz.heap.size wz w' → (w'.cell? ⟨w4.heap.size, 0, none⟩ = some (.int .i64 ca.n) ∧ w'.cell? ⟨w4.heap.size, 1, none⟩ = some (.int .i64 ca.t) ∧ w'.cell? ⟨w4.heap.size, 2, none⟩ = some (.slice ca.a ca.l ca.c)) ∧ (w'.cell? ⟨b, o + i * 10, none⟩ = some (.int .i64 x.k.k) ∧ w'.cell? ⟨b, o + i * 10 + 1, none⟩ = some (.int .i64 x.k.i) ∧ w'.cell? ⟨b, o + i * 10 + 2, none⟩ = some (.int .i64 x.k.s) ∧ w'.cell? ⟨b, o + i * 10 + 3, none⟩ = some (.string x.k.t) ∧ w'.cell? ⟨b, o + i * 10 + 4, none⟩ = some (.slice x.k.la x.k.ll x.k.lc) ∧ w'.cell? ⟨b, o + i * 10 + 5, none⟩ = some (.slice x.k.fa x.k.fl x.k.fc) ∧ w'.cell? ⟨b, o + i * 10 + 6, none⟩ = some (.int .i64 x.n) ∧ w'.cell? ⟨b, o + i * 10 + 7, none⟩ = some (.int .i64 x.t) ∧ w'.cell? ⟨b, o + i * 10 + 8, none⟩ = some (.slice x.ia x.il x.ic) ∧ w'.cell? ⟨b, o + i * 10 + 9, none⟩ = some (.slice x.va x.vl x.vc))) := hid fun w' h => by
        have h1 := (h.block _ (by have := HSZ4.out; omega)).trans HAA.out
        have h2 := HU4.out _ (HUZ.out.trans (h.mono (by have := HSZ4.out; omega)))
        exact ⟨⟨cellOf h1 0, cellOf h1 1, cellOf h1 2⟩, (HXA.out.same (h2.block b HB0.out)).slot⟩
      have HPA : Hid (∀ w', Below wz.heap.size wz w' → Calls Tryz.prog 51 #[.agg #[.int .i64 ca.n, .int .i64 ca.t, .slice ca.a ca.l ca.c], .agg #[.int .i64 x.k.k, .int .i64 x.k.i, .int .i64 x.k.s, .string x.k.t, .slice x.k.la x.k.ll x.k.lc, .slice x.k.fa x.k.fl x.k.fc, .int .i64 x.n, .int .i64 x.t, .slice x.ia x.il x.ic, .slice x.va x.vl x.vc]] w' (PutPost2 w' ⟨0, 0, LA⟩ dx)) := hid fun w' h => by
        have h2 := HU4.out _ (HUZ.out.trans (h.mono (by have := HSZ4.out; omega)))
        exact putF2_call ca ⟨0, 0, LA⟩ x dx w' HSA'.out (HIA.out.same fun b q => ⟨Nat.lt_of_lt_of_le q.2 h.size, h.block b q.2⟩) (HXI.out.same fun b q => ⟨Nat.lt_of_lt_of_le q h2.size, h2.block b q⟩) HNA.out HLAL.out
      clear hx hxa hxi hya hyi hb hdx hdy hLA hLB hrj hia hib haa hbb hbr hil hjl hj
      go_upto_region 15 with (fail)
      refine wp_region_held_drew (S := (fun w' => Below wz.heap.size wz w')) (by kernel_rfl) ((Below.refl _ _).drew) (fun hS => ?_)
      refine wpAnyH_take (i := 0) (oi := _) (v := ?_) rfl (by kernel_rfl) (by kernel_rfl) (by kernel_rfl) (fun _ _ _ h => h) (Or.inl ⟨by rfl, ?_⟩) hS ?_
      rotate_left
      · intro w' hw'
        have hcells := HC15.out w' hw'
        go_simp
        (try with_reducible rfl)
      simp only [Act.put, List.getElem_toArray, List.getElem_cons_succ, List.getElem_cons_zero, List.setIfInBounds_toArray, List.set_cons_zero, List.set_cons_succ]
      refine wpAnyH_take (i := 1) (oi := _) (v := ?_) rfl (by kernel_rfl) (by kernel_rfl) (by kernel_rfl) (fun _ _ _ h => h) (Or.inl ⟨by rfl, ?_⟩) hS ?_
      rotate_left
      · intro w' hw'
        have hcells := HC15.out w' hw'
        go_simp
        (try with_reducible rfl)
      simp only [Act.put, List.getElem_toArray, List.getElem_cons_succ, List.getElem_cons_zero, List.setIfInBounds_toArray, List.set_cons_zero, List.set_cons_succ]
      refine wpAnyH_take (i := 2) (oi := _) (v := ?_) rfl (by kernel_rfl) (by kernel_rfl) (by kernel_rfl) (fun _ _ _ h => h) (Or.inl ⟨by rfl, ?_⟩) hS ?_
      rotate_left
      · intro w' hw'
        have hcells := HC15.out w' hw'
        go_simp
        (try with_reducible rfl)
      simp only [Act.put, List.getElem_toArray, List.getElem_cons_succ, List.getElem_cons_zero, List.setIfInBounds_toArray, List.set_cons_zero, List.set_cons_succ]
      refine wpAnyH_take (i := 3) (oi := _) (v := ?_) rfl (by kernel_rfl) (by kernel_rfl) (by kernel_rfl) (fun _ _ _ h => h) (Or.inl ⟨by rfl, ?_⟩) hS ?_
      rotate_left
      · intro w' hw'
        have hcells := HC15.out w' hw'
        go_simp
        (try with_reducible rfl)
      simp only [Act.put, List.getElem_toArray, List.getElem_cons_succ, List.getElem_cons_zero, List.setIfInBounds_toArray, List.set_cons_zero, List.set_cons_succ]
      refine wpAnyH_take (i := 4) (oi := _) (v := ?_) rfl (by kernel_rfl) (by kernel_rfl) (by kernel_rfl) (fun _ _ _ h => h) (Or.inl ⟨by rfl, ?_⟩) hS ?_
      rotate_left
      · intro w' hw'
        have hcells := HC15.out w' hw'
        go_simp
        (try with_reducible rfl)
      simp only [Act.put, List.getElem_toArray, List.getElem_cons_succ, List.getElem_cons_zero, List.setIfInBounds_toArray, List.set_cons_zero, List.set_cons_succ]
      refine wpAnyH_ready (rs := [5, 9]) (by kernel_rfl) (by simp) ?_
      refine AllReadyH.cons (o := _) rfl (fun K hK => ?_) ?_
      · go_simp; go_at_call 51; refine (HPA.out _ hS).mono ?_
        rintro e w5 ⟨c8, rfl, hbw5, hiw5⟩
        have HIw5 := hid hiw5
        have HBw5 := hid hbw5
        clear hiw5
        refine hK.out _ _ (hS.trans (hbw5.mono hS.size)) (fun hS => ?_)
        clear hK K
        (try simp only [Act.put, List.getElem_toArray, List.getElem_cons_succ, List.getElem_cons_zero, List.setIfInBounds_toArray, List.set_cons_zero, List.set_cons_succ])
        refine wpAnyH_take (i := 6) (oi := _) (v := ?_) rfl (by kernel_rfl) (by kernel_rfl) (by kernel_rfl) (fun _ _ _ h => h) (Or.inl ⟨by rfl, ?_⟩) hS ?_
        rotate_left
        · intro w' hw'
          have hcells := HC15.out w' hw'
          go_simp
          (try with_reducible rfl)
        simp only [Act.put, List.getElem_toArray, List.getElem_cons_succ, List.getElem_cons_zero, List.setIfInBounds_toArray, List.set_cons_zero, List.set_cons_succ]
        refine wpAnyH_take (i := 7) (oi := _) (v := ?_) rfl (by kernel_rfl) (by kernel_rfl) (by kernel_rfl) (fun _ _ _ h => h) (Or.inl ⟨by rfl, ?_⟩) hS ?_
        rotate_left
        · intro w' hw'
          have hcells := HC15.out w' hw'
          go_simp
          (try with_reducible rfl)
        simp only [Act.put, List.getElem_toArray, List.getElem_cons_succ, List.getElem_cons_zero, List.setIfInBounds_toArray, List.set_cons_zero, List.set_cons_succ]
        refine wpAnyH_take (i := 8) (oi := _) (v := ?_) rfl (by kernel_rfl) (by kernel_rfl) (by kernel_rfl) (fun _ _ _ h => h) (Or.inl ⟨by rfl, ?_⟩) hS ?_
        rotate_left
        · intro w' hw'
          have hcells := HC15.out w' hw'
          go_simp
          (try with_reducible rfl)
        simp only [Act.put, List.getElem_toArray, List.getElem_cons_succ, List.getElem_cons_zero, List.setIfInBounds_toArray, List.set_cons_zero, List.set_cons_succ]
        refine wpAnyH_ready (rs := [9]) (by kernel_rfl) (by simp) ?_
        refine AllReadyH.cons (o := _) rfl (fun K hK => ?_) AllReadyH.nil
        go_simp
        obtain ⟨wq, hwq⟩ : ∃ u, u = w5.alloc (.cells #[.int .i64 0, .int .i64 0, .slice none 0 0] 55) := ⟨_, rfl⟩
        rw [← hwq]
        have HAwq := hid (show Below w5.heap.size w5 wq by rw [hwq]; exact (Below.refl _ _).alloc (Nat.le_refl _) _)
        have HNn8 := hid (show wq.heap[w5.heap.size]? = some (.cells #[.int .i64 0, .int .i64 0, .slice none 0 0] 55) by rw [hwq]; exact heap_alloc_new w5 _)
        have hkwq := hS.trans (HAwq.out.mono hS.size)
        clear hwq
        refine hK.out _ _ (hkwq) (fun hS => ?_)
        clear hK K
        (try simp only [Act.put, List.getElem_toArray, List.getElem_cons_succ, List.getElem_cons_zero, List.setIfInBounds_toArray, List.set_cons_zero, List.set_cons_succ])
        refine wpAnyH_ready (rs := [10]) (by kernel_rfl) (by simp) ?_
        refine AllReadyH.cons (o := _) rfl (fun K hK => ?_) AllReadyH.nil
        have hgen8 : wz.heap.size ≤ w5.heap.size := belowSize HBw5.out (by first | exact Nat.le_refl _ | (dsimp only [World.drew]; exact Nat.le_refl _))
        have q0 := cellOf HNn8.out 0; have q1 := cellOf HNn8.out 1; have q2 := cellOf HNn8.out 2; have qf0 := freeOf HNn8.out 0; have qf1 := freeOf HNn8.out 1; have qf2 := freeOf HNn8.out 2
        (try dsimp only at q0 q1 q2)
        have HSBA := hid hS
        go_simp
        obtain ⟨VA, hVA⟩ : ∃ u, u = ((wq.setCell ⟨w5.heap.size, 0, none⟩ (.int .i64 c8.n)).setCell ⟨w5.heap.size, 1, none⟩ (.int .i64 c8.t)).setCell ⟨w5.heap.size, 2, none⟩ (.slice c8.a c8.l c8.c) := ⟨_, rfl⟩
        rw [← hVA]
        clear q0 q1 q2 qf0 qf1 qf2
        have hkVA : Below wz.heap.size wz VA := by rw [hVA]; exact ((hS.setCell (p := ⟨w5.heap.size, 0, none⟩) hgen8 _).setCell (p := ⟨w5.heap.size, 1, none⟩) hgen8 _).setCell (p := ⟨w5.heap.size, 2, none⟩) hgen8 _
        have HEVA := hid hVA
        clear hVA
        refine hK.out _ _ (hkVA) (fun hS => ?_)
        clear hK K
        (try simp only [Act.put, List.getElem_toArray, List.getElem_cons_succ, List.getElem_cons_zero, List.setIfInBounds_toArray, List.set_cons_zero, List.set_cons_succ])
        refine wpAnyH_take (i := 11) (oi := _) (v := ?_) rfl (by kernel_rfl) (by kernel_rfl) (by kernel_rfl) (fun _ _ _ h => h) (Or.inl ⟨by rfl, ?_⟩) hS ?_
        rotate_left
        · intro w' hw'
          have hcells := HC15.out w' hw'
          go_simp
          (try with_reducible rfl)
        simp only [Act.put, List.getElem_toArray, List.getElem_cons_succ, List.getElem_cons_zero, List.setIfInBounds_toArray, List.set_cons_zero, List.set_cons_succ]
        refine wpAnyH_done (by kernel_rfl) ?_ _
        (try dsimp only)
        clear hS
        obtain ⟨n8, hn8⟩ : ∃ u, u = w5.heap.size := ⟨_, rfl⟩
        have HSTA := hid (show IsSta (fun b => wz.heap.size ≤ b ∧ b < wq.heap.size ∧ b ≠ n8) wq c8 ⟨0, 0, putL LA dx⟩ by
          rw [hn8]
          exact HIw5.out.same fun b q => ⟨by have := HAwq.out.size; have hq : wz.heap.size ≤ b := q.1; omega, HAwq.out.block b q.2⟩)
        have HNA := hid (show wq.heap[n8]? = some (.cells #[.int .i64 0, .int .i64 0, .slice none 0 0] 55) by rw [hn8]; exact HNn8.out)
        have HGA := hid (show wz.heap.size ≤ n8 by rw [hn8]; exact hgen8)
        have hV := HEVA.out
        rw [← hn8] at hV
        (try rw [← hn8])
        clear hn8
        obtain ⟨g9, hI9, hB9⟩ := setThree (v0 := .int .i64 c8.n) (v1 := .int .i64 c8.t) (v2 := .slice c8.a c8.l c8.c) HNA.out HSTA.out
        have hB9' := hB9 wz.heap.size wz HSBA.out HGA.out
        have hs9 : VA.heap.size = wq.heap.size := by rw [hV]; simp [World.setCell]
        have hI9' : IsSta (fun b => wz.heap.size ≤ b ∧ b < wq.heap.size ∧ b ≠ n8) VA c8 ⟨0, 0, putL LA dx⟩ := by
          rw [hV]
          exact HSTA.out.same fun b q => ⟨q, (Below.heap_setCell _ _ _ _ q.2.2).trans ((Below.heap_setCell _ _ _ _ q.2.2).trans (Below.heap_setCell _ _ _ _ q.2.2))⟩
        rw [← hV] at g9 hB9'
        have HV8A := hid g9
        have HVIA := hid (show IsSta (fun b => wz.heap.size ≤ b ∧ b < VA.heap.size ∧ b ≠ n8) VA c8 ⟨0, 0, putL LA dx⟩ from hI9'.same fun b q => ⟨by omega, rfl⟩)
        have HVBA := hid hB9'
        have HVGA := hid (show n8 < VA.heap.size from ltOf g9)
        clear hV g9 hI9 hI9' hB9 hB9' hs9 hbw5 HEVA
        go_upto_region 16 with (fail)
        have HC16 : Hid (∀ w', Below VA.heap.size VA w' → (w'.cell? ⟨w4.heap.size + 1, 0, none⟩ = some (.int .i64 cb.n) ∧ w'.cell? ⟨w4.heap.size + 1, 1, none⟩ = some (.int .i64 cb.t) ∧ w'.cell? ⟨w4.heap.size + 1, 2, none⟩ = some (.slice cb.a cb.l cb.c)) ∧ (w'.cell? ⟨b, o + j * 10, none⟩ = some (.int .i64 y.k.k) ∧ w'.cell? ⟨b, o + j * 10 + 1, none⟩ = some (.int .i64 y.k.i) ∧ w'.cell? ⟨b, o + j * 10 + 2, none⟩ = some (.int .i64 y.k.s) ∧ w'.cell? ⟨b, o + j * 10 + 3, none⟩ = some (.string y.k.t) ∧ w'.cell? ⟨b, o + j * 10 + 4, none⟩ = some (.slice y.k.la y.k.ll y.k.lc) ∧ w'.cell? ⟨b, o + j * 10 + 5, none⟩ = some (.slice y.k.fa y.k.fl y.k.fc) ∧ w'.cell? ⟨b, o + j * 10 + 6, none⟩ = some (.int .i64 y.n) ∧ w'.cell? ⟨b, o + j * 10 + 7, none⟩ = some (.int .i64 y.t) ∧ w'.cell? ⟨b, o + j * 10 + 8, none⟩ = some (.slice y.ia y.il y.ic) ∧ w'.cell? ⟨b, o + j * 10 + 9, none⟩ = some (.slice y.va y.vl y.vc))) := hid fun w' h => by
          have hB := HVBA.out.trans (h.mono HVBA.out.size)
          have h1 := (hB.block _ (by have := HSZ4.out; omega)).trans HBB.out
          have h2 := HU4.out _ (HUZ.out.trans (hB.mono (by have := HSZ4.out; omega)))
          exact ⟨⟨cellOf h1 0, cellOf h1 1, cellOf h1 2⟩, (HYA.out.same (h2.block b HB0.out)).slot⟩
        have HPB : Hid (∀ w', Below VA.heap.size VA w' → Calls Tryz.prog 51 #[.agg #[.int .i64 cb.n, .int .i64 cb.t, .slice cb.a cb.l cb.c], .agg #[.int .i64 y.k.k, .int .i64 y.k.i, .int .i64 y.k.s, .string y.k.t, .slice y.k.la y.k.ll y.k.lc, .slice y.k.fa y.k.fl y.k.fc, .int .i64 y.n, .int .i64 y.t, .slice y.ia y.il y.ic, .slice y.va y.vl y.vc]] w' (PutPost2 w' ⟨0, 0, LB⟩ dy)) := hid fun w' h => by
          have hB := HVBA.out.trans (h.mono HVBA.out.size)
          have h2 := HU4.out _ (HUZ.out.trans (hB.mono (by have := HSZ4.out; omega)))
          exact putF2_call cb ⟨0, 0, LB⟩ y dy w' HSB.out (HIB.out.same fun b q => ⟨Nat.lt_of_lt_of_le q.2 hB.size, hB.block b q.2⟩) (HYI.out.same fun b q => ⟨Nat.lt_of_lt_of_le q h2.size, h2.block b q⟩) HNB.out HLBL.out
        refine wp_region_held_drew (S := (fun w' => Below VA.heap.size VA w')) (by kernel_rfl) ((Below.refl _ _).drew) (fun hS => ?_)
        refine wpAnyH_take (i := 0) (oi := _) (v := ?_) rfl (by kernel_rfl) (by kernel_rfl) (by kernel_rfl) (fun _ _ _ h => h) (Or.inl ⟨by rfl, ?_⟩) hS ?_
        rotate_left
        · intro w' hw'
          have hcells := HC16.out w' hw'
          go_simp
          (try with_reducible rfl)
        simp only [Act.put, List.getElem_toArray, List.getElem_cons_succ, List.getElem_cons_zero, List.setIfInBounds_toArray, List.set_cons_zero, List.set_cons_succ]
        refine wpAnyH_take (i := 1) (oi := _) (v := ?_) rfl (by kernel_rfl) (by kernel_rfl) (by kernel_rfl) (fun _ _ _ h => h) (Or.inl ⟨by rfl, ?_⟩) hS ?_
        rotate_left
        · intro w' hw'
          have hcells := HC16.out w' hw'
          go_simp
          (try with_reducible rfl)
        simp only [Act.put, List.getElem_toArray, List.getElem_cons_succ, List.getElem_cons_zero, List.setIfInBounds_toArray, List.set_cons_zero, List.set_cons_succ]
        refine wpAnyH_take (i := 2) (oi := _) (v := ?_) rfl (by kernel_rfl) (by kernel_rfl) (by kernel_rfl) (fun _ _ _ h => h) (Or.inl ⟨by rfl, ?_⟩) hS ?_
        rotate_left
        · intro w' hw'
          have hcells := HC16.out w' hw'
          go_simp
          (try with_reducible rfl)
        simp only [Act.put, List.getElem_toArray, List.getElem_cons_succ, List.getElem_cons_zero, List.setIfInBounds_toArray, List.set_cons_zero, List.set_cons_succ]
        refine wpAnyH_take (i := 3) (oi := _) (v := ?_) rfl (by kernel_rfl) (by kernel_rfl) (by kernel_rfl) (fun _ _ _ h => h) (Or.inl ⟨by rfl, ?_⟩) hS ?_
        rotate_left
        · intro w' hw'
          have hcells := HC16.out w' hw'
          go_simp
          (try with_reducible rfl)
        simp only [Act.put, List.getElem_toArray, List.getElem_cons_succ, List.getElem_cons_zero, List.setIfInBounds_toArray, List.set_cons_zero, List.set_cons_succ]
        refine wpAnyH_take (i := 4) (oi := _) (v := ?_) rfl (by kernel_rfl) (by kernel_rfl) (by kernel_rfl) (fun _ _ _ h => h) (Or.inl ⟨by rfl, ?_⟩) hS ?_
        rotate_left
        · intro w' hw'
          have hcells := HC16.out w' hw'
          go_simp
          (try with_reducible rfl)
        simp only [Act.put, List.getElem_toArray, List.getElem_cons_succ, List.getElem_cons_zero, List.setIfInBounds_toArray, List.set_cons_zero, List.set_cons_succ]
        refine wpAnyH_take (i := 5) (oi := _) (v := ?_) rfl (by kernel_rfl) (by kernel_rfl) (by kernel_rfl) (fun _ _ _ h => h) (Or.inl ⟨by rfl, ?_⟩) hS ?_
        rotate_left
        · intro w' hw'
          have hcells := HC16.out w' hw'
          go_simp
          (try with_reducible rfl)
        simp only [Act.put, List.getElem_toArray, List.getElem_cons_succ, List.getElem_cons_zero, List.setIfInBounds_toArray, List.set_cons_zero, List.set_cons_succ]
        refine wpAnyH_take (i := 6) (oi := _) (v := ?_) rfl (by kernel_rfl) (by kernel_rfl) (by kernel_rfl) (fun _ _ _ h => h) (Or.inl ⟨by rfl, ?_⟩) hS ?_
        rotate_left
        · intro w' hw'
          have hcells := HC16.out w' hw'
          go_simp
          (try with_reducible rfl)
        simp only [Act.put, List.getElem_toArray, List.getElem_cons_succ, List.getElem_cons_zero, List.setIfInBounds_toArray, List.set_cons_zero, List.set_cons_succ]
        refine wpAnyH_take (i := 7) (oi := _) (v := ?_) rfl (by kernel_rfl) (by kernel_rfl) (by kernel_rfl) (fun _ _ _ h => h) (Or.inl ⟨by rfl, ?_⟩) hS ?_
        rotate_left
        · intro w' hw'
          have hcells := HC16.out w' hw'
          go_simp
          (try with_reducible rfl)
        simp only [Act.put, List.getElem_toArray, List.getElem_cons_succ, List.getElem_cons_zero, List.setIfInBounds_toArray, List.set_cons_zero, List.set_cons_succ]
        refine wpAnyH_take (i := 8) (oi := _) (v := ?_) rfl (by kernel_rfl) (by kernel_rfl) (by kernel_rfl) (fun _ _ _ h => h) (Or.inl ⟨by rfl, ?_⟩) hS ?_
        rotate_left
        · intro w' hw'
          have hcells := HC16.out w' hw'
          go_simp
          (try with_reducible rfl)
        simp only [Act.put, List.getElem_toArray, List.getElem_cons_succ, List.getElem_cons_zero, List.setIfInBounds_toArray, List.set_cons_zero, List.set_cons_succ]
        refine wpAnyH_ready (rs := [9, 13]) (by kernel_rfl) (by simp) ?_
        refine AllReadyH.cons (o := _) rfl (fun K hK => ?_) ?_
        · go_simp; go_at_call 51; refine (HPB.out _ hS).mono ?_
          rintro e w7 ⟨c10, rfl, hbw7, hiw7⟩
          have HIw7 := hid hiw7
          have HBw7 := hid hbw7
          clear hiw7
          refine hK.out _ _ (hS.trans (hbw7.mono hS.size)) (fun hS => ?_)
          clear hK K
          (try simp only [Act.put, List.getElem_toArray, List.getElem_cons_succ, List.getElem_cons_zero, List.setIfInBounds_toArray, List.set_cons_zero, List.set_cons_succ])
          refine wpAnyH_take (i := 10) (oi := _) (v := ?_) rfl (by kernel_rfl) (by kernel_rfl) (by kernel_rfl) (fun _ _ _ h => h) (Or.inl ⟨by rfl, ?_⟩) hS ?_
          rotate_left
          · intro w' hw'
            have hcells := HC16.out w' hw'
            go_simp
            (try with_reducible rfl)
          simp only [Act.put, List.getElem_toArray, List.getElem_cons_succ, List.getElem_cons_zero, List.setIfInBounds_toArray, List.set_cons_zero, List.set_cons_succ]
          refine wpAnyH_take (i := 11) (oi := _) (v := ?_) rfl (by kernel_rfl) (by kernel_rfl) (by kernel_rfl) (fun _ _ _ h => h) (Or.inl ⟨by rfl, ?_⟩) hS ?_
          rotate_left
          · intro w' hw'
            have hcells := HC16.out w' hw'
            go_simp
            (try with_reducible rfl)
          simp only [Act.put, List.getElem_toArray, List.getElem_cons_succ, List.getElem_cons_zero, List.setIfInBounds_toArray, List.set_cons_zero, List.set_cons_succ]
          refine wpAnyH_take (i := 12) (oi := _) (v := ?_) rfl (by kernel_rfl) (by kernel_rfl) (by kernel_rfl) (fun _ _ _ h => h) (Or.inl ⟨by rfl, ?_⟩) hS ?_
          rotate_left
          · intro w' hw'
            have hcells := HC16.out w' hw'
            go_simp
            (try with_reducible rfl)
          simp only [Act.put, List.getElem_toArray, List.getElem_cons_succ, List.getElem_cons_zero, List.setIfInBounds_toArray, List.set_cons_zero, List.set_cons_succ]
          refine wpAnyH_ready (rs := [13]) (by kernel_rfl) (by simp) ?_
          refine AllReadyH.cons (o := _) rfl (fun K hK => ?_) AllReadyH.nil
          go_simp
          obtain ⟨wr2, hwr2⟩ : ∃ u, u = w7.alloc (.cells #[.int .i64 0, .int .i64 0, .slice none 0 0] 55) := ⟨_, rfl⟩
          rw [← hwr2]
          have HAwr2 := hid (show Below w7.heap.size w7 wr2 by rw [hwr2]; exact (Below.refl _ _).alloc (Nat.le_refl _) _)
          have HNn10 := hid (show wr2.heap[w7.heap.size]? = some (.cells #[.int .i64 0, .int .i64 0, .slice none 0 0] 55) by rw [hwr2]; exact heap_alloc_new w7 _)
          have hkwr2 := hS.trans (HAwr2.out.mono hS.size)
          clear hwr2
          refine hK.out _ _ (hkwr2) (fun hS => ?_)
          clear hK K
          (try simp only [Act.put, List.getElem_toArray, List.getElem_cons_succ, List.getElem_cons_zero, List.setIfInBounds_toArray, List.set_cons_zero, List.set_cons_succ])
          refine wpAnyH_ready (rs := [14]) (by kernel_rfl) (by simp) ?_
          refine AllReadyH.cons (o := _) rfl (fun K hK => ?_) AllReadyH.nil
          have hgen10 : VA.heap.size ≤ w7.heap.size := belowSize HBw7.out (by first | exact Nat.le_refl _ | (dsimp only [World.drew]; exact Nat.le_refl _))
          have q0 := cellOf HNn10.out 0; have q1 := cellOf HNn10.out 1; have q2 := cellOf HNn10.out 2; have qf0 := freeOf HNn10.out 0; have qf1 := freeOf HNn10.out 1; have qf2 := freeOf HNn10.out 2
          (try dsimp only at q0 q1 q2)
          have HSBB := hid hS
          go_simp
          obtain ⟨VB, hVB⟩ : ∃ u, u = ((wr2.setCell ⟨w7.heap.size, 0, none⟩ (.int .i64 c10.n)).setCell ⟨w7.heap.size, 1, none⟩ (.int .i64 c10.t)).setCell ⟨w7.heap.size, 2, none⟩ (.slice c10.a c10.l c10.c) := ⟨_, rfl⟩
          rw [← hVB]
          clear q0 q1 q2 qf0 qf1 qf2
          have hkVB : Below VA.heap.size VA VB := by rw [hVB]; exact ((hS.setCell (p := ⟨w7.heap.size, 0, none⟩) hgen10 _).setCell (p := ⟨w7.heap.size, 1, none⟩) hgen10 _).setCell (p := ⟨w7.heap.size, 2, none⟩) hgen10 _
          have HEVB := hid hVB
          clear hVB
          refine hK.out _ _ (hkVB) (fun hS => ?_)
          clear hK K
          (try simp only [Act.put, List.getElem_toArray, List.getElem_cons_succ, List.getElem_cons_zero, List.setIfInBounds_toArray, List.set_cons_zero, List.set_cons_succ])
          refine wpAnyH_take (i := 15) (oi := _) (v := ?_) rfl (by kernel_rfl) (by kernel_rfl) (by kernel_rfl) (fun _ _ _ h => h) (Or.inl ⟨by rfl, ?_⟩) hS ?_
          rotate_left
          · intro w' hw'
            have hcells := HC16.out w' hw'
            go_simp
            (try with_reducible rfl)
          simp only [Act.put, List.getElem_toArray, List.getElem_cons_succ, List.getElem_cons_zero, List.setIfInBounds_toArray, List.set_cons_zero, List.set_cons_succ]
          refine wpAnyH_done (by kernel_rfl) ?_ _
          (try dsimp only)
          clear hS
          obtain ⟨n10, hn10⟩ : ∃ u, u = w7.heap.size := ⟨_, rfl⟩
          have HSTB := hid (show IsSta (fun b => VA.heap.size ≤ b ∧ b < wr2.heap.size ∧ b ≠ n10) wr2 c10 ⟨0, 0, putL LB dy⟩ by
            rw [hn10]
            exact HIw7.out.same fun b q => ⟨by have := HAwr2.out.size; have hq : VA.heap.size ≤ b := q.1; omega, HAwr2.out.block b q.2⟩)
          have HNB := hid (show wr2.heap[n10]? = some (.cells #[.int .i64 0, .int .i64 0, .slice none 0 0] 55) by rw [hn10]; exact HNn10.out)
          have HGB := hid (show VA.heap.size ≤ n10 by rw [hn10]; exact hgen10)
          have hV := HEVB.out
          rw [← hn10] at hV
          (try rw [← hn10])
          clear hn10
          obtain ⟨g9, hI9, hB9⟩ := setThree (v0 := .int .i64 c10.n) (v1 := .int .i64 c10.t) (v2 := .slice c10.a c10.l c10.c) HNB.out HSTB.out
          have hB9' := hB9 VA.heap.size VA HSBB.out HGB.out
          have hs9 : VB.heap.size = wr2.heap.size := by rw [hV]; simp [World.setCell]
          have hI9' : IsSta (fun b => VA.heap.size ≤ b ∧ b < wr2.heap.size ∧ b ≠ n10) VB c10 ⟨0, 0, putL LB dy⟩ := by
            rw [hV]
            exact HSTB.out.same fun b q => ⟨q, (Below.heap_setCell _ _ _ _ q.2.2).trans ((Below.heap_setCell _ _ _ _ q.2.2).trans (Below.heap_setCell _ _ _ _ q.2.2))⟩
          rw [← hV] at g9 hB9'
          have HV8B := hid g9
          have HVIB := hid (show IsSta (fun b => VA.heap.size ≤ b ∧ b < VB.heap.size ∧ b ≠ n10) VB c10 ⟨0, 0, putL LB dy⟩ from hI9'.same fun b q => ⟨by omega, rfl⟩)
          have HVBB := hid hB9'
          have HVGB := hid (show n10 < VB.heap.size from ltOf g9)
          clear hV g9 hI9 hI9' hB9 hB9' hs9 hbw7 HEVB
          have HZZ := hid (show wz.heap.size ≤ VA.heap.size from HVBA.out.size)
          have H84 := hid (show w4.heap.size + 2 ≤ n8 ∧ n8 < VA.heap.size ∧ VA.heap.size ≤ n10 ∧ n10 < VB.heap.size from ⟨by have := HGA.out; have := HSZ4.out; omega, HVGA.out, HGB.out, HVGB.out⟩)
          have HC19 := hid (show VB.heap[n8]? = some (.cells #[.int .i64 c8.n, .int .i64 c8.t, .slice c8.a c8.l c8.c] 55) ∧ VB.heap[n10]? = some (.cells #[.int .i64 c10.n, .int .i64 c10.t, .slice c10.a c10.l c10.c] 55) ∧ (∃ ka : StC, VB.heap[w4.heap.size]? = some (.cells #[.int .i64 ka.n, .int .i64 ka.t, .slice ka.a ka.l ka.c] 55)) ∧ (∃ kb : StC, VB.heap[w4.heap.size + 1]? = some (.cells #[.int .i64 kb.n, .int .i64 kb.t, .slice kb.a kb.l kb.c] 55)) ∧ Below w4.heap.size w4 VB from by
            have hz4 := HSZ4.out
            have hzz := HZZ.out
            have h8 := H84.out
            have hB := HVBA.out.trans (HVBB.out.mono HVBA.out.size)
            exact ⟨(HVBB.out.block _ h8.2.1).trans HV8A.out, HV8B.out, ⟨ca, (hB.block _ (by omega)).trans HAA.out⟩, ⟨cb, (hB.block _ (by omega)).trans HBB.out⟩, HUZ.out.trans (hB.mono (by omega))⟩)
          have HC19L : Hid (∀ w', (w'.heap[n8]? = some (.cells #[.int .i64 c8.n, .int .i64 c8.t, .slice c8.a c8.l c8.c] 55) ∧ w'.heap[n10]? = some (.cells #[.int .i64 c10.n, .int .i64 c10.t, .slice c10.a c10.l c10.c] 55) ∧ (∃ ka : StC, w'.heap[w4.heap.size]? = some (.cells #[.int .i64 ka.n, .int .i64 ka.t, .slice ka.a ka.l ka.c] 55)) ∧ (∃ kb : StC, w'.heap[w4.heap.size + 1]? = some (.cells #[.int .i64 kb.n, .int .i64 kb.t, .slice kb.a kb.l kb.c] 55)) ∧ Below w4.heap.size w4 w' ∧ VB.heap.size ≤ w'.heap.size ∧ ∀ b, b < VB.heap.size → b ≠ w4.heap.size → b ≠ w4.heap.size + 1 → w'.heap[b]? = VB.heap[b]?) → (w'.cell? ⟨n8, 0, none⟩ = some (.int .i64 c8.n) ∧ w'.cell? ⟨n8, 1, none⟩ = some (.int .i64 c8.t) ∧ w'.cell? ⟨n8, 2, none⟩ = some (.slice c8.a c8.l c8.c)) ∧ (w'.cell? ⟨n10, 0, none⟩ = some (.int .i64 c10.n) ∧ w'.cell? ⟨n10, 1, none⟩ = some (.int .i64 c10.t) ∧ w'.cell? ⟨n10, 2, none⟩ = some (.slice c10.a c10.l c10.c))) := hid fun w' h => ⟨⟨cellOf h.1 0, cellOf h.1 1, cellOf h.1 2⟩, ⟨cellOf h.2.1 0, cellOf h.2.1 1, cellOf h.2.1 2⟩⟩
          go_upto_region 19 with (fail)
          refine wp_region_held_drew (S := (fun w' => w'.heap[n8]? = some (.cells #[.int .i64 c8.n, .int .i64 c8.t, .slice c8.a c8.l c8.c] 55) ∧ w'.heap[n10]? = some (.cells #[.int .i64 c10.n, .int .i64 c10.t, .slice c10.a c10.l c10.c] 55) ∧ (∃ ka : StC, w'.heap[w4.heap.size]? = some (.cells #[.int .i64 ka.n, .int .i64 ka.t, .slice ka.a ka.l ka.c] 55)) ∧ (∃ kb : StC, w'.heap[w4.heap.size + 1]? = some (.cells #[.int .i64 kb.n, .int .i64 kb.t, .slice kb.a kb.l kb.c] 55)) ∧ Below w4.heap.size w4 w' ∧ VB.heap.size ≤ w'.heap.size ∧ ∀ b, b < VB.heap.size → b ≠ w4.heap.size → b ≠ w4.heap.size + 1 → w'.heap[b]? = VB.heap[b]?)) (by kernel_rfl) (⟨HC19.out.1, HC19.out.2.1, HC19.out.2.2.1, HC19.out.2.2.2.1, HC19.out.2.2.2.2.drew, Nat.le_refl _, fun b _ _ _ => rfl⟩) (fun hS => ?_)
          refine wpAnyH_take (i := 0) (oi := _) (v := ?_) rfl (by kernel_rfl) (by kernel_rfl) (by kernel_rfl) (fun _ _ _ h => h) (Or.inl ⟨by rfl, ?_⟩) hS ?_
          rotate_left
          · intro w' hw'
            have hcells := HC19L.out w' hw'
            go_simp
            (try with_reducible rfl)
          simp only [Act.put, List.getElem_toArray, List.getElem_cons_succ, List.getElem_cons_zero, List.setIfInBounds_toArray, List.set_cons_zero, List.set_cons_succ]
          refine wpAnyH_take (i := 1) (oi := _) (v := ?_) rfl (by kernel_rfl) (by kernel_rfl) (by kernel_rfl) (fun _ _ _ h => h) (Or.inl ⟨by rfl, ?_⟩) hS ?_
          rotate_left
          · intro w' hw'
            have hcells := HC19L.out w' hw'
            go_simp
            (try with_reducible rfl)
          simp only [Act.put, List.getElem_toArray, List.getElem_cons_succ, List.getElem_cons_zero, List.setIfInBounds_toArray, List.set_cons_zero, List.set_cons_succ]
          refine wpAnyH_ready (rs := [2]) (by kernel_rfl) (by simp) ?_
          refine AllReadyH.cons (o := _) rfl (fun K hK => ?_) AllReadyH.nil
          obtain ⟨s1, s2, ⟨ka, s3⟩, ⟨kb, s4⟩, s5, s6, s7⟩ := id hS
          have z0 := cellOf (w := VB) s3 0; have zf0 := freeOf (w := VB) s3 0; have z1 := cellOf (w := VB) s3 1; have zf1 := freeOf (w := VB) s3 1; have z2 := cellOf (w := VB) s3 2; have zf2 := freeOf (w := VB) s3 2
          (try dsimp only at z0 z1 z2)
          have S1 := hid s1
          have S2 := hid s2
          have S3 := hid s3
          have S4 := hid s4
          have S5 := hid s5
          have S6 := hid s6
          have S7 := hid s7
          clear s1 s2 s3 s4 s5 s6 s7
          go_simp
          obtain ⟨x1, hx1⟩ : ∃ u, u = (((VB.setCell ⟨w4.heap.size, 0, none⟩ (.int .i64 c8.n)).setCell ⟨w4.heap.size, 1, none⟩ (.int .i64 c8.t)).setCell ⟨w4.heap.size, 2, none⟩ (.slice c8.a c8.l c8.c)).drew := ⟨_, rfl⟩
          rw [← hx1]
          clear z0 z1 z2 zf0 zf1 zf2
          have oo : ∀ b, b ≠ w4.heap.size → x1.heap[b]? = VB.drew.heap[b]? := fun b hb => by rw [hx1]; exact (Below.heap_setCell _ _ _ _ hb).trans ((Below.heap_setCell _ _ _ _ hb).trans (Below.heap_setCell _ _ _ _ hb))
          have og := heapSet (o := 2) (.slice c8.a c8.l c8.c) (heapSet (o := 1) (.int .i64 c8.t) (heapSet (o := 0) (.int .i64 c8.n) S3.out))
          simp only [List.setIfInBounds_toArray, List.set_cons_zero, List.set_cons_succ] at og
          replace og : x1.heap[w4.heap.size]? = some (.cells #[.int .i64 c8.n, .int .i64 c8.t, .slice c8.a c8.l c8.c] 55) := by rw [hx1]; exact og
          have hn8 := H84.out
          have hns := HSZ4.out
          have ob : Below w4.heap.size w4 x1 := by rw [hx1]; exact ((S5.out.setCell (p := ⟨w4.heap.size, 0, none⟩) (by dsimp only; omega) _).setCell (p := ⟨w4.heap.size, 1, none⟩) (by dsimp only; omega) _).setCell (p := ⟨w4.heap.size, 2, none⟩) (by dsimp only; omega) _
          have os : x1.heap.size = VB.drew.heap.size := by rw [hx1]; simp [World.setCell]
          have HKx1 := hid (show  x1.heap[n8]? = some (.cells #[.int .i64 c8.n, .int .i64 c8.t, .slice c8.a c8.l c8.c] 55) ∧ x1.heap[n10]? = some (.cells #[.int .i64 c10.n, .int .i64 c10.t, .slice c10.a c10.l c10.c] 55) ∧ (∃ ka : StC, x1.heap[w4.heap.size]? = some (.cells #[.int .i64 ka.n, .int .i64 ka.t, .slice ka.a ka.l ka.c] 55)) ∧ (∃ kb : StC, x1.heap[w4.heap.size + 1]? = some (.cells #[.int .i64 kb.n, .int .i64 kb.t, .slice kb.a kb.l kb.c] 55)) ∧ Below w4.heap.size w4 x1 ∧ VB.heap.size ≤ x1.heap.size ∧ ∀ b, b < VB.heap.size → b ≠ w4.heap.size → b ≠ w4.heap.size + 1 → x1.heap[b]? = VB.heap[b]? from ⟨(oo _ (by omega)).trans S1.out, (oo _ (by omega)).trans S2.out, ⟨c8, og⟩, ⟨kb, (oo _ (by omega)).trans S4.out⟩, ob, by rw [os]; exact S6.out, fun b h1 h2 h3 => (oo b (by omega)).trans (S7.out b h1 h2 h3)⟩)
          have HOx1 := hid og
          skip
          clear S1 S2 S3 S4 S5 S6 S7 oo og ob os hx1 hn8 hns
          refine hK.out _ _ (HKx1.out) (fun hS => ?_)
          clear hK K
          (try simp only [Act.put, List.getElem_toArray, List.getElem_cons_succ, List.getElem_cons_zero, List.setIfInBounds_toArray, List.set_cons_zero, List.set_cons_succ])
          refine wpAnyH_ready (rs := [3]) (by kernel_rfl) (by simp) ?_
          refine AllReadyH.cons (o := _) rfl (fun K hK => ?_) AllReadyH.nil
          obtain ⟨s1, s2, ⟨ka, s3⟩, ⟨kb, s4⟩, s5, s6, s7⟩ := id hS
          have z0 := cellOf (w := x1) s4 0; have zf0 := freeOf (w := x1) s4 0; have z1 := cellOf (w := x1) s4 1; have zf1 := freeOf (w := x1) s4 1; have z2 := cellOf (w := x1) s4 2; have zf2 := freeOf (w := x1) s4 2
          (try dsimp only at z0 z1 z2)
          have S1 := hid s1
          have S2 := hid s2
          have S3 := hid s3
          have S4 := hid s4
          have S5 := hid s5
          have S6 := hid s6
          have S7 := hid s7
          clear s1 s2 s3 s4 s5 s6 s7
          go_simp
          obtain ⟨x2, hx2⟩ : ∃ u, u = ((x1.setCell ⟨w4.heap.size + 1, 0, none⟩ (.int .i64 c10.n)).setCell ⟨w4.heap.size + 1, 1, none⟩ (.int .i64 c10.t)).setCell ⟨w4.heap.size + 1, 2, none⟩ (.slice c10.a c10.l c10.c) := ⟨_, rfl⟩
          rw [← hx2]
          clear z0 z1 z2 zf0 zf1 zf2
          have oo : ∀ b, b ≠ w4.heap.size + 1 → x2.heap[b]? = x1.heap[b]? := fun b hb => by rw [hx2]; exact (Below.heap_setCell _ _ _ _ hb).trans ((Below.heap_setCell _ _ _ _ hb).trans (Below.heap_setCell _ _ _ _ hb))
          have og := heapSet (o := 2) (.slice c10.a c10.l c10.c) (heapSet (o := 1) (.int .i64 c10.t) (heapSet (o := 0) (.int .i64 c10.n) S4.out))
          simp only [List.setIfInBounds_toArray, List.set_cons_zero, List.set_cons_succ] at og
          replace og : x2.heap[w4.heap.size + 1]? = some (.cells #[.int .i64 c10.n, .int .i64 c10.t, .slice c10.a c10.l c10.c] 55) := by rw [hx2]; exact og
          have hn8 := H84.out
          have hns := HSZ4.out
          have ob : Below w4.heap.size w4 x2 := by rw [hx2]; exact ((S5.out.setCell (p := ⟨w4.heap.size + 1, 0, none⟩) (by dsimp only; omega) _).setCell (p := ⟨w4.heap.size + 1, 1, none⟩) (by dsimp only; omega) _).setCell (p := ⟨w4.heap.size + 1, 2, none⟩) (by dsimp only; omega) _
          have os : x2.heap.size = x1.heap.size := by rw [hx2]; simp [World.setCell]
          have HKx2 := hid (show  x2.heap[n8]? = some (.cells #[.int .i64 c8.n, .int .i64 c8.t, .slice c8.a c8.l c8.c] 55) ∧ x2.heap[n10]? = some (.cells #[.int .i64 c10.n, .int .i64 c10.t, .slice c10.a c10.l c10.c] 55) ∧ (∃ ka : StC, x2.heap[w4.heap.size]? = some (.cells #[.int .i64 ka.n, .int .i64 ka.t, .slice ka.a ka.l ka.c] 55)) ∧ (∃ kb : StC, x2.heap[w4.heap.size + 1]? = some (.cells #[.int .i64 kb.n, .int .i64 kb.t, .slice kb.a kb.l kb.c] 55)) ∧ Below w4.heap.size w4 x2 ∧ VB.heap.size ≤ x2.heap.size ∧ ∀ b, b < VB.heap.size → b ≠ w4.heap.size → b ≠ w4.heap.size + 1 → x2.heap[b]? = VB.heap[b]? from ⟨(oo _ (by omega)).trans S1.out, (oo _ (by omega)).trans S2.out, ⟨ka, (oo _ (by omega)).trans S3.out⟩, ⟨c10, og⟩, ob, by rw [os]; exact S6.out, fun b h1 h2 h3 => (oo b (by omega)).trans (S7.out b h1 h2 h3)⟩)
          have HOx2 := hid og
          have HPx2 := hid (show x2.heap[w4.heap.size]? = some (.cells #[.int .i64 c8.n, .int .i64 c8.t, .slice c8.a c8.l c8.c] 55) from (oo _ (by omega)).trans HOx1.out)
          clear S1 S2 S3 S4 S5 S6 S7 oo og ob os hx2 hn8 hns
          refine hK.out _ _ (HKx2.out) (fun hS => ?_)
          clear hK K
          (try simp only [Act.put, List.getElem_toArray, List.getElem_cons_succ, List.getElem_cons_zero, List.setIfInBounds_toArray, List.set_cons_zero, List.set_cons_succ])
          refine wpAnyH_done (by kernel_rfl) ?_ _
          (try dsimp only)
          clear hS
          go_wp2
          go_roundw
          case rel =>
            obtain ⟨t1, t2, _, _, t5, t6, t7⟩ := HKx2.out
            have hz4 := HSZ4.out
            have h8 := H84.out
            have hzz := HZZ.out
            have hb7 := HVBB.out.size
            refine ⟨i + 1, c8, c10, by omega, by go_num, t5, HPx2.out, HOx2.out, ?_, ?_⟩
            · rw [foldl_take_succ HIL.out, ← HLA.out, ← HDX.out HIL.out]
              exact HVIA.out.same fun b q => ⟨⟨by omega, by omega⟩, (t7 b (by omega) (by omega) (by omega)).trans (HVBB.out.block b q.2.1)⟩
            · rw [foldl_take_succ (l := l.reverse) (by rw [List.length_reverse]; exact HIL.out), ← HLB.out, ← HDY.out (by rw [List.length_reverse]; exact HIL.out)]
              exact HVIB.out.same fun b q => ⟨⟨by omega, by omega⟩, t7 b (by omega) (by omega) (by omega)⟩
          case measure => simp [intOf]; omega
        refine AllReadyH.cons (o := _) rfl (fun K hK => ?_) AllReadyH.nil
        go_simp
        obtain ⟨wr2, hwr2⟩ : ∃ u, u = (VA.alloc (.cells #[.int .i64 0, .int .i64 0, .slice none 0 0] 55)).drew := ⟨_, rfl⟩
        rw [← hwr2]
        have HAwr2 := hid (show Below VA.heap.size VA wr2 by rw [hwr2]; exact ((Below.refl _ _).alloc (Nat.le_refl _) _).drew)
        have HMn10 := hid (show wr2.heap[VA.heap.size]? = some (.cells #[.int .i64 0, .int .i64 0, .slice none 0 0] 55) by rw [hwr2]; exact heap_alloc_new VA _)
        have HZwr2 := hid (show wr2.heap.size = VA.heap.size + 1 by rw [hwr2]; simp)
        clear hwr2
        refine hK.out _ _ (HAwr2.out) (fun hS => ?_)
        clear hK K
        (try simp only [Act.put, List.getElem_toArray, List.getElem_cons_succ, List.getElem_cons_zero, List.setIfInBounds_toArray, List.set_cons_zero, List.set_cons_succ])
        refine wpAnyH_ready (rs := [9]) (by kernel_rfl) (by simp) ?_
        refine AllReadyH.cons (o := _) rfl (fun K hK => ?_) AllReadyH.nil
        go_simp; go_at_call 51; refine (HPB.out _ hS).mono ?_
        rintro e w7 ⟨c10, rfl, hbw7, hiw7⟩
        have HIw7 := hid hiw7
        have HBw7 := hid hbw7
        clear hiw7
        have HNn10 := hid (heapExt HBw7.out HMn10.out)
        refine hK.out _ _ (hS.trans (hbw7.mono hS.size)) (fun hS => ?_)
        clear hK K
        (try simp only [Act.put, List.getElem_toArray, List.getElem_cons_succ, List.getElem_cons_zero, List.setIfInBounds_toArray, List.set_cons_zero, List.set_cons_succ])
        refine wpAnyH_take (i := 10) (oi := _) (v := ?_) rfl (by kernel_rfl) (by kernel_rfl) (by kernel_rfl) (fun _ _ _ h => h) (Or.inl ⟨by rfl, ?_⟩) hS ?_
        rotate_left
        · intro w' hw'
          have hcells := HC16.out w' hw'
          go_simp
          (try with_reducible rfl)
        simp only [Act.put, List.getElem_toArray, List.getElem_cons_succ, List.getElem_cons_zero, List.setIfInBounds_toArray, List.set_cons_zero, List.set_cons_succ]
        refine wpAnyH_take (i := 11) (oi := _) (v := ?_) rfl (by kernel_rfl) (by kernel_rfl) (by kernel_rfl) (fun _ _ _ h => h) (Or.inl ⟨by rfl, ?_⟩) hS ?_
        rotate_left
        · intro w' hw'
          have hcells := HC16.out w' hw'
          go_simp
          (try with_reducible rfl)
        simp only [Act.put, List.getElem_toArray, List.getElem_cons_succ, List.getElem_cons_zero, List.setIfInBounds_toArray, List.set_cons_zero, List.set_cons_succ]
        refine wpAnyH_take (i := 12) (oi := _) (v := ?_) rfl (by kernel_rfl) (by kernel_rfl) (by kernel_rfl) (fun _ _ _ h => h) (Or.inl ⟨by rfl, ?_⟩) hS ?_
        rotate_left
        · intro w' hw'
          have hcells := HC16.out w' hw'
          go_simp
          (try with_reducible rfl)
        simp only [Act.put, List.getElem_toArray, List.getElem_cons_succ, List.getElem_cons_zero, List.setIfInBounds_toArray, List.set_cons_zero, List.set_cons_succ]
        refine wpAnyH_ready (rs := [14]) (by kernel_rfl) (by simp) ?_
        refine AllReadyH.cons (o := _) rfl (fun K hK => ?_) AllReadyH.nil
        have q0 := cellOf HNn10.out 0; have q1 := cellOf HNn10.out 1; have q2 := cellOf HNn10.out 2; have qf0 := freeOf HNn10.out 0; have qf1 := freeOf HNn10.out 1; have qf2 := freeOf HNn10.out 2
        (try dsimp only at q0 q1 q2)
        have HSBB := hid hS
        go_simp
        obtain ⟨VB, hVB⟩ : ∃ u, u = ((w7.setCell ⟨VA.heap.size, 0, none⟩ (.int .i64 c10.n)).setCell ⟨VA.heap.size, 1, none⟩ (.int .i64 c10.t)).setCell ⟨VA.heap.size, 2, none⟩ (.slice c10.a c10.l c10.c) := ⟨_, rfl⟩
        rw [← hVB]
        clear q0 q1 q2 qf0 qf1 qf2
        have hkVB : Below VA.heap.size VA VB := by rw [hVB]; exact ((hS.setCell (p := ⟨VA.heap.size, 0, none⟩) (Nat.le_refl _) _).setCell (p := ⟨VA.heap.size, 1, none⟩) (Nat.le_refl _) _).setCell (p := ⟨VA.heap.size, 2, none⟩) (Nat.le_refl _) _
        have HEVB := hid hVB
        clear hVB
        refine hK.out _ _ (hkVB) (fun hS => ?_)
        clear hK K
        (try simp only [Act.put, List.getElem_toArray, List.getElem_cons_succ, List.getElem_cons_zero, List.setIfInBounds_toArray, List.set_cons_zero, List.set_cons_succ])
        refine wpAnyH_take (i := 15) (oi := _) (v := ?_) rfl (by kernel_rfl) (by kernel_rfl) (by kernel_rfl) (fun _ _ _ h => h) (Or.inl ⟨by rfl, ?_⟩) hS ?_
        rotate_left
        · intro w' hw'
          have hcells := HC16.out w' hw'
          go_simp
          (try with_reducible rfl)
        simp only [Act.put, List.getElem_toArray, List.getElem_cons_succ, List.getElem_cons_zero, List.setIfInBounds_toArray, List.set_cons_zero, List.set_cons_succ]
        refine wpAnyH_done (by kernel_rfl) ?_ _
        (try dsimp only)
        clear hS
        obtain ⟨n10, hn10⟩ : ∃ u, u = VA.heap.size := ⟨_, rfl⟩
        have HSTB := hid (show IsSta (fun b => VA.heap.size ≤ b ∧ b < w7.heap.size ∧ b ≠ n10) w7 c10 ⟨0, 0, putL LB dy⟩ by
          rw [hn10]
          exact HIw7.out.same fun b q => ⟨by have := HAwr2.out.size; have := HZwr2.out; omega, rfl⟩)
        have HNB := hid (show w7.heap[n10]? = some (.cells #[.int .i64 0, .int .i64 0, .slice none 0 0] 55) by rw [hn10]; exact HNn10.out)
        have HGB := hid (show VA.heap.size ≤ n10 by rw [hn10]; exact Nat.le_refl _)
        have hV := HEVB.out
        rw [← hn10] at hV
        (try rw [← hn10])
        clear hn10
        obtain ⟨g9, hI9, hB9⟩ := setThree (v0 := .int .i64 c10.n) (v1 := .int .i64 c10.t) (v2 := .slice c10.a c10.l c10.c) HNB.out HSTB.out
        have hB9' := hB9 VA.heap.size VA HSBB.out HGB.out
        have hs9 : VB.heap.size = w7.heap.size := by rw [hV]; simp [World.setCell]
        have hI9' : IsSta (fun b => VA.heap.size ≤ b ∧ b < w7.heap.size ∧ b ≠ n10) VB c10 ⟨0, 0, putL LB dy⟩ := by
          rw [hV]
          exact HSTB.out.same fun b q => ⟨q, (Below.heap_setCell _ _ _ _ q.2.2).trans ((Below.heap_setCell _ _ _ _ q.2.2).trans (Below.heap_setCell _ _ _ _ q.2.2))⟩
        rw [← hV] at g9 hB9'
        have HV8B := hid g9
        have HVIB := hid (show IsSta (fun b => VA.heap.size ≤ b ∧ b < VB.heap.size ∧ b ≠ n10) VB c10 ⟨0, 0, putL LB dy⟩ from hI9'.same fun b q => ⟨by omega, rfl⟩)
        have HVBB := hid hB9'
        have HVGB := hid (show n10 < VB.heap.size from ltOf g9)
        clear hV g9 hI9 hI9' hB9 hB9' hs9 hbw7 HEVB
        have HZZ := hid (show wz.heap.size ≤ VA.heap.size from HVBA.out.size)
        have H84 := hid (show w4.heap.size + 2 ≤ n8 ∧ n8 < VA.heap.size ∧ VA.heap.size ≤ n10 ∧ n10 < VB.heap.size from ⟨by have := HGA.out; have := HSZ4.out; omega, HVGA.out, HGB.out, HVGB.out⟩)
        have HC19 := hid (show VB.heap[n8]? = some (.cells #[.int .i64 c8.n, .int .i64 c8.t, .slice c8.a c8.l c8.c] 55) ∧ VB.heap[n10]? = some (.cells #[.int .i64 c10.n, .int .i64 c10.t, .slice c10.a c10.l c10.c] 55) ∧ (∃ ka : StC, VB.heap[w4.heap.size]? = some (.cells #[.int .i64 ka.n, .int .i64 ka.t, .slice ka.a ka.l ka.c] 55)) ∧ (∃ kb : StC, VB.heap[w4.heap.size + 1]? = some (.cells #[.int .i64 kb.n, .int .i64 kb.t, .slice kb.a kb.l kb.c] 55)) ∧ Below w4.heap.size w4 VB from by
          have hz4 := HSZ4.out
          have hzz := HZZ.out
          have h8 := H84.out
          have hB := HVBA.out.trans (HVBB.out.mono HVBA.out.size)
          exact ⟨(HVBB.out.block _ h8.2.1).trans HV8A.out, HV8B.out, ⟨ca, (hB.block _ (by omega)).trans HAA.out⟩, ⟨cb, (hB.block _ (by omega)).trans HBB.out⟩, HUZ.out.trans (hB.mono (by omega))⟩)
        have HC19L : Hid (∀ w', (w'.heap[n8]? = some (.cells #[.int .i64 c8.n, .int .i64 c8.t, .slice c8.a c8.l c8.c] 55) ∧ w'.heap[n10]? = some (.cells #[.int .i64 c10.n, .int .i64 c10.t, .slice c10.a c10.l c10.c] 55) ∧ (∃ ka : StC, w'.heap[w4.heap.size]? = some (.cells #[.int .i64 ka.n, .int .i64 ka.t, .slice ka.a ka.l ka.c] 55)) ∧ (∃ kb : StC, w'.heap[w4.heap.size + 1]? = some (.cells #[.int .i64 kb.n, .int .i64 kb.t, .slice kb.a kb.l kb.c] 55)) ∧ Below w4.heap.size w4 w' ∧ VB.heap.size ≤ w'.heap.size ∧ ∀ b, b < VB.heap.size → b ≠ w4.heap.size → b ≠ w4.heap.size + 1 → w'.heap[b]? = VB.heap[b]?) → (w'.cell? ⟨n8, 0, none⟩ = some (.int .i64 c8.n) ∧ w'.cell? ⟨n8, 1, none⟩ = some (.int .i64 c8.t) ∧ w'.cell? ⟨n8, 2, none⟩ = some (.slice c8.a c8.l c8.c)) ∧ (w'.cell? ⟨n10, 0, none⟩ = some (.int .i64 c10.n) ∧ w'.cell? ⟨n10, 1, none⟩ = some (.int .i64 c10.t) ∧ w'.cell? ⟨n10, 2, none⟩ = some (.slice c10.a c10.l c10.c))) := hid fun w' h => ⟨⟨cellOf h.1 0, cellOf h.1 1, cellOf h.1 2⟩, ⟨cellOf h.2.1 0, cellOf h.2.1 1, cellOf h.2.1 2⟩⟩
        go_upto_region 19 with (fail)
        refine wp_region_held_drew (S := (fun w' => w'.heap[n8]? = some (.cells #[.int .i64 c8.n, .int .i64 c8.t, .slice c8.a c8.l c8.c] 55) ∧ w'.heap[n10]? = some (.cells #[.int .i64 c10.n, .int .i64 c10.t, .slice c10.a c10.l c10.c] 55) ∧ (∃ ka : StC, w'.heap[w4.heap.size]? = some (.cells #[.int .i64 ka.n, .int .i64 ka.t, .slice ka.a ka.l ka.c] 55)) ∧ (∃ kb : StC, w'.heap[w4.heap.size + 1]? = some (.cells #[.int .i64 kb.n, .int .i64 kb.t, .slice kb.a kb.l kb.c] 55)) ∧ Below w4.heap.size w4 w' ∧ VB.heap.size ≤ w'.heap.size ∧ ∀ b, b < VB.heap.size → b ≠ w4.heap.size → b ≠ w4.heap.size + 1 → w'.heap[b]? = VB.heap[b]?)) (by kernel_rfl) (⟨HC19.out.1, HC19.out.2.1, HC19.out.2.2.1, HC19.out.2.2.2.1, HC19.out.2.2.2.2.drew, Nat.le_refl _, fun b _ _ _ => rfl⟩) (fun hS => ?_)
        refine wpAnyH_take (i := 0) (oi := _) (v := ?_) rfl (by kernel_rfl) (by kernel_rfl) (by kernel_rfl) (fun _ _ _ h => h) (Or.inl ⟨by rfl, ?_⟩) hS ?_
        rotate_left
        · intro w' hw'
          have hcells := HC19L.out w' hw'
          go_simp
          (try with_reducible rfl)
        simp only [Act.put, List.getElem_toArray, List.getElem_cons_succ, List.getElem_cons_zero, List.setIfInBounds_toArray, List.set_cons_zero, List.set_cons_succ]
        refine wpAnyH_take (i := 1) (oi := _) (v := ?_) rfl (by kernel_rfl) (by kernel_rfl) (by kernel_rfl) (fun _ _ _ h => h) (Or.inl ⟨by rfl, ?_⟩) hS ?_
        rotate_left
        · intro w' hw'
          have hcells := HC19L.out w' hw'
          go_simp
          (try with_reducible rfl)
        simp only [Act.put, List.getElem_toArray, List.getElem_cons_succ, List.getElem_cons_zero, List.setIfInBounds_toArray, List.set_cons_zero, List.set_cons_succ]
        refine wpAnyH_ready (rs := [2]) (by kernel_rfl) (by simp) ?_
        refine AllReadyH.cons (o := _) rfl (fun K hK => ?_) AllReadyH.nil
        obtain ⟨s1, s2, ⟨ka, s3⟩, ⟨kb, s4⟩, s5, s6, s7⟩ := id hS
        have z0 := cellOf (w := VB) s3 0; have zf0 := freeOf (w := VB) s3 0; have z1 := cellOf (w := VB) s3 1; have zf1 := freeOf (w := VB) s3 1; have z2 := cellOf (w := VB) s3 2; have zf2 := freeOf (w := VB) s3 2
        (try dsimp only at z0 z1 z2)
        have S1 := hid s1
        have S2 := hid s2
        have S3 := hid s3
        have S4 := hid s4
        have S5 := hid s5
        have S6 := hid s6
        have S7 := hid s7
        clear s1 s2 s3 s4 s5 s6 s7
        go_simp
        obtain ⟨x1, hx1⟩ : ∃ u, u = (((VB.setCell ⟨w4.heap.size, 0, none⟩ (.int .i64 c8.n)).setCell ⟨w4.heap.size, 1, none⟩ (.int .i64 c8.t)).setCell ⟨w4.heap.size, 2, none⟩ (.slice c8.a c8.l c8.c)).drew := ⟨_, rfl⟩
        rw [← hx1]
        clear z0 z1 z2 zf0 zf1 zf2
        have oo : ∀ b, b ≠ w4.heap.size → x1.heap[b]? = VB.drew.heap[b]? := fun b hb => by rw [hx1]; exact (Below.heap_setCell _ _ _ _ hb).trans ((Below.heap_setCell _ _ _ _ hb).trans (Below.heap_setCell _ _ _ _ hb))
        have og := heapSet (o := 2) (.slice c8.a c8.l c8.c) (heapSet (o := 1) (.int .i64 c8.t) (heapSet (o := 0) (.int .i64 c8.n) S3.out))
        simp only [List.setIfInBounds_toArray, List.set_cons_zero, List.set_cons_succ] at og
        replace og : x1.heap[w4.heap.size]? = some (.cells #[.int .i64 c8.n, .int .i64 c8.t, .slice c8.a c8.l c8.c] 55) := by rw [hx1]; exact og
        have hn8 := H84.out
        have hns := HSZ4.out
        have ob : Below w4.heap.size w4 x1 := by rw [hx1]; exact ((S5.out.setCell (p := ⟨w4.heap.size, 0, none⟩) (by dsimp only; omega) _).setCell (p := ⟨w4.heap.size, 1, none⟩) (by dsimp only; omega) _).setCell (p := ⟨w4.heap.size, 2, none⟩) (by dsimp only; omega) _
        have os : x1.heap.size = VB.drew.heap.size := by rw [hx1]; simp [World.setCell]
        have HKx1 := hid (show  x1.heap[n8]? = some (.cells #[.int .i64 c8.n, .int .i64 c8.t, .slice c8.a c8.l c8.c] 55) ∧ x1.heap[n10]? = some (.cells #[.int .i64 c10.n, .int .i64 c10.t, .slice c10.a c10.l c10.c] 55) ∧ (∃ ka : StC, x1.heap[w4.heap.size]? = some (.cells #[.int .i64 ka.n, .int .i64 ka.t, .slice ka.a ka.l ka.c] 55)) ∧ (∃ kb : StC, x1.heap[w4.heap.size + 1]? = some (.cells #[.int .i64 kb.n, .int .i64 kb.t, .slice kb.a kb.l kb.c] 55)) ∧ Below w4.heap.size w4 x1 ∧ VB.heap.size ≤ x1.heap.size ∧ ∀ b, b < VB.heap.size → b ≠ w4.heap.size → b ≠ w4.heap.size + 1 → x1.heap[b]? = VB.heap[b]? from ⟨(oo _ (by omega)).trans S1.out, (oo _ (by omega)).trans S2.out, ⟨c8, og⟩, ⟨kb, (oo _ (by omega)).trans S4.out⟩, ob, by rw [os]; exact S6.out, fun b h1 h2 h3 => (oo b (by omega)).trans (S7.out b h1 h2 h3)⟩)
        have HOx1 := hid og
        skip
        clear S1 S2 S3 S4 S5 S6 S7 oo og ob os hx1 hn8 hns
        refine hK.out _ _ (HKx1.out) (fun hS => ?_)
        clear hK K
        (try simp only [Act.put, List.getElem_toArray, List.getElem_cons_succ, List.getElem_cons_zero, List.setIfInBounds_toArray, List.set_cons_zero, List.set_cons_succ])
        refine wpAnyH_ready (rs := [3]) (by kernel_rfl) (by simp) ?_
        refine AllReadyH.cons (o := _) rfl (fun K hK => ?_) AllReadyH.nil
        obtain ⟨s1, s2, ⟨ka, s3⟩, ⟨kb, s4⟩, s5, s6, s7⟩ := id hS
        have z0 := cellOf (w := x1) s4 0; have zf0 := freeOf (w := x1) s4 0; have z1 := cellOf (w := x1) s4 1; have zf1 := freeOf (w := x1) s4 1; have z2 := cellOf (w := x1) s4 2; have zf2 := freeOf (w := x1) s4 2
        (try dsimp only at z0 z1 z2)
        have S1 := hid s1
        have S2 := hid s2
        have S3 := hid s3
        have S4 := hid s4
        have S5 := hid s5
        have S6 := hid s6
        have S7 := hid s7
        clear s1 s2 s3 s4 s5 s6 s7
        go_simp
        obtain ⟨x2, hx2⟩ : ∃ u, u = ((x1.setCell ⟨w4.heap.size + 1, 0, none⟩ (.int .i64 c10.n)).setCell ⟨w4.heap.size + 1, 1, none⟩ (.int .i64 c10.t)).setCell ⟨w4.heap.size + 1, 2, none⟩ (.slice c10.a c10.l c10.c) := ⟨_, rfl⟩
        rw [← hx2]
        clear z0 z1 z2 zf0 zf1 zf2
        have oo : ∀ b, b ≠ w4.heap.size + 1 → x2.heap[b]? = x1.heap[b]? := fun b hb => by rw [hx2]; exact (Below.heap_setCell _ _ _ _ hb).trans ((Below.heap_setCell _ _ _ _ hb).trans (Below.heap_setCell _ _ _ _ hb))
        have og := heapSet (o := 2) (.slice c10.a c10.l c10.c) (heapSet (o := 1) (.int .i64 c10.t) (heapSet (o := 0) (.int .i64 c10.n) S4.out))
        simp only [List.setIfInBounds_toArray, List.set_cons_zero, List.set_cons_succ] at og
        replace og : x2.heap[w4.heap.size + 1]? = some (.cells #[.int .i64 c10.n, .int .i64 c10.t, .slice c10.a c10.l c10.c] 55) := by rw [hx2]; exact og
        have hn8 := H84.out
        have hns := HSZ4.out
        have ob : Below w4.heap.size w4 x2 := by rw [hx2]; exact ((S5.out.setCell (p := ⟨w4.heap.size + 1, 0, none⟩) (by dsimp only; omega) _).setCell (p := ⟨w4.heap.size + 1, 1, none⟩) (by dsimp only; omega) _).setCell (p := ⟨w4.heap.size + 1, 2, none⟩) (by dsimp only; omega) _
        have os : x2.heap.size = x1.heap.size := by rw [hx2]; simp [World.setCell]
        have HKx2 := hid (show  x2.heap[n8]? = some (.cells #[.int .i64 c8.n, .int .i64 c8.t, .slice c8.a c8.l c8.c] 55) ∧ x2.heap[n10]? = some (.cells #[.int .i64 c10.n, .int .i64 c10.t, .slice c10.a c10.l c10.c] 55) ∧ (∃ ka : StC, x2.heap[w4.heap.size]? = some (.cells #[.int .i64 ka.n, .int .i64 ka.t, .slice ka.a ka.l ka.c] 55)) ∧ (∃ kb : StC, x2.heap[w4.heap.size + 1]? = some (.cells #[.int .i64 kb.n, .int .i64 kb.t, .slice kb.a kb.l kb.c] 55)) ∧ Below w4.heap.size w4 x2 ∧ VB.heap.size ≤ x2.heap.size ∧ ∀ b, b < VB.heap.size → b ≠ w4.heap.size → b ≠ w4.heap.size + 1 → x2.heap[b]? = VB.heap[b]? from ⟨(oo _ (by omega)).trans S1.out, (oo _ (by omega)).trans S2.out, ⟨ka, (oo _ (by omega)).trans S3.out⟩, ⟨c10, og⟩, ob, by rw [os]; exact S6.out, fun b h1 h2 h3 => (oo b (by omega)).trans (S7.out b h1 h2 h3)⟩)
        have HOx2 := hid og
        have HPx2 := hid (show x2.heap[w4.heap.size]? = some (.cells #[.int .i64 c8.n, .int .i64 c8.t, .slice c8.a c8.l c8.c] 55) from (oo _ (by omega)).trans HOx1.out)
        clear S1 S2 S3 S4 S5 S6 S7 oo og ob os hx2 hn8 hns
        refine hK.out _ _ (HKx2.out) (fun hS => ?_)
        clear hK K
        (try simp only [Act.put, List.getElem_toArray, List.getElem_cons_succ, List.getElem_cons_zero, List.setIfInBounds_toArray, List.set_cons_zero, List.set_cons_succ])
        refine wpAnyH_done (by kernel_rfl) ?_ _
        (try dsimp only)
        clear hS
        go_wp2
        go_roundw
        case rel =>
          obtain ⟨t1, t2, _, _, t5, t6, t7⟩ := HKx2.out
          have hz4 := HSZ4.out
          have h8 := H84.out
          have hzz := HZZ.out
          have hb7 := HVBB.out.size
          refine ⟨i + 1, c8, c10, by omega, by go_num, t5, HPx2.out, HOx2.out, ?_, ?_⟩
          · rw [foldl_take_succ HIL.out, ← HLA.out, ← HDX.out HIL.out]
            exact HVIA.out.same fun b q => ⟨⟨by omega, by omega⟩, (t7 b (by omega) (by omega) (by omega)).trans (HVBB.out.block b q.2.1)⟩
          · rw [foldl_take_succ (l := l.reverse) (by rw [List.length_reverse]; exact HIL.out), ← HLB.out, ← HDY.out (by rw [List.length_reverse]; exact HIL.out)]
            exact HVIB.out.same fun b q => ⟨⟨by omega, by omega⟩, t7 b (by omega) (by omega) (by omega)⟩
        case measure => simp [intOf]; omega
      refine AllReadyH.cons (o := _) rfl (fun K hK => ?_) AllReadyH.nil
      go_simp
      obtain ⟨wq, hwq⟩ : ∃ u, u = (wz.alloc (.cells #[.int .i64 0, .int .i64 0, .slice none 0 0] 55)).drew := ⟨_, rfl⟩
      rw [← hwq]
      have HAwq := hid (show Below wz.heap.size wz wq by rw [hwq]; exact ((Below.refl _ _).alloc (Nat.le_refl _) _).drew)
      have HMn8 := hid (show wq.heap[wz.heap.size]? = some (.cells #[.int .i64 0, .int .i64 0, .slice none 0 0] 55) by rw [hwq]; exact heap_alloc_new wz _)
      have HZwq := hid (show wq.heap.size = wz.heap.size + 1 by rw [hwq]; simp)
      clear hwq
      refine hK.out _ _ (HAwq.out) (fun hS => ?_)
      clear hK K
      (try simp only [Act.put, List.getElem_toArray, List.getElem_cons_succ, List.getElem_cons_zero, List.setIfInBounds_toArray, List.set_cons_zero, List.set_cons_succ])
      refine wpAnyH_ready (rs := [5]) (by kernel_rfl) (by simp) ?_
      refine AllReadyH.cons (o := _) rfl (fun K hK => ?_) AllReadyH.nil
      go_simp; go_at_call 51; refine (HPA.out _ hS).mono ?_
      rintro e w5 ⟨c8, rfl, hbw5, hiw5⟩
      have HIw5 := hid hiw5
      have HBw5 := hid hbw5
      clear hiw5
      have HNn8 := hid (heapExt HBw5.out HMn8.out)
      refine hK.out _ _ (hS.trans (hbw5.mono hS.size)) (fun hS => ?_)
      clear hK K
      (try simp only [Act.put, List.getElem_toArray, List.getElem_cons_succ, List.getElem_cons_zero, List.setIfInBounds_toArray, List.set_cons_zero, List.set_cons_succ])
      refine wpAnyH_take (i := 6) (oi := _) (v := ?_) rfl (by kernel_rfl) (by kernel_rfl) (by kernel_rfl) (fun _ _ _ h => h) (Or.inl ⟨by rfl, ?_⟩) hS ?_
      rotate_left
      · intro w' hw'
        have hcells := HC15.out w' hw'
        go_simp
        (try with_reducible rfl)
      simp only [Act.put, List.getElem_toArray, List.getElem_cons_succ, List.getElem_cons_zero, List.setIfInBounds_toArray, List.set_cons_zero, List.set_cons_succ]
      refine wpAnyH_take (i := 7) (oi := _) (v := ?_) rfl (by kernel_rfl) (by kernel_rfl) (by kernel_rfl) (fun _ _ _ h => h) (Or.inl ⟨by rfl, ?_⟩) hS ?_
      rotate_left
      · intro w' hw'
        have hcells := HC15.out w' hw'
        go_simp
        (try with_reducible rfl)
      simp only [Act.put, List.getElem_toArray, List.getElem_cons_succ, List.getElem_cons_zero, List.setIfInBounds_toArray, List.set_cons_zero, List.set_cons_succ]
      refine wpAnyH_take (i := 8) (oi := _) (v := ?_) rfl (by kernel_rfl) (by kernel_rfl) (by kernel_rfl) (fun _ _ _ h => h) (Or.inl ⟨by rfl, ?_⟩) hS ?_
      rotate_left
      · intro w' hw'
        have hcells := HC15.out w' hw'
        go_simp
        (try with_reducible rfl)
      simp only [Act.put, List.getElem_toArray, List.getElem_cons_succ, List.getElem_cons_zero, List.setIfInBounds_toArray, List.set_cons_zero, List.set_cons_succ]
      refine wpAnyH_ready (rs := [10]) (by kernel_rfl) (by simp) ?_
      refine AllReadyH.cons (o := _) rfl (fun K hK => ?_) AllReadyH.nil
      have q0 := cellOf HNn8.out 0; have q1 := cellOf HNn8.out 1; have q2 := cellOf HNn8.out 2; have qf0 := freeOf HNn8.out 0; have qf1 := freeOf HNn8.out 1; have qf2 := freeOf HNn8.out 2
      (try dsimp only at q0 q1 q2)
      have HSBA := hid hS
      go_simp
      obtain ⟨VA, hVA⟩ : ∃ u, u = ((w5.setCell ⟨wz.heap.size, 0, none⟩ (.int .i64 c8.n)).setCell ⟨wz.heap.size, 1, none⟩ (.int .i64 c8.t)).setCell ⟨wz.heap.size, 2, none⟩ (.slice c8.a c8.l c8.c) := ⟨_, rfl⟩
      rw [← hVA]
      clear q0 q1 q2 qf0 qf1 qf2
      have hkVA : Below wz.heap.size wz VA := by rw [hVA]; exact ((hS.setCell (p := ⟨wz.heap.size, 0, none⟩) (Nat.le_refl _) _).setCell (p := ⟨wz.heap.size, 1, none⟩) (Nat.le_refl _) _).setCell (p := ⟨wz.heap.size, 2, none⟩) (Nat.le_refl _) _
      have HEVA := hid hVA
      clear hVA
      refine hK.out _ _ (hkVA) (fun hS => ?_)
      clear hK K
      (try simp only [Act.put, List.getElem_toArray, List.getElem_cons_succ, List.getElem_cons_zero, List.setIfInBounds_toArray, List.set_cons_zero, List.set_cons_succ])
      refine wpAnyH_take (i := 11) (oi := _) (v := ?_) rfl (by kernel_rfl) (by kernel_rfl) (by kernel_rfl) (fun _ _ _ h => h) (Or.inl ⟨by rfl, ?_⟩) hS ?_
      rotate_left
      · intro w' hw'
        have hcells := HC15.out w' hw'
        go_simp
        (try with_reducible rfl)
      simp only [Act.put, List.getElem_toArray, List.getElem_cons_succ, List.getElem_cons_zero, List.setIfInBounds_toArray, List.set_cons_zero, List.set_cons_succ]
      refine wpAnyH_done (by kernel_rfl) ?_ _
      (try dsimp only)
      clear hS
      obtain ⟨n8, hn8⟩ : ∃ u, u = wz.heap.size := ⟨_, rfl⟩
      have HSTA := hid (show IsSta (fun b => wz.heap.size ≤ b ∧ b < w5.heap.size ∧ b ≠ n8) w5 c8 ⟨0, 0, putL LA dx⟩ by
        rw [hn8]
        exact HIw5.out.same fun b q => ⟨by have := HAwq.out.size; have := HZwq.out; omega, rfl⟩)
      have HNA := hid (show w5.heap[n8]? = some (.cells #[.int .i64 0, .int .i64 0, .slice none 0 0] 55) by rw [hn8]; exact HNn8.out)
      have HGA := hid (show wz.heap.size ≤ n8 by rw [hn8]; exact Nat.le_refl _)
      have hV := HEVA.out
      rw [← hn8] at hV
      (try rw [← hn8])
      clear hn8
      obtain ⟨g9, hI9, hB9⟩ := setThree (v0 := .int .i64 c8.n) (v1 := .int .i64 c8.t) (v2 := .slice c8.a c8.l c8.c) HNA.out HSTA.out
      have hB9' := hB9 wz.heap.size wz HSBA.out HGA.out
      have hs9 : VA.heap.size = w5.heap.size := by rw [hV]; simp [World.setCell]
      have hI9' : IsSta (fun b => wz.heap.size ≤ b ∧ b < w5.heap.size ∧ b ≠ n8) VA c8 ⟨0, 0, putL LA dx⟩ := by
        rw [hV]
        exact HSTA.out.same fun b q => ⟨q, (Below.heap_setCell _ _ _ _ q.2.2).trans ((Below.heap_setCell _ _ _ _ q.2.2).trans (Below.heap_setCell _ _ _ _ q.2.2))⟩
      rw [← hV] at g9 hB9'
      have HV8A := hid g9
      have HVIA := hid (show IsSta (fun b => wz.heap.size ≤ b ∧ b < VA.heap.size ∧ b ≠ n8) VA c8 ⟨0, 0, putL LA dx⟩ from hI9'.same fun b q => ⟨by omega, rfl⟩)
      have HVBA := hid hB9'
      have HVGA := hid (show n8 < VA.heap.size from ltOf g9)
      clear hV g9 hI9 hI9' hB9 hB9' hs9 hbw5 HEVA
      go_upto_region 16 with (fail)
      have HC16 : Hid (∀ w', Below VA.heap.size VA w' → (w'.cell? ⟨w4.heap.size + 1, 0, none⟩ = some (.int .i64 cb.n) ∧ w'.cell? ⟨w4.heap.size + 1, 1, none⟩ = some (.int .i64 cb.t) ∧ w'.cell? ⟨w4.heap.size + 1, 2, none⟩ = some (.slice cb.a cb.l cb.c)) ∧ (w'.cell? ⟨b, o + j * 10, none⟩ = some (.int .i64 y.k.k) ∧ w'.cell? ⟨b, o + j * 10 + 1, none⟩ = some (.int .i64 y.k.i) ∧ w'.cell? ⟨b, o + j * 10 + 2, none⟩ = some (.int .i64 y.k.s) ∧ w'.cell? ⟨b, o + j * 10 + 3, none⟩ = some (.string y.k.t) ∧ w'.cell? ⟨b, o + j * 10 + 4, none⟩ = some (.slice y.k.la y.k.ll y.k.lc) ∧ w'.cell? ⟨b, o + j * 10 + 5, none⟩ = some (.slice y.k.fa y.k.fl y.k.fc) ∧ w'.cell? ⟨b, o + j * 10 + 6, none⟩ = some (.int .i64 y.n) ∧ w'.cell? ⟨b, o + j * 10 + 7, none⟩ = some (.int .i64 y.t) ∧ w'.cell? ⟨b, o + j * 10 + 8, none⟩ = some (.slice y.ia y.il y.ic) ∧ w'.cell? ⟨b, o + j * 10 + 9, none⟩ = some (.slice y.va y.vl y.vc))) := hid fun w' h => by
        have hB := HVBA.out.trans (h.mono HVBA.out.size)
        have h1 := (hB.block _ (by have := HSZ4.out; omega)).trans HBB.out
        have h2 := HU4.out _ (HUZ.out.trans (hB.mono (by have := HSZ4.out; omega)))
        exact ⟨⟨cellOf h1 0, cellOf h1 1, cellOf h1 2⟩, (HYA.out.same (h2.block b HB0.out)).slot⟩
      have HPB : Hid (∀ w', Below VA.heap.size VA w' → Calls Tryz.prog 51 #[.agg #[.int .i64 cb.n, .int .i64 cb.t, .slice cb.a cb.l cb.c], .agg #[.int .i64 y.k.k, .int .i64 y.k.i, .int .i64 y.k.s, .string y.k.t, .slice y.k.la y.k.ll y.k.lc, .slice y.k.fa y.k.fl y.k.fc, .int .i64 y.n, .int .i64 y.t, .slice y.ia y.il y.ic, .slice y.va y.vl y.vc]] w' (PutPost2 w' ⟨0, 0, LB⟩ dy)) := hid fun w' h => by
        have hB := HVBA.out.trans (h.mono HVBA.out.size)
        have h2 := HU4.out _ (HUZ.out.trans (hB.mono (by have := HSZ4.out; omega)))
        exact putF2_call cb ⟨0, 0, LB⟩ y dy w' HSB.out (HIB.out.same fun b q => ⟨Nat.lt_of_lt_of_le q.2 hB.size, hB.block b q.2⟩) (HYI.out.same fun b q => ⟨Nat.lt_of_lt_of_le q h2.size, h2.block b q⟩) HNB.out HLBL.out
      refine wp_region_held_drew (S := (fun w' => Below VA.heap.size VA w')) (by kernel_rfl) ((Below.refl _ _).drew) (fun hS => ?_)
      refine wpAnyH_take (i := 0) (oi := _) (v := ?_) rfl (by kernel_rfl) (by kernel_rfl) (by kernel_rfl) (fun _ _ _ h => h) (Or.inl ⟨by rfl, ?_⟩) hS ?_
      rotate_left
      · intro w' hw'
        have hcells := HC16.out w' hw'
        go_simp
        (try with_reducible rfl)
      simp only [Act.put, List.getElem_toArray, List.getElem_cons_succ, List.getElem_cons_zero, List.setIfInBounds_toArray, List.set_cons_zero, List.set_cons_succ]
      refine wpAnyH_take (i := 1) (oi := _) (v := ?_) rfl (by kernel_rfl) (by kernel_rfl) (by kernel_rfl) (fun _ _ _ h => h) (Or.inl ⟨by rfl, ?_⟩) hS ?_
      rotate_left
      · intro w' hw'
        have hcells := HC16.out w' hw'
        go_simp
        (try with_reducible rfl)
      simp only [Act.put, List.getElem_toArray, List.getElem_cons_succ, List.getElem_cons_zero, List.setIfInBounds_toArray, List.set_cons_zero, List.set_cons_succ]
      refine wpAnyH_take (i := 2) (oi := _) (v := ?_) rfl (by kernel_rfl) (by kernel_rfl) (by kernel_rfl) (fun _ _ _ h => h) (Or.inl ⟨by rfl, ?_⟩) hS ?_
      rotate_left
      · intro w' hw'
        have hcells := HC16.out w' hw'
        go_simp
        (try with_reducible rfl)
      simp only [Act.put, List.getElem_toArray, List.getElem_cons_succ, List.getElem_cons_zero, List.setIfInBounds_toArray, List.set_cons_zero, List.set_cons_succ]
      refine wpAnyH_take (i := 3) (oi := _) (v := ?_) rfl (by kernel_rfl) (by kernel_rfl) (by kernel_rfl) (fun _ _ _ h => h) (Or.inl ⟨by rfl, ?_⟩) hS ?_
      rotate_left
      · intro w' hw'
        have hcells := HC16.out w' hw'
        go_simp
        (try with_reducible rfl)
      simp only [Act.put, List.getElem_toArray, List.getElem_cons_succ, List.getElem_cons_zero, List.setIfInBounds_toArray, List.set_cons_zero, List.set_cons_succ]
      refine wpAnyH_take (i := 4) (oi := _) (v := ?_) rfl (by kernel_rfl) (by kernel_rfl) (by kernel_rfl) (fun _ _ _ h => h) (Or.inl ⟨by rfl, ?_⟩) hS ?_
      rotate_left
      · intro w' hw'
        have hcells := HC16.out w' hw'
        go_simp
        (try with_reducible rfl)
      simp only [Act.put, List.getElem_toArray, List.getElem_cons_succ, List.getElem_cons_zero, List.setIfInBounds_toArray, List.set_cons_zero, List.set_cons_succ]
      refine wpAnyH_take (i := 5) (oi := _) (v := ?_) rfl (by kernel_rfl) (by kernel_rfl) (by kernel_rfl) (fun _ _ _ h => h) (Or.inl ⟨by rfl, ?_⟩) hS ?_
      rotate_left
      · intro w' hw'
        have hcells := HC16.out w' hw'
        go_simp
        (try with_reducible rfl)
      simp only [Act.put, List.getElem_toArray, List.getElem_cons_succ, List.getElem_cons_zero, List.setIfInBounds_toArray, List.set_cons_zero, List.set_cons_succ]
      refine wpAnyH_take (i := 6) (oi := _) (v := ?_) rfl (by kernel_rfl) (by kernel_rfl) (by kernel_rfl) (fun _ _ _ h => h) (Or.inl ⟨by rfl, ?_⟩) hS ?_
      rotate_left
      · intro w' hw'
        have hcells := HC16.out w' hw'
        go_simp
        (try with_reducible rfl)
      simp only [Act.put, List.getElem_toArray, List.getElem_cons_succ, List.getElem_cons_zero, List.setIfInBounds_toArray, List.set_cons_zero, List.set_cons_succ]
      refine wpAnyH_take (i := 7) (oi := _) (v := ?_) rfl (by kernel_rfl) (by kernel_rfl) (by kernel_rfl) (fun _ _ _ h => h) (Or.inl ⟨by rfl, ?_⟩) hS ?_
      rotate_left
      · intro w' hw'
        have hcells := HC16.out w' hw'
        go_simp
        (try with_reducible rfl)
      simp only [Act.put, List.getElem_toArray, List.getElem_cons_succ, List.getElem_cons_zero, List.setIfInBounds_toArray, List.set_cons_zero, List.set_cons_succ]
      refine wpAnyH_take (i := 8) (oi := _) (v := ?_) rfl (by kernel_rfl) (by kernel_rfl) (by kernel_rfl) (fun _ _ _ h => h) (Or.inl ⟨by rfl, ?_⟩) hS ?_
      rotate_left
      · intro w' hw'
        have hcells := HC16.out w' hw'
        go_simp
        (try with_reducible rfl)
      simp only [Act.put, List.getElem_toArray, List.getElem_cons_succ, List.getElem_cons_zero, List.setIfInBounds_toArray, List.set_cons_zero, List.set_cons_succ]
      refine wpAnyH_ready (rs := [9, 13]) (by kernel_rfl) (by simp) ?_
      refine AllReadyH.cons (o := _) rfl (fun K hK => ?_) ?_
      · go_simp; go_at_call 51; refine (HPB.out _ hS).mono ?_
        rintro e w7 ⟨c10, rfl, hbw7, hiw7⟩
        have HIw7 := hid hiw7
        have HBw7 := hid hbw7
        clear hiw7
        refine hK.out _ _ (hS.trans (hbw7.mono hS.size)) (fun hS => ?_)
        clear hK K
        (try simp only [Act.put, List.getElem_toArray, List.getElem_cons_succ, List.getElem_cons_zero, List.setIfInBounds_toArray, List.set_cons_zero, List.set_cons_succ])
        refine wpAnyH_take (i := 10) (oi := _) (v := ?_) rfl (by kernel_rfl) (by kernel_rfl) (by kernel_rfl) (fun _ _ _ h => h) (Or.inl ⟨by rfl, ?_⟩) hS ?_
        rotate_left
        · intro w' hw'
          have hcells := HC16.out w' hw'
          go_simp
          (try with_reducible rfl)
        simp only [Act.put, List.getElem_toArray, List.getElem_cons_succ, List.getElem_cons_zero, List.setIfInBounds_toArray, List.set_cons_zero, List.set_cons_succ]
        refine wpAnyH_take (i := 11) (oi := _) (v := ?_) rfl (by kernel_rfl) (by kernel_rfl) (by kernel_rfl) (fun _ _ _ h => h) (Or.inl ⟨by rfl, ?_⟩) hS ?_
        rotate_left
        · intro w' hw'
          have hcells := HC16.out w' hw'
          go_simp
          (try with_reducible rfl)
        simp only [Act.put, List.getElem_toArray, List.getElem_cons_succ, List.getElem_cons_zero, List.setIfInBounds_toArray, List.set_cons_zero, List.set_cons_succ]
        refine wpAnyH_take (i := 12) (oi := _) (v := ?_) rfl (by kernel_rfl) (by kernel_rfl) (by kernel_rfl) (fun _ _ _ h => h) (Or.inl ⟨by rfl, ?_⟩) hS ?_
        rotate_left
        · intro w' hw'
          have hcells := HC16.out w' hw'
          go_simp
          (try with_reducible rfl)
        simp only [Act.put, List.getElem_toArray, List.getElem_cons_succ, List.getElem_cons_zero, List.setIfInBounds_toArray, List.set_cons_zero, List.set_cons_succ]
        refine wpAnyH_ready (rs := [13]) (by kernel_rfl) (by simp) ?_
        refine AllReadyH.cons (o := _) rfl (fun K hK => ?_) AllReadyH.nil
        go_simp
        obtain ⟨wr2, hwr2⟩ : ∃ u, u = w7.alloc (.cells #[.int .i64 0, .int .i64 0, .slice none 0 0] 55) := ⟨_, rfl⟩
        rw [← hwr2]
        have HAwr2 := hid (show Below w7.heap.size w7 wr2 by rw [hwr2]; exact (Below.refl _ _).alloc (Nat.le_refl _) _)
        have HNn10 := hid (show wr2.heap[w7.heap.size]? = some (.cells #[.int .i64 0, .int .i64 0, .slice none 0 0] 55) by rw [hwr2]; exact heap_alloc_new w7 _)
        have hkwr2 := hS.trans (HAwr2.out.mono hS.size)
        clear hwr2
        refine hK.out _ _ (hkwr2) (fun hS => ?_)
        clear hK K
        (try simp only [Act.put, List.getElem_toArray, List.getElem_cons_succ, List.getElem_cons_zero, List.setIfInBounds_toArray, List.set_cons_zero, List.set_cons_succ])
        refine wpAnyH_ready (rs := [14]) (by kernel_rfl) (by simp) ?_
        refine AllReadyH.cons (o := _) rfl (fun K hK => ?_) AllReadyH.nil
        have hgen10 : VA.heap.size ≤ w7.heap.size := belowSize HBw7.out (by first | exact Nat.le_refl _ | (dsimp only [World.drew]; exact Nat.le_refl _))
        have q0 := cellOf HNn10.out 0; have q1 := cellOf HNn10.out 1; have q2 := cellOf HNn10.out 2; have qf0 := freeOf HNn10.out 0; have qf1 := freeOf HNn10.out 1; have qf2 := freeOf HNn10.out 2
        (try dsimp only at q0 q1 q2)
        have HSBB := hid hS
        go_simp
        obtain ⟨VB, hVB⟩ : ∃ u, u = ((wr2.setCell ⟨w7.heap.size, 0, none⟩ (.int .i64 c10.n)).setCell ⟨w7.heap.size, 1, none⟩ (.int .i64 c10.t)).setCell ⟨w7.heap.size, 2, none⟩ (.slice c10.a c10.l c10.c) := ⟨_, rfl⟩
        rw [← hVB]
        clear q0 q1 q2 qf0 qf1 qf2
        have hkVB : Below VA.heap.size VA VB := by rw [hVB]; exact ((hS.setCell (p := ⟨w7.heap.size, 0, none⟩) hgen10 _).setCell (p := ⟨w7.heap.size, 1, none⟩) hgen10 _).setCell (p := ⟨w7.heap.size, 2, none⟩) hgen10 _
        have HEVB := hid hVB
        clear hVB
        refine hK.out _ _ (hkVB) (fun hS => ?_)
        clear hK K
        (try simp only [Act.put, List.getElem_toArray, List.getElem_cons_succ, List.getElem_cons_zero, List.setIfInBounds_toArray, List.set_cons_zero, List.set_cons_succ])
        refine wpAnyH_take (i := 15) (oi := _) (v := ?_) rfl (by kernel_rfl) (by kernel_rfl) (by kernel_rfl) (fun _ _ _ h => h) (Or.inl ⟨by rfl, ?_⟩) hS ?_
        rotate_left
        · intro w' hw'
          have hcells := HC16.out w' hw'
          go_simp
          (try with_reducible rfl)
        simp only [Act.put, List.getElem_toArray, List.getElem_cons_succ, List.getElem_cons_zero, List.setIfInBounds_toArray, List.set_cons_zero, List.set_cons_succ]
        refine wpAnyH_done (by kernel_rfl) ?_ _
        (try dsimp only)
        clear hS
        obtain ⟨n10, hn10⟩ : ∃ u, u = w7.heap.size := ⟨_, rfl⟩
        have HSTB := hid (show IsSta (fun b => VA.heap.size ≤ b ∧ b < wr2.heap.size ∧ b ≠ n10) wr2 c10 ⟨0, 0, putL LB dy⟩ by
          rw [hn10]
          exact HIw7.out.same fun b q => ⟨by have := HAwr2.out.size; have hq : VA.heap.size ≤ b := q.1; omega, HAwr2.out.block b q.2⟩)
        have HNB := hid (show wr2.heap[n10]? = some (.cells #[.int .i64 0, .int .i64 0, .slice none 0 0] 55) by rw [hn10]; exact HNn10.out)
        have HGB := hid (show VA.heap.size ≤ n10 by rw [hn10]; exact hgen10)
        have hV := HEVB.out
        rw [← hn10] at hV
        (try rw [← hn10])
        clear hn10
        obtain ⟨g9, hI9, hB9⟩ := setThree (v0 := .int .i64 c10.n) (v1 := .int .i64 c10.t) (v2 := .slice c10.a c10.l c10.c) HNB.out HSTB.out
        have hB9' := hB9 VA.heap.size VA HSBB.out HGB.out
        have hs9 : VB.heap.size = wr2.heap.size := by rw [hV]; simp [World.setCell]
        have hI9' : IsSta (fun b => VA.heap.size ≤ b ∧ b < wr2.heap.size ∧ b ≠ n10) VB c10 ⟨0, 0, putL LB dy⟩ := by
          rw [hV]
          exact HSTB.out.same fun b q => ⟨q, (Below.heap_setCell _ _ _ _ q.2.2).trans ((Below.heap_setCell _ _ _ _ q.2.2).trans (Below.heap_setCell _ _ _ _ q.2.2))⟩
        rw [← hV] at g9 hB9'
        have HV8B := hid g9
        have HVIB := hid (show IsSta (fun b => VA.heap.size ≤ b ∧ b < VB.heap.size ∧ b ≠ n10) VB c10 ⟨0, 0, putL LB dy⟩ from hI9'.same fun b q => ⟨by omega, rfl⟩)
        have HVBB := hid hB9'
        have HVGB := hid (show n10 < VB.heap.size from ltOf g9)
        clear hV g9 hI9 hI9' hB9 hB9' hs9 hbw7 HEVB
        have HZZ := hid (show wz.heap.size ≤ VA.heap.size from HVBA.out.size)
        have H84 := hid (show w4.heap.size + 2 ≤ n8 ∧ n8 < VA.heap.size ∧ VA.heap.size ≤ n10 ∧ n10 < VB.heap.size from ⟨by have := HGA.out; have := HSZ4.out; omega, HVGA.out, HGB.out, HVGB.out⟩)
        have HC19 := hid (show VB.heap[n8]? = some (.cells #[.int .i64 c8.n, .int .i64 c8.t, .slice c8.a c8.l c8.c] 55) ∧ VB.heap[n10]? = some (.cells #[.int .i64 c10.n, .int .i64 c10.t, .slice c10.a c10.l c10.c] 55) ∧ (∃ ka : StC, VB.heap[w4.heap.size]? = some (.cells #[.int .i64 ka.n, .int .i64 ka.t, .slice ka.a ka.l ka.c] 55)) ∧ (∃ kb : StC, VB.heap[w4.heap.size + 1]? = some (.cells #[.int .i64 kb.n, .int .i64 kb.t, .slice kb.a kb.l kb.c] 55)) ∧ Below w4.heap.size w4 VB from by
          have hz4 := HSZ4.out
          have hzz := HZZ.out
          have h8 := H84.out
          have hB := HVBA.out.trans (HVBB.out.mono HVBA.out.size)
          exact ⟨(HVBB.out.block _ h8.2.1).trans HV8A.out, HV8B.out, ⟨ca, (hB.block _ (by omega)).trans HAA.out⟩, ⟨cb, (hB.block _ (by omega)).trans HBB.out⟩, HUZ.out.trans (hB.mono (by omega))⟩)
        have HC19L : Hid (∀ w', (w'.heap[n8]? = some (.cells #[.int .i64 c8.n, .int .i64 c8.t, .slice c8.a c8.l c8.c] 55) ∧ w'.heap[n10]? = some (.cells #[.int .i64 c10.n, .int .i64 c10.t, .slice c10.a c10.l c10.c] 55) ∧ (∃ ka : StC, w'.heap[w4.heap.size]? = some (.cells #[.int .i64 ka.n, .int .i64 ka.t, .slice ka.a ka.l ka.c] 55)) ∧ (∃ kb : StC, w'.heap[w4.heap.size + 1]? = some (.cells #[.int .i64 kb.n, .int .i64 kb.t, .slice kb.a kb.l kb.c] 55)) ∧ Below w4.heap.size w4 w' ∧ VB.heap.size ≤ w'.heap.size ∧ ∀ b, b < VB.heap.size → b ≠ w4.heap.size → b ≠ w4.heap.size + 1 → w'.heap[b]? = VB.heap[b]?) → (w'.cell? ⟨n8, 0, none⟩ = some (.int .i64 c8.n) ∧ w'.cell? ⟨n8, 1, none⟩ = some (.int .i64 c8.t) ∧ w'.cell? ⟨n8, 2, none⟩ = some (.slice c8.a c8.l c8.c)) ∧ (w'.cell? ⟨n10, 0, none⟩ = some (.int .i64 c10.n) ∧ w'.cell? ⟨n10, 1, none⟩ = some (.int .i64 c10.t) ∧ w'.cell? ⟨n10, 2, none⟩ = some (.slice c10.a c10.l c10.c))) := hid fun w' h => ⟨⟨cellOf h.1 0, cellOf h.1 1, cellOf h.1 2⟩, ⟨cellOf h.2.1 0, cellOf h.2.1 1, cellOf h.2.1 2⟩⟩
        go_upto_region 19 with (fail)
        refine wp_region_held_drew (S := (fun w' => w'.heap[n8]? = some (.cells #[.int .i64 c8.n, .int .i64 c8.t, .slice c8.a c8.l c8.c] 55) ∧ w'.heap[n10]? = some (.cells #[.int .i64 c10.n, .int .i64 c10.t, .slice c10.a c10.l c10.c] 55) ∧ (∃ ka : StC, w'.heap[w4.heap.size]? = some (.cells #[.int .i64 ka.n, .int .i64 ka.t, .slice ka.a ka.l ka.c] 55)) ∧ (∃ kb : StC, w'.heap[w4.heap.size + 1]? = some (.cells #[.int .i64 kb.n, .int .i64 kb.t, .slice kb.a kb.l kb.c] 55)) ∧ Below w4.heap.size w4 w' ∧ VB.heap.size ≤ w'.heap.size ∧ ∀ b, b < VB.heap.size → b ≠ w4.heap.size → b ≠ w4.heap.size + 1 → w'.heap[b]? = VB.heap[b]?)) (by kernel_rfl) (⟨HC19.out.1, HC19.out.2.1, HC19.out.2.2.1, HC19.out.2.2.2.1, HC19.out.2.2.2.2.drew, Nat.le_refl _, fun b _ _ _ => rfl⟩) (fun hS => ?_)
        refine wpAnyH_take (i := 0) (oi := _) (v := ?_) rfl (by kernel_rfl) (by kernel_rfl) (by kernel_rfl) (fun _ _ _ h => h) (Or.inl ⟨by rfl, ?_⟩) hS ?_
        rotate_left
        · intro w' hw'
          have hcells := HC19L.out w' hw'
          go_simp
          (try with_reducible rfl)
        simp only [Act.put, List.getElem_toArray, List.getElem_cons_succ, List.getElem_cons_zero, List.setIfInBounds_toArray, List.set_cons_zero, List.set_cons_succ]
        refine wpAnyH_take (i := 1) (oi := _) (v := ?_) rfl (by kernel_rfl) (by kernel_rfl) (by kernel_rfl) (fun _ _ _ h => h) (Or.inl ⟨by rfl, ?_⟩) hS ?_
        rotate_left
        · intro w' hw'
          have hcells := HC19L.out w' hw'
          go_simp
          (try with_reducible rfl)
        simp only [Act.put, List.getElem_toArray, List.getElem_cons_succ, List.getElem_cons_zero, List.setIfInBounds_toArray, List.set_cons_zero, List.set_cons_succ]
        refine wpAnyH_ready (rs := [2]) (by kernel_rfl) (by simp) ?_
        refine AllReadyH.cons (o := _) rfl (fun K hK => ?_) AllReadyH.nil
        obtain ⟨s1, s2, ⟨ka, s3⟩, ⟨kb, s4⟩, s5, s6, s7⟩ := id hS
        have z0 := cellOf (w := VB) s3 0; have zf0 := freeOf (w := VB) s3 0; have z1 := cellOf (w := VB) s3 1; have zf1 := freeOf (w := VB) s3 1; have z2 := cellOf (w := VB) s3 2; have zf2 := freeOf (w := VB) s3 2
        (try dsimp only at z0 z1 z2)
        have S1 := hid s1
        have S2 := hid s2
        have S3 := hid s3
        have S4 := hid s4
        have S5 := hid s5
        have S6 := hid s6
        have S7 := hid s7
        clear s1 s2 s3 s4 s5 s6 s7
        go_simp
        obtain ⟨x1, hx1⟩ : ∃ u, u = (((VB.setCell ⟨w4.heap.size, 0, none⟩ (.int .i64 c8.n)).setCell ⟨w4.heap.size, 1, none⟩ (.int .i64 c8.t)).setCell ⟨w4.heap.size, 2, none⟩ (.slice c8.a c8.l c8.c)).drew := ⟨_, rfl⟩
        rw [← hx1]
        clear z0 z1 z2 zf0 zf1 zf2
        have oo : ∀ b, b ≠ w4.heap.size → x1.heap[b]? = VB.drew.heap[b]? := fun b hb => by rw [hx1]; exact (Below.heap_setCell _ _ _ _ hb).trans ((Below.heap_setCell _ _ _ _ hb).trans (Below.heap_setCell _ _ _ _ hb))
        have og := heapSet (o := 2) (.slice c8.a c8.l c8.c) (heapSet (o := 1) (.int .i64 c8.t) (heapSet (o := 0) (.int .i64 c8.n) S3.out))
        simp only [List.setIfInBounds_toArray, List.set_cons_zero, List.set_cons_succ] at og
        replace og : x1.heap[w4.heap.size]? = some (.cells #[.int .i64 c8.n, .int .i64 c8.t, .slice c8.a c8.l c8.c] 55) := by rw [hx1]; exact og
        have hn8 := H84.out
        have hns := HSZ4.out
        have ob : Below w4.heap.size w4 x1 := by rw [hx1]; exact ((S5.out.setCell (p := ⟨w4.heap.size, 0, none⟩) (by dsimp only; omega) _).setCell (p := ⟨w4.heap.size, 1, none⟩) (by dsimp only; omega) _).setCell (p := ⟨w4.heap.size, 2, none⟩) (by dsimp only; omega) _
        have os : x1.heap.size = VB.drew.heap.size := by rw [hx1]; simp [World.setCell]
        have HKx1 := hid (show  x1.heap[n8]? = some (.cells #[.int .i64 c8.n, .int .i64 c8.t, .slice c8.a c8.l c8.c] 55) ∧ x1.heap[n10]? = some (.cells #[.int .i64 c10.n, .int .i64 c10.t, .slice c10.a c10.l c10.c] 55) ∧ (∃ ka : StC, x1.heap[w4.heap.size]? = some (.cells #[.int .i64 ka.n, .int .i64 ka.t, .slice ka.a ka.l ka.c] 55)) ∧ (∃ kb : StC, x1.heap[w4.heap.size + 1]? = some (.cells #[.int .i64 kb.n, .int .i64 kb.t, .slice kb.a kb.l kb.c] 55)) ∧ Below w4.heap.size w4 x1 ∧ VB.heap.size ≤ x1.heap.size ∧ ∀ b, b < VB.heap.size → b ≠ w4.heap.size → b ≠ w4.heap.size + 1 → x1.heap[b]? = VB.heap[b]? from ⟨(oo _ (by omega)).trans S1.out, (oo _ (by omega)).trans S2.out, ⟨c8, og⟩, ⟨kb, (oo _ (by omega)).trans S4.out⟩, ob, by rw [os]; exact S6.out, fun b h1 h2 h3 => (oo b (by omega)).trans (S7.out b h1 h2 h3)⟩)
        have HOx1 := hid og
        skip
        clear S1 S2 S3 S4 S5 S6 S7 oo og ob os hx1 hn8 hns
        refine hK.out _ _ (HKx1.out) (fun hS => ?_)
        clear hK K
        (try simp only [Act.put, List.getElem_toArray, List.getElem_cons_succ, List.getElem_cons_zero, List.setIfInBounds_toArray, List.set_cons_zero, List.set_cons_succ])
        refine wpAnyH_ready (rs := [3]) (by kernel_rfl) (by simp) ?_
        refine AllReadyH.cons (o := _) rfl (fun K hK => ?_) AllReadyH.nil
        obtain ⟨s1, s2, ⟨ka, s3⟩, ⟨kb, s4⟩, s5, s6, s7⟩ := id hS
        have z0 := cellOf (w := x1) s4 0; have zf0 := freeOf (w := x1) s4 0; have z1 := cellOf (w := x1) s4 1; have zf1 := freeOf (w := x1) s4 1; have z2 := cellOf (w := x1) s4 2; have zf2 := freeOf (w := x1) s4 2
        (try dsimp only at z0 z1 z2)
        have S1 := hid s1
        have S2 := hid s2
        have S3 := hid s3
        have S4 := hid s4
        have S5 := hid s5
        have S6 := hid s6
        have S7 := hid s7
        clear s1 s2 s3 s4 s5 s6 s7
        go_simp
        obtain ⟨x2, hx2⟩ : ∃ u, u = ((x1.setCell ⟨w4.heap.size + 1, 0, none⟩ (.int .i64 c10.n)).setCell ⟨w4.heap.size + 1, 1, none⟩ (.int .i64 c10.t)).setCell ⟨w4.heap.size + 1, 2, none⟩ (.slice c10.a c10.l c10.c) := ⟨_, rfl⟩
        rw [← hx2]
        clear z0 z1 z2 zf0 zf1 zf2
        have oo : ∀ b, b ≠ w4.heap.size + 1 → x2.heap[b]? = x1.heap[b]? := fun b hb => by rw [hx2]; exact (Below.heap_setCell _ _ _ _ hb).trans ((Below.heap_setCell _ _ _ _ hb).trans (Below.heap_setCell _ _ _ _ hb))
        have og := heapSet (o := 2) (.slice c10.a c10.l c10.c) (heapSet (o := 1) (.int .i64 c10.t) (heapSet (o := 0) (.int .i64 c10.n) S4.out))
        simp only [List.setIfInBounds_toArray, List.set_cons_zero, List.set_cons_succ] at og
        replace og : x2.heap[w4.heap.size + 1]? = some (.cells #[.int .i64 c10.n, .int .i64 c10.t, .slice c10.a c10.l c10.c] 55) := by rw [hx2]; exact og
        have hn8 := H84.out
        have hns := HSZ4.out
        have ob : Below w4.heap.size w4 x2 := by rw [hx2]; exact ((S5.out.setCell (p := ⟨w4.heap.size + 1, 0, none⟩) (by dsimp only; omega) _).setCell (p := ⟨w4.heap.size + 1, 1, none⟩) (by dsimp only; omega) _).setCell (p := ⟨w4.heap.size + 1, 2, none⟩) (by dsimp only; omega) _
        have os : x2.heap.size = x1.heap.size := by rw [hx2]; simp [World.setCell]
        have HKx2 := hid (show  x2.heap[n8]? = some (.cells #[.int .i64 c8.n, .int .i64 c8.t, .slice c8.a c8.l c8.c] 55) ∧ x2.heap[n10]? = some (.cells #[.int .i64 c10.n, .int .i64 c10.t, .slice c10.a c10.l c10.c] 55) ∧ (∃ ka : StC, x2.heap[w4.heap.size]? = some (.cells #[.int .i64 ka.n, .int .i64 ka.t, .slice ka.a ka.l ka.c] 55)) ∧ (∃ kb : StC, x2.heap[w4.heap.size + 1]? = some (.cells #[.int .i64 kb.n, .int .i64 kb.t, .slice kb.a kb.l kb.c] 55)) ∧ Below w4.heap.size w4 x2 ∧ VB.heap.size ≤ x2.heap.size ∧ ∀ b, b < VB.heap.size → b ≠ w4.heap.size → b ≠ w4.heap.size + 1 → x2.heap[b]? = VB.heap[b]? from ⟨(oo _ (by omega)).trans S1.out, (oo _ (by omega)).trans S2.out, ⟨ka, (oo _ (by omega)).trans S3.out⟩, ⟨c10, og⟩, ob, by rw [os]; exact S6.out, fun b h1 h2 h3 => (oo b (by omega)).trans (S7.out b h1 h2 h3)⟩)
        have HOx2 := hid og
        have HPx2 := hid (show x2.heap[w4.heap.size]? = some (.cells #[.int .i64 c8.n, .int .i64 c8.t, .slice c8.a c8.l c8.c] 55) from (oo _ (by omega)).trans HOx1.out)
        clear S1 S2 S3 S4 S5 S6 S7 oo og ob os hx2 hn8 hns
        refine hK.out _ _ (HKx2.out) (fun hS => ?_)
        clear hK K
        (try simp only [Act.put, List.getElem_toArray, List.getElem_cons_succ, List.getElem_cons_zero, List.setIfInBounds_toArray, List.set_cons_zero, List.set_cons_succ])
        refine wpAnyH_done (by kernel_rfl) ?_ _
        (try dsimp only)
        clear hS
        go_wp2
        go_roundw
        case rel =>
          obtain ⟨t1, t2, _, _, t5, t6, t7⟩ := HKx2.out
          have hz4 := HSZ4.out
          have h8 := H84.out
          have hzz := HZZ.out
          have hb7 := HVBB.out.size
          refine ⟨i + 1, c8, c10, by omega, by go_num, t5, HPx2.out, HOx2.out, ?_, ?_⟩
          · rw [foldl_take_succ HIL.out, ← HLA.out, ← HDX.out HIL.out]
            exact HVIA.out.same fun b q => ⟨⟨by omega, by omega⟩, (t7 b (by omega) (by omega) (by omega)).trans (HVBB.out.block b q.2.1)⟩
          · rw [foldl_take_succ (l := l.reverse) (by rw [List.length_reverse]; exact HIL.out), ← HLB.out, ← HDY.out (by rw [List.length_reverse]; exact HIL.out)]
            exact HVIB.out.same fun b q => ⟨⟨by omega, by omega⟩, t7 b (by omega) (by omega) (by omega)⟩
        case measure => simp [intOf]; omega
      refine AllReadyH.cons (o := _) rfl (fun K hK => ?_) AllReadyH.nil
      go_simp
      obtain ⟨wr2, hwr2⟩ : ∃ u, u = (VA.alloc (.cells #[.int .i64 0, .int .i64 0, .slice none 0 0] 55)).drew := ⟨_, rfl⟩
      rw [← hwr2]
      have HAwr2 := hid (show Below VA.heap.size VA wr2 by rw [hwr2]; exact ((Below.refl _ _).alloc (Nat.le_refl _) _).drew)
      have HMn10 := hid (show wr2.heap[VA.heap.size]? = some (.cells #[.int .i64 0, .int .i64 0, .slice none 0 0] 55) by rw [hwr2]; exact heap_alloc_new VA _)
      have HZwr2 := hid (show wr2.heap.size = VA.heap.size + 1 by rw [hwr2]; simp)
      clear hwr2
      refine hK.out _ _ (HAwr2.out) (fun hS => ?_)
      clear hK K
      (try simp only [Act.put, List.getElem_toArray, List.getElem_cons_succ, List.getElem_cons_zero, List.setIfInBounds_toArray, List.set_cons_zero, List.set_cons_succ])
      refine wpAnyH_ready (rs := [9]) (by kernel_rfl) (by simp) ?_
      refine AllReadyH.cons (o := _) rfl (fun K hK => ?_) AllReadyH.nil
      go_simp; go_at_call 51; refine (HPB.out _ hS).mono ?_
      rintro e w7 ⟨c10, rfl, hbw7, hiw7⟩
      have HIw7 := hid hiw7
      have HBw7 := hid hbw7
      clear hiw7
      have HNn10 := hid (heapExt HBw7.out HMn10.out)
      refine hK.out _ _ (hS.trans (hbw7.mono hS.size)) (fun hS => ?_)
      clear hK K
      (try simp only [Act.put, List.getElem_toArray, List.getElem_cons_succ, List.getElem_cons_zero, List.setIfInBounds_toArray, List.set_cons_zero, List.set_cons_succ])
      refine wpAnyH_take (i := 10) (oi := _) (v := ?_) rfl (by kernel_rfl) (by kernel_rfl) (by kernel_rfl) (fun _ _ _ h => h) (Or.inl ⟨by rfl, ?_⟩) hS ?_
      rotate_left
      · intro w' hw'
        have hcells := HC16.out w' hw'
        go_simp
        (try with_reducible rfl)
      simp only [Act.put, List.getElem_toArray, List.getElem_cons_succ, List.getElem_cons_zero, List.setIfInBounds_toArray, List.set_cons_zero, List.set_cons_succ]
      refine wpAnyH_take (i := 11) (oi := _) (v := ?_) rfl (by kernel_rfl) (by kernel_rfl) (by kernel_rfl) (fun _ _ _ h => h) (Or.inl ⟨by rfl, ?_⟩) hS ?_
      rotate_left
      · intro w' hw'
        have hcells := HC16.out w' hw'
        go_simp
        (try with_reducible rfl)
      simp only [Act.put, List.getElem_toArray, List.getElem_cons_succ, List.getElem_cons_zero, List.setIfInBounds_toArray, List.set_cons_zero, List.set_cons_succ]
      refine wpAnyH_take (i := 12) (oi := _) (v := ?_) rfl (by kernel_rfl) (by kernel_rfl) (by kernel_rfl) (fun _ _ _ h => h) (Or.inl ⟨by rfl, ?_⟩) hS ?_
      rotate_left
      · intro w' hw'
        have hcells := HC16.out w' hw'
        go_simp
        (try with_reducible rfl)
      simp only [Act.put, List.getElem_toArray, List.getElem_cons_succ, List.getElem_cons_zero, List.setIfInBounds_toArray, List.set_cons_zero, List.set_cons_succ]
      refine wpAnyH_ready (rs := [14]) (by kernel_rfl) (by simp) ?_
      refine AllReadyH.cons (o := _) rfl (fun K hK => ?_) AllReadyH.nil
      have q0 := cellOf HNn10.out 0; have q1 := cellOf HNn10.out 1; have q2 := cellOf HNn10.out 2; have qf0 := freeOf HNn10.out 0; have qf1 := freeOf HNn10.out 1; have qf2 := freeOf HNn10.out 2
      (try dsimp only at q0 q1 q2)
      have HSBB := hid hS
      go_simp
      obtain ⟨VB, hVB⟩ : ∃ u, u = ((w7.setCell ⟨VA.heap.size, 0, none⟩ (.int .i64 c10.n)).setCell ⟨VA.heap.size, 1, none⟩ (.int .i64 c10.t)).setCell ⟨VA.heap.size, 2, none⟩ (.slice c10.a c10.l c10.c) := ⟨_, rfl⟩
      rw [← hVB]
      clear q0 q1 q2 qf0 qf1 qf2
      have hkVB : Below VA.heap.size VA VB := by rw [hVB]; exact ((hS.setCell (p := ⟨VA.heap.size, 0, none⟩) (Nat.le_refl _) _).setCell (p := ⟨VA.heap.size, 1, none⟩) (Nat.le_refl _) _).setCell (p := ⟨VA.heap.size, 2, none⟩) (Nat.le_refl _) _
      have HEVB := hid hVB
      clear hVB
      refine hK.out _ _ (hkVB) (fun hS => ?_)
      clear hK K
      (try simp only [Act.put, List.getElem_toArray, List.getElem_cons_succ, List.getElem_cons_zero, List.setIfInBounds_toArray, List.set_cons_zero, List.set_cons_succ])
      refine wpAnyH_take (i := 15) (oi := _) (v := ?_) rfl (by kernel_rfl) (by kernel_rfl) (by kernel_rfl) (fun _ _ _ h => h) (Or.inl ⟨by rfl, ?_⟩) hS ?_
      rotate_left
      · intro w' hw'
        have hcells := HC16.out w' hw'
        go_simp
        (try with_reducible rfl)
      simp only [Act.put, List.getElem_toArray, List.getElem_cons_succ, List.getElem_cons_zero, List.setIfInBounds_toArray, List.set_cons_zero, List.set_cons_succ]
      refine wpAnyH_done (by kernel_rfl) ?_ _
      (try dsimp only)
      clear hS
      obtain ⟨n10, hn10⟩ : ∃ u, u = VA.heap.size := ⟨_, rfl⟩
      have HSTB := hid (show IsSta (fun b => VA.heap.size ≤ b ∧ b < w7.heap.size ∧ b ≠ n10) w7 c10 ⟨0, 0, putL LB dy⟩ by
        rw [hn10]
        exact HIw7.out.same fun b q => ⟨by have := HAwr2.out.size; have := HZwr2.out; omega, rfl⟩)
      have HNB := hid (show w7.heap[n10]? = some (.cells #[.int .i64 0, .int .i64 0, .slice none 0 0] 55) by rw [hn10]; exact HNn10.out)
      have HGB := hid (show VA.heap.size ≤ n10 by rw [hn10]; exact Nat.le_refl _)
      have hV := HEVB.out
      rw [← hn10] at hV
      (try rw [← hn10])
      clear hn10
      obtain ⟨g9, hI9, hB9⟩ := setThree (v0 := .int .i64 c10.n) (v1 := .int .i64 c10.t) (v2 := .slice c10.a c10.l c10.c) HNB.out HSTB.out
      have hB9' := hB9 VA.heap.size VA HSBB.out HGB.out
      have hs9 : VB.heap.size = w7.heap.size := by rw [hV]; simp [World.setCell]
      have hI9' : IsSta (fun b => VA.heap.size ≤ b ∧ b < w7.heap.size ∧ b ≠ n10) VB c10 ⟨0, 0, putL LB dy⟩ := by
        rw [hV]
        exact HSTB.out.same fun b q => ⟨q, (Below.heap_setCell _ _ _ _ q.2.2).trans ((Below.heap_setCell _ _ _ _ q.2.2).trans (Below.heap_setCell _ _ _ _ q.2.2))⟩
      rw [← hV] at g9 hB9'
      have HV8B := hid g9
      have HVIB := hid (show IsSta (fun b => VA.heap.size ≤ b ∧ b < VB.heap.size ∧ b ≠ n10) VB c10 ⟨0, 0, putL LB dy⟩ from hI9'.same fun b q => ⟨by omega, rfl⟩)
      have HVBB := hid hB9'
      have HVGB := hid (show n10 < VB.heap.size from ltOf g9)
      clear hV g9 hI9 hI9' hB9 hB9' hs9 hbw7 HEVB
      have HZZ := hid (show wz.heap.size ≤ VA.heap.size from HVBA.out.size)
      have H84 := hid (show w4.heap.size + 2 ≤ n8 ∧ n8 < VA.heap.size ∧ VA.heap.size ≤ n10 ∧ n10 < VB.heap.size from ⟨by have := HGA.out; have := HSZ4.out; omega, HVGA.out, HGB.out, HVGB.out⟩)
      have HC19 := hid (show VB.heap[n8]? = some (.cells #[.int .i64 c8.n, .int .i64 c8.t, .slice c8.a c8.l c8.c] 55) ∧ VB.heap[n10]? = some (.cells #[.int .i64 c10.n, .int .i64 c10.t, .slice c10.a c10.l c10.c] 55) ∧ (∃ ka : StC, VB.heap[w4.heap.size]? = some (.cells #[.int .i64 ka.n, .int .i64 ka.t, .slice ka.a ka.l ka.c] 55)) ∧ (∃ kb : StC, VB.heap[w4.heap.size + 1]? = some (.cells #[.int .i64 kb.n, .int .i64 kb.t, .slice kb.a kb.l kb.c] 55)) ∧ Below w4.heap.size w4 VB from by
        have hz4 := HSZ4.out
        have hzz := HZZ.out
        have h8 := H84.out
        have hB := HVBA.out.trans (HVBB.out.mono HVBA.out.size)
        exact ⟨(HVBB.out.block _ h8.2.1).trans HV8A.out, HV8B.out, ⟨ca, (hB.block _ (by omega)).trans HAA.out⟩, ⟨cb, (hB.block _ (by omega)).trans HBB.out⟩, HUZ.out.trans (hB.mono (by omega))⟩)
      have HC19L : Hid (∀ w', (w'.heap[n8]? = some (.cells #[.int .i64 c8.n, .int .i64 c8.t, .slice c8.a c8.l c8.c] 55) ∧ w'.heap[n10]? = some (.cells #[.int .i64 c10.n, .int .i64 c10.t, .slice c10.a c10.l c10.c] 55) ∧ (∃ ka : StC, w'.heap[w4.heap.size]? = some (.cells #[.int .i64 ka.n, .int .i64 ka.t, .slice ka.a ka.l ka.c] 55)) ∧ (∃ kb : StC, w'.heap[w4.heap.size + 1]? = some (.cells #[.int .i64 kb.n, .int .i64 kb.t, .slice kb.a kb.l kb.c] 55)) ∧ Below w4.heap.size w4 w' ∧ VB.heap.size ≤ w'.heap.size ∧ ∀ b, b < VB.heap.size → b ≠ w4.heap.size → b ≠ w4.heap.size + 1 → w'.heap[b]? = VB.heap[b]?) → (w'.cell? ⟨n8, 0, none⟩ = some (.int .i64 c8.n) ∧ w'.cell? ⟨n8, 1, none⟩ = some (.int .i64 c8.t) ∧ w'.cell? ⟨n8, 2, none⟩ = some (.slice c8.a c8.l c8.c)) ∧ (w'.cell? ⟨n10, 0, none⟩ = some (.int .i64 c10.n) ∧ w'.cell? ⟨n10, 1, none⟩ = some (.int .i64 c10.t) ∧ w'.cell? ⟨n10, 2, none⟩ = some (.slice c10.a c10.l c10.c))) := hid fun w' h => ⟨⟨cellOf h.1 0, cellOf h.1 1, cellOf h.1 2⟩, ⟨cellOf h.2.1 0, cellOf h.2.1 1, cellOf h.2.1 2⟩⟩
      go_upto_region 19 with (fail)
      refine wp_region_held_drew (S := (fun w' => w'.heap[n8]? = some (.cells #[.int .i64 c8.n, .int .i64 c8.t, .slice c8.a c8.l c8.c] 55) ∧ w'.heap[n10]? = some (.cells #[.int .i64 c10.n, .int .i64 c10.t, .slice c10.a c10.l c10.c] 55) ∧ (∃ ka : StC, w'.heap[w4.heap.size]? = some (.cells #[.int .i64 ka.n, .int .i64 ka.t, .slice ka.a ka.l ka.c] 55)) ∧ (∃ kb : StC, w'.heap[w4.heap.size + 1]? = some (.cells #[.int .i64 kb.n, .int .i64 kb.t, .slice kb.a kb.l kb.c] 55)) ∧ Below w4.heap.size w4 w' ∧ VB.heap.size ≤ w'.heap.size ∧ ∀ b, b < VB.heap.size → b ≠ w4.heap.size → b ≠ w4.heap.size + 1 → w'.heap[b]? = VB.heap[b]?)) (by kernel_rfl) (⟨HC19.out.1, HC19.out.2.1, HC19.out.2.2.1, HC19.out.2.2.2.1, HC19.out.2.2.2.2.drew, Nat.le_refl _, fun b _ _ _ => rfl⟩) (fun hS => ?_)
      refine wpAnyH_take (i := 0) (oi := _) (v := ?_) rfl (by kernel_rfl) (by kernel_rfl) (by kernel_rfl) (fun _ _ _ h => h) (Or.inl ⟨by rfl, ?_⟩) hS ?_
      rotate_left
      · intro w' hw'
        have hcells := HC19L.out w' hw'
        go_simp
        (try with_reducible rfl)
      simp only [Act.put, List.getElem_toArray, List.getElem_cons_succ, List.getElem_cons_zero, List.setIfInBounds_toArray, List.set_cons_zero, List.set_cons_succ]
      refine wpAnyH_take (i := 1) (oi := _) (v := ?_) rfl (by kernel_rfl) (by kernel_rfl) (by kernel_rfl) (fun _ _ _ h => h) (Or.inl ⟨by rfl, ?_⟩) hS ?_
      rotate_left
      · intro w' hw'
        have hcells := HC19L.out w' hw'
        go_simp
        (try with_reducible rfl)
      simp only [Act.put, List.getElem_toArray, List.getElem_cons_succ, List.getElem_cons_zero, List.setIfInBounds_toArray, List.set_cons_zero, List.set_cons_succ]
      refine wpAnyH_ready (rs := [2]) (by kernel_rfl) (by simp) ?_
      refine AllReadyH.cons (o := _) rfl (fun K hK => ?_) AllReadyH.nil
      obtain ⟨s1, s2, ⟨ka, s3⟩, ⟨kb, s4⟩, s5, s6, s7⟩ := id hS
      have z0 := cellOf (w := VB) s3 0; have zf0 := freeOf (w := VB) s3 0; have z1 := cellOf (w := VB) s3 1; have zf1 := freeOf (w := VB) s3 1; have z2 := cellOf (w := VB) s3 2; have zf2 := freeOf (w := VB) s3 2
      (try dsimp only at z0 z1 z2)
      have S1 := hid s1
      have S2 := hid s2
      have S3 := hid s3
      have S4 := hid s4
      have S5 := hid s5
      have S6 := hid s6
      have S7 := hid s7
      clear s1 s2 s3 s4 s5 s6 s7
      go_simp
      obtain ⟨x1, hx1⟩ : ∃ u, u = (((VB.setCell ⟨w4.heap.size, 0, none⟩ (.int .i64 c8.n)).setCell ⟨w4.heap.size, 1, none⟩ (.int .i64 c8.t)).setCell ⟨w4.heap.size, 2, none⟩ (.slice c8.a c8.l c8.c)).drew := ⟨_, rfl⟩
      rw [← hx1]
      clear z0 z1 z2 zf0 zf1 zf2
      have oo : ∀ b, b ≠ w4.heap.size → x1.heap[b]? = VB.drew.heap[b]? := fun b hb => by rw [hx1]; exact (Below.heap_setCell _ _ _ _ hb).trans ((Below.heap_setCell _ _ _ _ hb).trans (Below.heap_setCell _ _ _ _ hb))
      have og := heapSet (o := 2) (.slice c8.a c8.l c8.c) (heapSet (o := 1) (.int .i64 c8.t) (heapSet (o := 0) (.int .i64 c8.n) S3.out))
      simp only [List.setIfInBounds_toArray, List.set_cons_zero, List.set_cons_succ] at og
      replace og : x1.heap[w4.heap.size]? = some (.cells #[.int .i64 c8.n, .int .i64 c8.t, .slice c8.a c8.l c8.c] 55) := by rw [hx1]; exact og
      have hn8 := H84.out
      have hns := HSZ4.out
      have ob : Below w4.heap.size w4 x1 := by rw [hx1]; exact ((S5.out.setCell (p := ⟨w4.heap.size, 0, none⟩) (by dsimp only; omega) _).setCell (p := ⟨w4.heap.size, 1, none⟩) (by dsimp only; omega) _).setCell (p := ⟨w4.heap.size, 2, none⟩) (by dsimp only; omega) _
      have os : x1.heap.size = VB.drew.heap.size := by rw [hx1]; simp [World.setCell]
      have HKx1 := hid (show  x1.heap[n8]? = some (.cells #[.int .i64 c8.n, .int .i64 c8.t, .slice c8.a c8.l c8.c] 55) ∧ x1.heap[n10]? = some (.cells #[.int .i64 c10.n, .int .i64 c10.t, .slice c10.a c10.l c10.c] 55) ∧ (∃ ka : StC, x1.heap[w4.heap.size]? = some (.cells #[.int .i64 ka.n, .int .i64 ka.t, .slice ka.a ka.l ka.c] 55)) ∧ (∃ kb : StC, x1.heap[w4.heap.size + 1]? = some (.cells #[.int .i64 kb.n, .int .i64 kb.t, .slice kb.a kb.l kb.c] 55)) ∧ Below w4.heap.size w4 x1 ∧ VB.heap.size ≤ x1.heap.size ∧ ∀ b, b < VB.heap.size → b ≠ w4.heap.size → b ≠ w4.heap.size + 1 → x1.heap[b]? = VB.heap[b]? from ⟨(oo _ (by omega)).trans S1.out, (oo _ (by omega)).trans S2.out, ⟨c8, og⟩, ⟨kb, (oo _ (by omega)).trans S4.out⟩, ob, by rw [os]; exact S6.out, fun b h1 h2 h3 => (oo b (by omega)).trans (S7.out b h1 h2 h3)⟩)
      have HOx1 := hid og
      skip
      clear S1 S2 S3 S4 S5 S6 S7 oo og ob os hx1 hn8 hns
      refine hK.out _ _ (HKx1.out) (fun hS => ?_)
      clear hK K
      (try simp only [Act.put, List.getElem_toArray, List.getElem_cons_succ, List.getElem_cons_zero, List.setIfInBounds_toArray, List.set_cons_zero, List.set_cons_succ])
      refine wpAnyH_ready (rs := [3]) (by kernel_rfl) (by simp) ?_
      refine AllReadyH.cons (o := _) rfl (fun K hK => ?_) AllReadyH.nil
      obtain ⟨s1, s2, ⟨ka, s3⟩, ⟨kb, s4⟩, s5, s6, s7⟩ := id hS
      have z0 := cellOf (w := x1) s4 0; have zf0 := freeOf (w := x1) s4 0; have z1 := cellOf (w := x1) s4 1; have zf1 := freeOf (w := x1) s4 1; have z2 := cellOf (w := x1) s4 2; have zf2 := freeOf (w := x1) s4 2
      (try dsimp only at z0 z1 z2)
      have S1 := hid s1
      have S2 := hid s2
      have S3 := hid s3
      have S4 := hid s4
      have S5 := hid s5
      have S6 := hid s6
      have S7 := hid s7
      clear s1 s2 s3 s4 s5 s6 s7
      go_simp
      obtain ⟨x2, hx2⟩ : ∃ u, u = ((x1.setCell ⟨w4.heap.size + 1, 0, none⟩ (.int .i64 c10.n)).setCell ⟨w4.heap.size + 1, 1, none⟩ (.int .i64 c10.t)).setCell ⟨w4.heap.size + 1, 2, none⟩ (.slice c10.a c10.l c10.c) := ⟨_, rfl⟩
      rw [← hx2]
      clear z0 z1 z2 zf0 zf1 zf2
      have oo : ∀ b, b ≠ w4.heap.size + 1 → x2.heap[b]? = x1.heap[b]? := fun b hb => by rw [hx2]; exact (Below.heap_setCell _ _ _ _ hb).trans ((Below.heap_setCell _ _ _ _ hb).trans (Below.heap_setCell _ _ _ _ hb))
      have og := heapSet (o := 2) (.slice c10.a c10.l c10.c) (heapSet (o := 1) (.int .i64 c10.t) (heapSet (o := 0) (.int .i64 c10.n) S4.out))
      simp only [List.setIfInBounds_toArray, List.set_cons_zero, List.set_cons_succ] at og
      replace og : x2.heap[w4.heap.size + 1]? = some (.cells #[.int .i64 c10.n, .int .i64 c10.t, .slice c10.a c10.l c10.c] 55) := by rw [hx2]; exact og
      have hn8 := H84.out
      have hns := HSZ4.out
      have ob : Below w4.heap.size w4 x2 := by rw [hx2]; exact ((S5.out.setCell (p := ⟨w4.heap.size + 1, 0, none⟩) (by dsimp only; omega) _).setCell (p := ⟨w4.heap.size + 1, 1, none⟩) (by dsimp only; omega) _).setCell (p := ⟨w4.heap.size + 1, 2, none⟩) (by dsimp only; omega) _
      have os : x2.heap.size = x1.heap.size := by rw [hx2]; simp [World.setCell]
      have HKx2 := hid (show  x2.heap[n8]? = some (.cells #[.int .i64 c8.n, .int .i64 c8.t, .slice c8.a c8.l c8.c] 55) ∧ x2.heap[n10]? = some (.cells #[.int .i64 c10.n, .int .i64 c10.t, .slice c10.a c10.l c10.c] 55) ∧ (∃ ka : StC, x2.heap[w4.heap.size]? = some (.cells #[.int .i64 ka.n, .int .i64 ka.t, .slice ka.a ka.l ka.c] 55)) ∧ (∃ kb : StC, x2.heap[w4.heap.size + 1]? = some (.cells #[.int .i64 kb.n, .int .i64 kb.t, .slice kb.a kb.l kb.c] 55)) ∧ Below w4.heap.size w4 x2 ∧ VB.heap.size ≤ x2.heap.size ∧ ∀ b, b < VB.heap.size → b ≠ w4.heap.size → b ≠ w4.heap.size + 1 → x2.heap[b]? = VB.heap[b]? from ⟨(oo _ (by omega)).trans S1.out, (oo _ (by omega)).trans S2.out, ⟨ka, (oo _ (by omega)).trans S3.out⟩, ⟨c10, og⟩, ob, by rw [os]; exact S6.out, fun b h1 h2 h3 => (oo b (by omega)).trans (S7.out b h1 h2 h3)⟩)
      have HOx2 := hid og
      have HPx2 := hid (show x2.heap[w4.heap.size]? = some (.cells #[.int .i64 c8.n, .int .i64 c8.t, .slice c8.a c8.l c8.c] 55) from (oo _ (by omega)).trans HOx1.out)
      clear S1 S2 S3 S4 S5 S6 S7 oo og ob os hx2 hn8 hns
      refine hK.out _ _ (HKx2.out) (fun hS => ?_)
      clear hK K
      (try simp only [Act.put, List.getElem_toArray, List.getElem_cons_succ, List.getElem_cons_zero, List.setIfInBounds_toArray, List.set_cons_zero, List.set_cons_succ])
      refine wpAnyH_done (by kernel_rfl) ?_ _
      (try dsimp only)
      clear hS
      go_wp2
      go_roundw
      case rel =>
        obtain ⟨t1, t2, _, _, t5, t6, t7⟩ := HKx2.out
        have hz4 := HSZ4.out
        have h8 := H84.out
        have hzz := HZZ.out
        have hb7 := HVBB.out.size
        refine ⟨i + 1, c8, c10, by omega, by go_num, t5, HPx2.out, HOx2.out, ?_, ?_⟩
        · rw [foldl_take_succ HIL.out, ← HLA.out, ← HDX.out HIL.out]
          exact HVIA.out.same fun b q => ⟨⟨by omega, by omega⟩, (t7 b (by omega) (by omega) (by omega)).trans (HVBB.out.block b q.2.1)⟩
        · rw [foldl_take_succ (l := l.reverse) (by rw [List.length_reverse]; exact HIL.out), ← HLB.out, ← HDY.out (by rw [List.length_reverse]; exact HIL.out)]
          exact HVIB.out.same fun b q => ⟨⟨by omega, by omega⟩, t7 b (by omega) (by omega) (by omega)⟩
      case measure => simp [intOf]; omega
    · obtain rfl : n = i := by omega
      clear hlt
      have hta : l.take n = l := List.take_of_length_le (by have := HL.out; omega)
      have htb : l.reverse.take n = l.reverse := List.take_of_length_le (by rw [List.length_reverse]; have := HL.out; omega)
      rw [hta] at hia
      rw [htb, putAll_rev HKD.out] at hib
      obtain ⟨na, ta, aa, la, cca⟩ := ca
      have hla := hia.l.len
      dsimp only at hla
      rw [putAll_len HKD.out, ← HL.out] at hla
      obtain rfl : n = la := hla.symm
      have HSA : Hid (∀ w', Below wz.heap.size wz w' → Calls Tryz.prog 41 #[.agg #[.int .i64 na, .int .i64 ta, .slice aa n cca], .agg #[.int .i64 cb.n, .int .i64 cb.t, .slice cb.a cb.l cb.c]] w' fun e w2 => e = .returned (.bool true) ∧ Below w'.heap.size w' w2) := hid fun w' h => by
        have hc := sameSta_call ⟨na, ta, aa, n, cca⟩ cb _ _ w' (hia.same fun b q => ⟨Nat.lt_of_lt_of_le q.2 h.size, h.block b q.2⟩) (hib.same fun b q => ⟨Nat.lt_of_lt_of_le q.2 h.size, h.block b q.2⟩)
        rw [staEqB_refl] at hc
        exact hc
      have HSO : Hid (∀ w', Below wz.heap.size wz w' → Calls Tryz.prog 34 #[.agg #[.int .i64 na, .int .i64 ta, .slice aa n cca]] w' fun e w2 => e = .returned (.bool true) ∧ Below w'.heap.size w' w2) := hid fun w' h => by
        have hc := sorted_call ⟨na, ta, aa, n, cca⟩ _ w' (hia.same fun b q => ⟨Nat.lt_of_lt_of_le q.2 h.size, h.block b q.2⟩)
        refine hc.mono fun e w2 hh => ?_
        obtain ⟨⟨b', rfl, _, q⟩, hb⟩ := hh
        obtain rfl : b' = true := q (putAll_srt HKD.out)
        exact ⟨rfl, hb⟩
      have HCF : Hid (∀ w', Below wz.heap.size wz w' → (w'.cell? ⟨w4.heap.size, 0, none⟩ = some (.int .i64 na) ∧ w'.cell? ⟨w4.heap.size, 1, none⟩ = some (.int .i64 ta) ∧ w'.cell? ⟨w4.heap.size, 2, none⟩ = some (.slice aa n cca)) ∧ (w'.cell? ⟨w4.heap.size + 1, 0, none⟩ = some (.int .i64 cb.n) ∧ w'.cell? ⟨w4.heap.size + 1, 1, none⟩ = some (.int .i64 cb.t) ∧ w'.cell? ⟨w4.heap.size + 1, 2, none⟩ = some (.slice cb.a cb.l cb.c))) := hid fun w' h => by
        have h1 := heapExt h haa
        have h2 := heapExt h hbb
        exact ⟨⟨cellOf h1 0, cellOf h1 1, cellOf h1 2⟩, ⟨cellOf h2 0, cellOf h2 1, cellOf h2 2⟩⟩
      have HFI : Hid (∀ w', Below wz.heap.size wz w' → Below w.heap.size w w') := hid fun w' h => HU4.out _ (hbr.trans (h.mono (by have := ltOf hbb; omega)))
      clear hta htb hia hib hla haa hbb hbr
      obtain ⟨⟨k0, k1, k2⟩, ⟨k3, k4, k5⟩⟩ := HCF.out _ (Below.refl _ _)
      go_wp2_with (first
        | (go_at_call 34; refine (HSO.out _ hb5).mono ?_; rintro e w6 ⟨rfl, hb6⟩; have hbf := hb5.trans (hb6.mono hb5.size))
        | (go_at_call 41; refine (HSA.out _ (Below.refl _ _)).mono ?_; rintro e w5 ⟨rfl, hb5⟩; clear k0 k1 k2 k3 k4 k5; obtain ⟨⟨k0, k1, k2⟩, ⟨k3, k4, k5⟩⟩ := HCF.out _ hb5))
      go_ret
      exact ⟨rfl, HFI.out _ hbf⟩
end Go.Proofs.YthjlgpmajeafpaaGreatDoor
