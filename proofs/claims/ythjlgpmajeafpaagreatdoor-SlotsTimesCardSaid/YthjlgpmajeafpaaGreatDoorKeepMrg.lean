/-
  manifoldlaw29.small; stamp.Compare, stamp.Equal, slices.Equal over ints, message.Equal say what the data say. Condition: the arguments can be read as data.
-/
import Derived.Test.YthjlgpmajeafpaaGreatDoorReflMrg
import Derived.Test.YthjlgpmajeafpaaGreatDoorSizeMrg
import Derived.Sort.CutIn
import Derived.Test.YthjlgpmajeafpaaGreatDoorSlotMrg
import Derived.OneCell
namespace Go.Proofs.YthjlgpmajeafpaaGreatDoor
open Go Go.RowKit Go.Shelf
set_option linter.unusedVariables false
set_option linter.unusedSimpArgs false

def SmallPost (w : World) (c : MC) (e : Ending) (w' : World) : Prop := (∃ b : Bool, e = .returned (.bool b) ∧ (b = true → c.st.n ≤ 40 ∧ c.n ≤ 300)) ∧ Below w.heap.size w w'
set_option maxRecDepth 100000 in
set_option maxHeartbeats 4000000 in
theorem small_call (c : MC) (d : Msg) (w : World) (hd : IsMsg (· < w.heap.size) w c d) : Calls Tryz.prog 16 #[c.v] w (SmallPost w c) := by
  have hb0 : Below w.heap.size w (w.alloc (mObj c)) := (Below.refl _ w).alloc (Nat.le_refl _) _
  have later : ∀ w2, Below (w.alloc (mObj c)).heap.size (w.alloc (mObj c)) w2 → Ten w2 w.heap.size c ∧ Below w.heap.size w w2 ∧ IsVal (· < w2.heap.size) w2 c.b d.b := fun w2 h => by
    have hb := hb0.trans (h.mono hb0.size)
    exact ⟨tenOf (heapExt h (heap_alloc_new w _)), hb, hd.b.same fun b q => ⟨Nat.lt_of_lt_of_le q hb.size, hb.block b q⟩⟩
  have HL := hid later
  have HD : Hid (∀ w2, Below (w.alloc (mObj c)).heap.size (w.alloc (mObj c)) w2 → Calls Tryz.prog 60 #[c.b.v] w2 (SomeInt w2)) := hid fun w2 h => depth_call c.b d.b w2 (later w2 h).2.2
  have HS : Hid (∀ w2, Below (w.alloc (mObj c)).heap.size (w.alloc (mObj c)) w2 → Calls Tryz.prog 61 #[c.b.v] w2 (SomeInt w2)) := hid fun w2 h => size_call' c.b d.b w2 (later w2 h).2.2
  have h00 := (later _ (Below.refl _ _)).1
  have HB0 := hid hb0
  clear later hd hb0
  obtain ⟨⟨ce, sa, sn, sc⟩, m, a, n, cap, ⟨k, i', s, t, la, ll, lc, fa, fl, fc⟩⟩ := c
  dsimp only [mObj, VC.v, MC.v, Ten] at HL HD HS HB0 h00 ⊢
  obtain ⟨e0, e1, e2, e3, e4, e5, e6, e7, e8, e9⟩ := h00
  go_enter Tryz.func16, Tryz.ntmps16
  by_cases q1 : sn ≤ 40
  · have q1' : (sn : Int) ≤ 40 := by omega
    by_cases q2 : n ≤ 300
    · have q2' : (n : Int) ≤ 300 := by omega
      go_wp2_with (first
        | (go_at_call 60; refine (HD.out _ (Below.refl _ _)).mono ?_; rintro e w3 ⟨⟨n1, rfl⟩, hb3⟩; clear e0 e1 e2 e3 e4 e5 e6 e7 e8 e9; have t0 := (HL.out _ hb3).1; obtain ⟨k0, k1, k2, k3, k4, k5, k6, k7, k8, k9⟩ := t0; have hbz := (HL.out _ hb3).2.1; rcases Int.lt_or_le 12 n1 with hn1 | hn1)
        | (go_at_call 61; refine (HS.out _ hb3).mono ?_; rintro e w4 ⟨⟨n2, rfl⟩, hb4⟩; have hbz4 := hbz.trans (hb4.mono hbz.size)))
      · go_ret
        exact ⟨⟨_, rfl, fun _ => ⟨q1, q2⟩⟩, hbz⟩
      · go_ret
        exact ⟨⟨_, rfl, fun _ => ⟨q1, q2⟩⟩, hbz4⟩
    · have q2' : ¬ (n : Int) ≤ 300 := by omega
      go_wp2
      go_ret
      exact ⟨⟨false, rfl, fun h => by cases h⟩, HB0.out⟩
  · have q1' : ¬ (sn : Int) ≤ 40 := by omega
    go_wp2
    go_ret
    exact ⟨⟨false, rfl, fun h => by cases h⟩, HB0.out⟩

def cmpSt (d d2 : St) : Int := orL [Lib.compareInt d.e d2.e, cmpI d.ps d2.ps]
theorem cmpSt_zero (d d2 : St) : (cmpSt d d2 == 0) = stEqB d d2 := by
  rw [Bool.eq_iff_iff]
  simp only [beq_iff_eq, cmpSt, orL, stEqB, decide_eq_true_eq]
  constructor
  · intro h
    by_cases h1 : Lib.compareInt d.e d2.e = 0
    · rw [if_neg (by simpa using h1)] at h
      by_cases h2 : cmpI d.ps d2.ps = 0
      · exact ⟨cmpInt_zero h1, cmpI_zero.1 h2⟩
      · rw [if_pos h2] at h; exact absurd h h2
    · rw [if_pos h1] at h; exact absurd h h1
  · rintro ⟨h1, h2⟩
    rw [h1, h2, cmpInt_refl, cmpI_zero.2 rfl]
    rfl
set_option maxRecDepth 100000 in
set_option maxHeartbeats 4000000 in
theorem stCompare_call (c c2 : SC) (d d2 : St) (w : World) (hd : IsSt (· < w.heap.size) w c d) (hd2 : IsSt (· < w.heap.size) w c2 d2) : Calls Tryz.prog 49 #[c.v, c2.v] w fun e w' => e = .returned (.int .i64 (cmpSt d d2)) ∧ Below w.heap.size w w' := by
  have HWB : Hid (Below w.heap.size w ((w.alloc (.cells #[.int .i64 c.e, .slice c.a c.n c.c] 24)).alloc (.cells #[.int .i64 c2.e, .slice c2.a c2.n c2.c] 24))) := hid (((Below.refl _ w).alloc (Nat.le_refl _) _).alloc (by simp) _)
  have HCI : Hid (∀ w', Below ((w.alloc (.cells #[.int .i64 c.e, .slice c.a c.n c.c] 24)).alloc (.cells #[.int .i64 c2.e, .slice c2.a c2.n c2.c] 24)).heap.size ((w.alloc (.cells #[.int .i64 c.e, .slice c.a c.n c.c] 24)).alloc (.cells #[.int .i64 c2.e, .slice c2.a c2.n c2.c] 24)) w' → Calls Tryz.prog 97 #[.slice c.a c.n c.c, .slice c2.a c2.n c2.c, .func (.func 98) #[] #[]] w' fun e w2 => e = .returned (.int .i64 (cmpI d.ps d2.ps)) ∧ Below w'.heap.size w' w2) := hid fun w' h => by
    have hb := HWB.out.trans (h.mono HWB.out.size)
    exact (cmpInts_call _ _ _ _ _ _ _ _ _ _ w' (hd.ps.same (S' := fun b => b < w'.heap.size) fun b q => ⟨Nat.lt_of_lt_of_le q hb.size, hb.block b q⟩) (hd2.ps.same (S' := fun b => b < w'.heap.size) fun b q => ⟨Nat.lt_of_lt_of_le q hb.size, hb.block b q⟩)).mono fun e w2 ⟨he, hw⟩ => ⟨he, by rw [hw]; exact Below.refl _ _⟩
  have HC : Hid (∀ w', Below ((w.alloc (.cells #[.int .i64 c.e, .slice c.a c.n c.c] 24)).alloc (.cells #[.int .i64 c2.e, .slice c2.a c2.n c2.c] 24)).heap.size ((w.alloc (.cells #[.int .i64 c.e, .slice c.a c.n c.c] 24)).alloc (.cells #[.int .i64 c2.e, .slice c2.a c2.n c2.c] 24)) w' → w'.cell? ⟨w.heap.size, 0, none⟩ = some (.int .i64 c.e) ∧ w'.cell? ⟨w.heap.size, 1, none⟩ = some (.slice c.a c.n c.c) ∧ w'.cell? ⟨w.heap.size + 1, 0, none⟩ = some (.int .i64 c2.e) ∧ w'.cell? ⟨w.heap.size + 1, 1, none⟩ = some (.slice c2.a c2.n c2.c)) := hid fun w' h => by
    have h0 := heapExt h (heapAlloc (.cells #[.int .i64 c2.e, .slice c2.a c2.n c2.c] 24) (heap_alloc_new w (.cells #[.int .i64 c.e, .slice c.a c.n c.c] 24)))
    have h1 := heapExt h (heapNewAt (w.alloc (.cells #[.int .i64 c.e, .slice c.a c.n c.c] 24)) (.cells #[.int .i64 c2.e, .slice c2.a c2.n c2.c] 24) (w.heap.size + 1) (by simp))
    exact ⟨cellOf h0 0, cellOf h0 1, cellOf h1 0, cellOf h1 1⟩
  have R : Hid (cmpSt d d2 = orL [Lib.compareInt c.e c2.e, cmpI d.ps d2.ps]) := hid (by rw [hd.e, hd2.e]; rfl)
  clear hd hd2
  go_enter Tryz.func49, Tryz.ntmps49
  go_upto_region 1 with (fail)
  refine wp_region_split 12 (fun w' => Below ((w.alloc (.cells #[.int .i64 c.e, .slice c.a c.n c.c] 24)).alloc (.cells #[.int .i64 c2.e, .slice c2.a c2.n c2.c] 24)).heap.size ((w.alloc (.cells #[.int .i64 c.e, .slice c.a c.n c.c] 24)).alloc (.cells #[.int .i64 c2.e, .slice c2.a c2.n c2.c] 24)) w') (by kernel_rfl) (by kernel_rfl) (by kernel_rfl) (by decide) ((Below.refl _ _).drew) (fun hS => ?_)
  simp only [List.take_succ_cons, List.take_zero, List.drop_succ_cons, List.drop_zero]
  refine wpAnyH_take (i := 0) (oi := _) (v := ?_) rfl (by kernel_rfl) (by kernel_rfl) (by kernel_rfl) (fun _ _ _ h => h) (Or.inl ⟨by rfl, ?_⟩) hS ?_
  rotate_left
  · intro w' hw'
    have hcells := HC.out w' hw'
    go_simp
    (try with_reducible rfl)
  simp only [Act.put, List.setIfInBounds_toArray, List.set_cons_zero, List.set_cons_succ]
  refine wpAnyH_take (i := 1) (oi := _) (v := ?_) rfl (by kernel_rfl) (by kernel_rfl) (by kernel_rfl) (fun _ _ _ h => h) (Or.inl ⟨by rfl, ?_⟩) hS ?_
  rotate_left
  · intro w' hw'
    have hcells := HC.out w' hw'
    go_simp
    (try with_reducible rfl)
  simp only [Act.put, List.setIfInBounds_toArray, List.set_cons_zero, List.set_cons_succ]
  refine wpAnyH_take (i := 2) (oi := _) (v := ?_) rfl (by kernel_rfl) (by kernel_rfl) (by kernel_rfl) (fun _ _ _ h => h) (Or.inl ⟨by rfl, ?_⟩) hS ?_
  rotate_left
  · intro w' hw'
    have hcells := HC.out w' hw'
    go_simp
    (try with_reducible rfl)
  simp only [Act.put, List.setIfInBounds_toArray, List.set_cons_zero, List.set_cons_succ]
  refine wpAnyH_take (i := 3) (oi := _) (v := ?_) rfl (by kernel_rfl) (by kernel_rfl) (by kernel_rfl) (fun _ _ _ h => h) (Or.inl ⟨by rfl, ?_⟩) hS ?_
  rotate_left
  · intro w' hw'
    have hcells := HC.out w' hw'
    go_simp
    (try with_reducible rfl)
  simp only [Act.put, List.setIfInBounds_toArray, List.set_cons_zero, List.set_cons_succ]
  refine wpAnyH_take (i := 5) (oi := _) (v := ?_) rfl (by kernel_rfl) (by kernel_rfl) (by kernel_rfl) (fun _ _ _ h => h) (Or.inl ⟨by rfl, ?_⟩) hS ?_
  rotate_left
  · intro w' hw'
    have hcells := HC.out w' hw'
    go_simp
    (try with_reducible rfl)
  simp only [Act.put, List.setIfInBounds_toArray, List.set_cons_zero, List.set_cons_succ]
  refine wpAnyH_take (i := 6) (oi := _) (v := ?_) rfl (by kernel_rfl) (by kernel_rfl) (by kernel_rfl) (fun _ _ _ h => h) (Or.inl ⟨by rfl, ?_⟩) hS ?_
  rotate_left
  · intro w' hw'
    have hcells := HC.out w' hw'
    go_simp
    (try with_reducible rfl)
  simp only [Act.put, List.setIfInBounds_toArray, List.set_cons_zero, List.set_cons_succ]
  refine wpAnyH_take (i := 7) (oi := _) (v := ?_) rfl (by kernel_rfl) (by kernel_rfl) (by kernel_rfl) (fun _ _ _ h => h) (Or.inl ⟨by rfl, ?_⟩) hS ?_
  rotate_left
  · intro w' hw'
    have hcells := HC.out w' hw'
    go_simp
    (try with_reducible rfl)
  simp only [Act.put, List.setIfInBounds_toArray, List.set_cons_zero, List.set_cons_succ]
  refine wpAnyH_take (i := 8) (oi := _) (v := ?_) rfl (by kernel_rfl) (by kernel_rfl) (by kernel_rfl) (fun _ _ _ h => h) (Or.inl ⟨by rfl, ?_⟩) hS ?_
  rotate_left
  · intro w' hw'
    have hcells := HC.out w' hw'
    go_simp
    (try with_reducible rfl)
  simp only [Act.put, List.setIfInBounds_toArray, List.set_cons_zero, List.set_cons_succ]
  refine wpAnyH_ready (rs := [4]) (by kernel_rfl) (by simp) ?_
  refine AllReadyH.cons (o := _) rfl (fun K hK => ?_) AllReadyH.nil
  go_simp; go_at_call 96; refine (Tryz.cmp_Compare_int _ _ _).mono ?_
  rintro e w1 ⟨rfl, rfl⟩
  refine hK.out _ _ (hS) (fun hS => ?_)
  clear hK K
  (try simp only [Act.put, List.setIfInBounds_toArray, List.set_cons_zero, List.set_cons_succ])
  refine wpAnyH_ready (rs := [9]) (by kernel_rfl) (by simp) ?_
  refine AllReadyH.cons (o := _) rfl (fun K hK => ?_) AllReadyH.nil
  go_simp; go_at_call 97; refine (HCI.out _ hS).mono ?_
  rintro e w2 ⟨rfl, hb1⟩
  refine hK.out _ _ (hS.trans (hb1.mono hS.size)) (fun hS => ?_)
  clear hK K
  (try simp only [Act.put, List.setIfInBounds_toArray, List.set_cons_zero, List.set_cons_succ])
  refine wpAnyH_ready (rs := [10]) (by kernel_rfl) (by simp) ?_
  refine AllReadyH.cons (o := _) rfl (fun K hK => ?_) AllReadyH.nil
  go_simp
  refine hK.out _ _ (hS.trans (((Below.refl _ _).alloc (Nat.le_refl _) _).mono hS.size)) (fun hS => ?_)
  clear hK K
  (try simp only [Act.put, List.setIfInBounds_toArray, List.set_cons_zero, List.set_cons_succ])
  refine wpAnyH_ready (rs := [11]) (by kernel_rfl) (by simp) ?_
  refine AllReadyH.cons (o := _) rfl (fun K hK => ?_) AllReadyH.nil
  go_simp; go_at_call 95; refine (or_new [Lib.compareInt c.e c2.e, cmpI d.ps d2.ps] w2 _ (by simp)).mono ?_
  rintro e w3 ⟨rfl, rfl⟩
  refine hK.out _ _ (hS) (fun hS => ?_)
  clear hK K
  (try simp only [Act.put, List.setIfInBounds_toArray, List.set_cons_zero, List.set_cons_succ])
  refine wpAnyH_done (by kernel_rfl) ?_ _
  (try dsimp only)
  go_wp2
  go_ret
  exact ⟨by rw [R.out]; rfl, HWB.out.trans (hS.mono HWB.out.size)⟩
theorem stEqual_call (c c2 : SC) (d d2 : St) (w : World) (hd : IsSt (· < w.heap.size) w c d) (hd2 : IsSt (· < w.heap.size) w c2 d2) : Calls Tryz.prog 70 #[c.v, c2.v] w fun e w' => e = .returned (.bool (stEqB d d2)) ∧ Below w.heap.size w w' := by
  have hb : Below w.heap.size w ((w.alloc (.cells #[.int .i64 c.e, .slice c.a c.n c.c] 24)).alloc (.cells #[.int .i64 c2.e, .slice c2.a c2.n c2.c] 24)) := (((Below.refl _ w).alloc (Nat.le_refl _) _).alloc (by simp) _)
  obtain ⟨u, hu⟩ : ∃ u, u = cmpSt d d2 := ⟨_, rfl⟩
  have hc := stCompare_call c c2 d d2 ((w.alloc (.cells #[.int .i64 c.e, .slice c.a c.n c.c] 24)).alloc (.cells #[.int .i64 c2.e, .slice c2.a c2.n c2.c] 24)) (hd.same fun b q => ⟨Nat.lt_of_lt_of_le q hb.size, hb.block b q⟩) (hd2.same fun b q => ⟨Nat.lt_of_lt_of_le q hb.size, hb.block b q⟩)
  rw [← hu] at hc
  have HCC := hid hc
  have HB := hid hb
  have R := hid (show stEqB d d2 = (u == 0) by rw [hu, cmpSt_zero])
  have h0 := (heapAlloc (.cells #[.int .i64 c2.e, .slice c2.a c2.n c2.c] 24) (heap_alloc_new w (.cells #[.int .i64 c.e, .slice c.a c.n c.c] 24)))
  have e0 := cellOf h0 0
  have e1 := cellOf h0 1
  clear hc hb hd hd2 hu h0
  go_enter Tryz.func70, Tryz.ntmps70
  go_wp2_with (go_at_call 49; refine HCC.out.mono ?_; rintro e w2 ⟨rfl, hb2⟩)
  go_ret
  exact ⟨retB R.out.symm, HB.out.trans (hb2.mono HB.out.size)⟩
theorem eqInts_call (S S' : Nat → Prop) (a a' : Option Addr) (n c n' c' : Nat) (xs ys : List Int) (w : World) (hx : IsInts S w a n c xs) (hy : IsInts S' w a' n' c' ys) : Calls Tryz.prog 92 #[.slice a n c, .slice a' n' c'] w fun e w' => e = .returned (.bool (decide (xs = ys))) ∧ Below w.heap.size w w' := by
  have hl := hx.len
  have hl' := hy.len
  have hbg := hx.big
  have hbg' := hy.big
  rcases Nat.eq_zero_or_pos n with h0 | h0
  · subst h0
    have hxe : xs = [] := List.eq_nil_of_length_eq_zero hl.symm
    refine (Tryz.slices_Equal_int_empty a a' c n' c' w (by omega)).mono fun e w' ⟨he, hw⟩ => ⟨?_, by rw [hw]; exact Below.refl _ _⟩
    rw [he]
    refine retB ?_
    rw [decide_eq_decide, hxe, hl']
    constructor
    · intro h; exact (List.eq_nil_of_length_eq_zero h).symm
    · intro h; rw [← h]; rfl
  · by_cases hnn : n = n'
    · obtain ⟨b, o, rfl, _, hc⟩ := hx.slot h0
      obtain ⟨b', o', rfl, _, hc'⟩ := hy.slot (by omega)
      refine (Tryz.slices_Equal_int b o n c b' o' n' c' xs ys w (by omega) (by omega) (by omega) (by omega) (fun j hj => by rw [hc j hj]; simp [List.getD_eq_getElem?_getD, hj]) (fun j hj => by rw [hc' j hj]; simp [List.getD_eq_getElem?_getD, hj])).mono fun e w' ⟨he, q, hw⟩ => ⟨?_, ?_⟩
      · rw [he, List.take_of_length_le (by omega), List.take_of_length_le (by omega)]
        refine retB ?_
        rw [Bool.eq_iff_iff]; simp
      · rw [hw]; exact ⟨rfl, rfl, rfl, Nat.le_refl _, fun _ _ => rfl⟩
    · refine (Tryz.slices_Equal_int_lens a a' n c n' c' w hnn).mono fun e w' ⟨he, hw⟩ => ⟨?_, by rw [hw]; exact Below.refl _ _⟩
      rw [he]
      refine retB ?_
      symm
      rw [decide_eq_false_iff_not]
      intro h
      rw [h] at hl
      omega

set_option maxRecDepth 100000 in
set_option maxHeartbeats 8000000 in
theorem msgEqual_call (c c2 : MC) (d d2 : Msg) (w : World) (hd : IsMsg (· < w.heap.size) w c d) (hd2 : IsMsg (· < w.heap.size) w c2 d2) :
    Calls Tryz.prog 47 #[c.v, c2.v] w fun e w' => e = .returned (.bool (msgEqB d d2)) ∧ Below w.heap.size w w' := by
  have hq := hid (show msgEqB d d2 = (stEqB d.st d2.st && (decide (c.m = c2.m) && (decide (d.es = d2.es) && (cmpV d.b d2.b == 0)))) by rw [msgEqB, hd.m, hd2.m])
  obtain ⟨u, hu⟩ : ∃ u, u = stEqB d.st d2.st := ⟨_, rfl⟩
  obtain ⟨v, hv⟩ : ∃ v, v = (cmpV d.b d2.b == 0) := ⟨_, rfl⟩
  obtain ⟨x, hx⟩ : ∃ x, x = decide (d.es = d2.es) := ⟨_, rfl⟩
  rw [← hu, ← hv, ← hx] at hq
  have hm := fun w1 hb => twoAt c c2 d d2 w hd hd2 w1 hb
  have hst : ∀ w1, Below ((w.alloc (mObj c)).alloc (mObj c2)).heap.size ((w.alloc (mObj c)).alloc (mObj c2)) w1 → Calls Tryz.prog 70 #[c.st.v, c2.st.v] w1 fun e w' => e = .returned (.bool u) ∧ Below w1.heap.size w1 w' := fun w1 h => by
    have hbw := (hm w1 h).bel
    rw [hu]; exact stEqual_call _ _ _ _ w1 (hd.st.same fun b q => ⟨Nat.lt_of_lt_of_le q hbw.size, hbw.block b q⟩) (hd2.st.same fun b q => ⟨Nat.lt_of_lt_of_le q hbw.size, hbw.block b q⟩)
  have hes : ∀ w1, Below ((w.alloc (mObj c)).alloc (mObj c2)).heap.size ((w.alloc (mObj c)).alloc (mObj c2)) w1 → Calls Tryz.prog 92 #[.slice c.a c.n c.c, .slice c2.a c2.n c2.c] w1 fun e w' => e = .returned (.bool x) ∧ Below w1.heap.size w1 w' := fun w1 h => by
    rw [hx]; exact eqInts_call _ _ _ _ _ _ _ _ _ _ w1 (hm w1 h).es (hm w1 h).es2
  have hvl : ∀ w1, Below ((w.alloc (mObj c)).alloc (mObj c2)).heap.size ((w.alloc (mObj c)).alloc (mObj c2)) w1 → Calls Tryz.prog 52 #[c.b.v, c2.b.v] w1 fun e w' => e = .returned (.bool v) ∧ Below w1.heap.size w1 w' := fun w1 h => by rw [hv]; exact (hm w1 h).val
  have HM := hid hm
  have HST := hid (hst _ (Below.refl _ _))
  have HES := hid hes
  have HVL := hid hvl
  have h0a := (hm _ (Below.refl _ _)).t1
  have h0b := (hm _ (Below.refl _ _)).t2
  clear hm hst hvl hes hu hv hx hd hd2
  obtain ⟨⟨ce, sa, sn, sc⟩, m, a, n, cap, ⟨k, i', s, t, la, ll, lc, fa, fl, fc⟩⟩ := c
  obtain ⟨⟨ce2, sa2, sn2, sc2⟩, m2, a2, n2, cap2, ⟨k2, i2, s2, t2, la2, ll2, lc2, fa2, fl2, fc2⟩⟩ := c2
  dsimp only [Ten, mObj, SC.v, VC.v, MC.v] at hq HM HST HES HVL h0a h0b ⊢
  obtain ⟨e0, e1, e2, e3, e4, e5, e6, e7, e8, e9⟩ := h0a
  obtain ⟨f0, f1, f2, f3, f4, f5, f6, f7, f8, f9⟩ := h0b
  go_enter Tryz.func47, Tryz.ntmps47
  cases u with
  | false =>
    go_wp2_with (go_at_call 70; refine HST.out.mono ?_; rintro e w1 ⟨rfl, hb1⟩; have hbw := (HM.out w1 hb1).bel)
    go_ret
    exact ⟨by rw [hq.out]; rfl, hbw⟩
  | true =>
  by_cases q1 : m = m2
  · subst q1
    cases x with
    | false =>
      have r := hid (show msgEqB d d2 = false by rw [hq.out]; simp)
      go_wp2_with (first
        | (go_at_call 70; refine HST.out.mono ?_; rintro e w1 ⟨rfl, hb1⟩; have hbw := (HM.out w1 hb1).bel; have t1 := (HM.out w1 hb1).t1; have t2 := (HM.out w1 hb1).t2; dsimp only [Ten] at t1 t2; clear e0 e1 e2 e3 e4 e5 e6 e7 e8 e9 f0 f1 f2 f3 f4 f5 f6 f7 f8 f9; obtain ⟨j0, j1, j2, j3, j4, j5, j6, j7, j8, j9⟩ := t1; obtain ⟨l0, l1, l2, l3, l4, l5, l6, l7, l8, l9⟩ := t2)
        | (go_at_call 92; refine (HES.out _ hb1).mono ?_; rintro e w2 ⟨rfl, hb2⟩))
      go_ret
      exact ⟨by rw [r.out]; rfl, hbw.trans (hb2.mono hbw.size)⟩
    | true =>
      have r := hid (show msgEqB d d2 = v by rw [hq.out]; simp)
      go_wp2_with (first
        | (go_at_call 70; refine HST.out.mono ?_; rintro e w1 ⟨rfl, hb1⟩; have hbw := (HM.out w1 hb1).bel; have t1 := (HM.out w1 hb1).t1; have t2 := (HM.out w1 hb1).t2; dsimp only [Ten] at t1 t2; clear e0 e1 e2 e3 e4 e5 e6 e7 e8 e9 f0 f1 f2 f3 f4 f5 f6 f7 f8 f9; obtain ⟨j0, j1, j2, j3, j4, j5, j6, j7, j8, j9⟩ := t1; obtain ⟨l0, l1, l2, l3, l4, l5, l6, l7, l8, l9⟩ := t2)
        | (go_at_call 92; refine (HES.out _ hb1).mono ?_; rintro e w2 ⟨rfl, hb2⟩; have hb2' := hb1.trans (hb2.mono hb1.size); have t1 := (HM.out w2 hb2').t1; have t2 := (HM.out w2 hb2').t2; dsimp only [Ten] at t1 t2; clear j0 j1 j2 j3 j4 j5 j6 j7 j8 j9 l0 l1 l2 l3 l4 l5 l6 l7 l8 l9; obtain ⟨p0, p1, p2, p3, p4, p5, p6, p7, p8, p9⟩ := t1; obtain ⟨r0, r1, r2, r3, r4, r5, r6, r7, r8, r9⟩ := t2)
        | (go_at_call 52; refine (HVL.out _ hb2').mono ?_; rintro e w3 ⟨rfl, hb3⟩))
      go_ret
      exact ⟨by rw [r.out]; rfl, (hbw.trans (hb2.mono hbw.size)).trans (hb3.mono (Nat.le_trans hbw.size hb2.size))⟩
  · have r := hid (show msgEqB d d2 = false by rw [hq.out]; simp [q1])
    go_wp2_with (go_at_call 70; refine HST.out.mono ?_; rintro e w1 ⟨rfl, hb1⟩; have hbw := (HM.out w1 hb1).bel; have t1 := (HM.out w1 hb1).t1; have t2 := (HM.out w1 hb1).t2; dsimp only [Ten] at t1 t2; clear e0 e1 e2 e3 e4 e5 e6 e7 e8 e9 f0 f1 f2 f3 f4 f5 f6 f7 f8 f9; obtain ⟨j0, j1, j2, j3, j4, j5, j6, j7, j8, j9⟩ := t1; obtain ⟨l0, l1, l2, l3, l4, l5, l6, l7, l8, l9⟩ := t2)
    go_ret
    exact ⟨by rw [r.out]; rfl, hbw⟩
end Go.Proofs.YthjlgpmajeafpaaGreatDoor

/-
  slots.numbers, value.Text, and the search for a message with a stamp among those that slots.Check has met. Condition: what is read can be read as data.
-/
namespace Go.Proofs.YthjlgpmajeafpaaGreatDoor
open Go Go.RowKit Go.Shelf
set_option linter.unusedVariables false
set_option linter.unusedSimpArgs false

def numE (n t : Int) : Int := if n < -999999999999999 ∨ 999999999999999 < n ∨ t < 0 ∨ 17592186044416 < t then 2 else 0
theorem numbers_call (n t : Int) (w : World) : Calls Tryz.prog 74 #[.int .i64 n, .int .i64 t] w fun e w' => e = .returned (.int .i64 (numE n t)) ∧ w = w' := by
  go_enter Tryz.func74, Tryz.ntmps74
  by_cases h1 : n < -999999999999999 <;> by_cases h2 : 999999999999999 < n <;> by_cases h3 : t < 0 <;> by_cases h4 : 17592186044416 < t
  all_goals go_wp2
  all_goals go_ret
  all_goals exact ⟨by simp [numE, *], rfl⟩
theorem textV_call (s : ByteArray) (w : World) : Calls Tryz.prog 72 #[.string s] w fun e w' => e = .returned (.agg #[.int .i64 4, .int .i64 0, .int .i64 0, .string s, .slice none 0 0, .slice none 0 0]) ∧ Below w.heap.size w w' := by
  go_enter Tryz.func72, Tryz.ntmps72
  go_wp2
  have hB := heap_alloc_new w (.cells #[.int .i64 4, .int .i64 0, .int .i64 0, .string s, .slice none 0 0, .slice none 0 0] 28)
  exact bodyPost_ret (v := .agg #[.int .i64 4, .int .i64 0, .int .i64 0, .string s, .slice none 0 0, .slice none 0 0]) (by simp [results, Tryz.results72, go_sem, cellOf hB]) rfl ⟨rfl, (Below.refl _ w).alloc (Nat.le_refl _) _⟩

def hasSt (l : List Msg) (s : St) : Bool := l.any fun m => stEqB m.st s
set_option maxRecDepth 100000 in
theorem slot1_call (x : MC) (d : Msg) (cm : SC) (s : St) (mb : Nat) (w : World) (hd : IsMsg (· < w.heap.size) w x d) (hs : IsSt (· < w.heap.size) w cm s) (h0 : w.cell? ⟨mb, 0, none⟩ = some (.int .i64 cm.e)) (h1 : w.cell? ⟨mb, 1, none⟩ = some (.slice cm.a cm.n cm.c)) :
    Calls Tryz.prog 126 #[x.v, .pointer (some ⟨mb, 0, none⟩)] w fun e w' => e = .returned (.bool (stEqB d.st s)) ∧ Below w.heap.size w w' := by
  have hb : Below w.heap.size w (w.alloc (mObj x)) := (Below.refl _ w).alloc (Nat.le_refl _) _
  have hc := stEqual_call x.st cm d.st s (w.alloc (mObj x)) (hd.st.same fun b q => ⟨Nat.lt_of_lt_of_le q hb.size, hb.block b q⟩) (hs.same fun b q => ⟨Nat.lt_of_lt_of_le q hb.size, hb.block b q⟩)
  have hmb := World.block_lt_of_cell? w _ h0
  have k0 : (w.alloc (mObj x)).cell? ⟨mb, 0, none⟩ = some (.int .i64 cm.e) := (World.cell?_of_block (w := w) (a := ⟨mb, 0, none⟩) (hb.block mb hmb)).trans h0
  have k1 : (w.alloc (mObj x)).cell? ⟨mb, 1, none⟩ = some (.slice cm.a cm.n cm.c) := (World.cell?_of_block (w := w) (a := ⟨mb, 1, none⟩) (hb.block mb hmb)).trans h1
  have HC := hid hc
  have HB := hid hb
  clear hc hb hd hs h0 h1 hmb
  dsimp only [mObj, MC.v, SC.v] at HC HB k0 k1 ⊢
  go_enter Tryz.func126, Tryz.ntmps126
  go_wp2_with (go_at_call 70; refine HC.out.mono ?_; rintro e w2 ⟨rfl, hb2⟩)
  go_ret
  exact ⟨rfl, HB.out.trans (hb2.mono HB.out.size)⟩

def IdxPost (w : World) (p : Bool) (e : Ending) (w' : World) : Prop := (∃ k : Int, e = .returned (.int .i64 k) ∧ (0 ≤ k ↔ p = true)) ∧ Below w.heap.size w w'
set_option maxRecDepth 100000 in
set_option maxHeartbeats 4000000 in
theorem idxM_call (a : Option Addr) (n c : Nat) (l : List Msg) (cm : SC) (s : St) (mb : Nat) (w : World) (hd : IsRow msgK (· < w.heap.size) w a n c l) (hs : IsSt (· < w.heap.size) w cm s) (h0 : w.cell? ⟨mb, 0, none⟩ = some (.int .i64 cm.e)) (h1 : w.cell? ⟨mb, 1, none⟩ = some (.slice cm.a cm.n cm.c)) :
    Calls Tryz.prog 129 #[.slice a n c, .func (.func 126) #[] #[.pointer (some ⟨mb, 0, none⟩)]] w (IdxPost w (hasSt l s)) := by
  have hen : ∀ args w, (callFunc 126 args).run Tryz.prog w = .ok (.enter 126 args) w := enters_of Tryz.func126 (by kernel_rfl) rfl
  have hbig := hd.big
  have HL := hid hd.len
  have HD := hid hd
  have HS := hid hs
  have HM := hid (And.intro h0 h1)
  clear hd hs h0 h1
  go_enter Tryz.func129, Tryz.ntmps129
  go_wp2
  go_loopw [8] (fun i wr => ∃ k : Nat, k ≤ n ∧ i = .int .i64 k ∧ (∀ j (hj : j < l.length), j < k → stEqB l[j].st s = false) ∧ Below w.heap.size w wr) (fun i _ => n - (intOf i).toNat)
  case atStart => exact ⟨0, Nat.zero_le _, rfl, fun j _ h => absurd h (Nat.not_lt_zero j), Below.refl _ _⟩
  case round =>
    obtain ⟨k, hk, rfl, hall, hbr⟩ := hrel
    obtain ⟨wp, rfl⟩ : ∃ w1 : World, w1 = wr := ⟨_, rfl⟩
    have HA := hid hall
    have HBR := hid hbr
    clear hall
    by_cases hlt : k < n
    · have hkl : k < l.length := by have := HL.out; omega
      obtain ⟨b, o, rfl, hb, hx⟩ := HD.out.slot (show 0 < n by omega)
      obtain ⟨x, hxa, hxi⟩ := hx k hkl
      obtain ⟨x0, x1, x2, x3, x4, x5, x6, x7, x8, x9⟩ := (hxa.same (hbr.block b hb)).m
      have hlt' : (k : Int) < (n : Int) := by omega
      have hk0 : (0 : Int) ≤ (k : Int) := by omega
      have hn63 : (n : Int) ≤ 9223372036854775807 := by omega
      obtain ⟨u, hu⟩ : ∃ u, u = stEqB l[k].st s := ⟨_, rfl⟩
      have hmb := World.block_lt_of_cell? w _ HM.out.1
      have HC : Hid (Calls Tryz.prog 126 #[x.v, .pointer (some ⟨mb, 0, none⟩)] wp fun e w' => e = .returned (.bool u) ∧ Below wp.heap.size wp w') := hid (by
        rw [hu]
        have hs := hbr.size
        exact slot1_call x l[k] cm s mb wp (hxi.same fun b q => ⟨by omega, hbr.block b q⟩) (HS.out.same fun b q => ⟨by omega, hbr.block b q⟩) ((World.cell?_of_block (w := w) (a := ⟨mb, 0, none⟩) (hbr.block mb hmb)).trans HM.out.1) ((World.cell?_of_block (w := w) (a := ⟨mb, 1, none⟩) (hbr.block mb hmb)).trans HM.out.2))
      have HU := hid hu
      dsimp only [MC.v] at HC
      clear hu hx hxa hxi hbr hb hmb
      cases u with
      | true =>
        go_wp2_with (go_at_call 126; refine HC.out.mono ?_; rintro e w3 ⟨rfl, hb3⟩)
        go_ret
        exact ⟨⟨k, rfl, ⟨fun _ => by rw [hasSt, List.any_eq_true]; exact ⟨_, List.getElem_mem hkl, HU.out.symm⟩, fun _ => by omega⟩⟩, HBR.out.trans (hb3.mono HBR.out.size)⟩
      | false =>
        go_wp2_with (go_at_call 126; refine HC.out.mono ?_; rintro e w3 ⟨rfl, hb3⟩)
        go_roundw
        case rel => exact ⟨k + 1, by omega, by go_num, fun j hj h => by
          by_cases hjk : j < k
          · exact HA.out j hj hjk
          · obtain rfl : j = k := by omega
            exact HU.out.symm, HBR.out.trans (hb3.mono HBR.out.size)⟩
        case measure => simp [intOf]; omega
    · obtain rfl : k = n := by omega
      go_wp2
      go_ret
      refine ⟨⟨-1, rfl, ⟨fun h => by omega, fun h => ?_⟩⟩, hbr⟩
      exfalso
      rw [hasSt, List.any_eq_true] at h
      obtain ⟨m, hm, he⟩ := h
      obtain ⟨j, hj, rfl⟩ := List.getElem_of_mem hm
      rw [HA.out j hj (by have := HL.out; omega)] at he
      cases he
theorem hasM_call (a : Option Addr) (n c : Nat) (l : List Msg) (cm : SC) (s : St) (mb : Nat) (w : World) (hd : IsRow msgK (· < w.heap.size) w a n c l) (hs : IsSt (· < w.heap.size) w cm s) (h0 : w.cell? ⟨mb, 0, none⟩ = some (.int .i64 cm.e)) (h1 : w.cell? ⟨mb, 1, none⟩ = some (.slice cm.a cm.n cm.c)) :
    Calls Tryz.prog 89 #[.slice a n c, .func (.func 126) #[] #[.pointer (some ⟨mb, 0, none⟩)]] w fun e w' => e = .returned (.bool (hasSt l s)) ∧ Below w.heap.size w w' := by
  obtain ⟨p, hp⟩ : ∃ p, p = hasSt l s := ⟨_, rfl⟩
  have hc := idxM_call a n c l cm s mb w hd hs h0 h1
  rw [← hp] at hc ⊢
  have HC := hid hc
  clear hc hd hs h0 h1 hp
  go_enter Tryz.func89, Tryz.ntmps89
  cases p with
  | true =>
    go_wp2_with (go_at_call 129; refine HC.out.mono ?_; rintro e w2 ⟨⟨k, rfl, hk⟩, hb2⟩; have hk0 : 0 ≤ k := hk.2 rfl; clear hk)
    go_ret
    exact ⟨rfl, hb2⟩
  | false =>
    go_wp2_with (go_at_call 129; refine HC.out.mono ?_; rintro e w2 ⟨⟨k, rfl, hk⟩, hb2⟩; have hk0 : k < 0 := Int.not_le.1 (fun h => absurd (hk.1 h) (by decide)); have hk1 : decide (0 ≤ k) = false := decide_eq_false (by omega); clear hk)
    go_ret
    exact ⟨rfl, hb2⟩
end Go.Proofs.YthjlgpmajeafpaaGreatDoor

/-
  Plain: a call's own blocks from B on, some of which keep what they hold; rows of the call's own whose elements lead into memory below B. No program in sight.
-/
namespace Go.Proofs.YthjlgpmajeafpaaGreatDoor
open Go Go.RowKit
set_option linter.unusedVariables false
set_option linter.unusedSimpArgs false

/-- Below B all is as in w; the blocks of the list hold their objects. -/
structure KeepB (B : Nat) (w : World) (l : List (Nat × Obj)) (w' : World) : Prop where
  b : Below B w w'
  n : B ≤ w'.heap.size
  at' : ∀ p ∈ l, w'.heap[p.1]? = some p.2
theorem KeepB.at {B : Nat} {w w' : World} {l : List (Nat × Obj)} (h : KeepB B w l w') (j : Nat) (hj : j < l.length) : w'.heap[(l[j]).1]? = some (l[j]).2 := h.at' _ (List.getElem_mem hj)
theorem KeepB.ext {B : Nat} {w w' w'' : World} {l : List (Nat × Obj)} (h : KeepB B w l w') (hb : Below w'.heap.size w' w'') : KeepB B w l w'' :=
  ⟨h.b.trans (hb.mono h.n), Nat.le_trans h.n hb.size, fun p hp => heapExt hb (h.at' p hp)⟩
theorem KeepB.cons {B : Nat} {w w' : World} {l : List (Nat × Obj)} (h : KeepB B w l w') {b : Nat} {o : Obj} (hb : w'.heap[b]? = some o) : KeepB B w ((b, o) :: l) w' :=
  ⟨h.b, h.n, fun p hp => (List.mem_cons.1 hp).elim (fun e => by rw [e]; exact hb) (fun hp => h.at' p hp)⟩
theorem KeepB.sub {B : Nat} {w w' : World} {l l' : List (Nat × Obj)} (h : KeepB B w l w') (hs : ∀ p ∈ l', p ∈ l) : KeepB B w l' w' := ⟨h.b, h.n, fun p hp => h.at' p (hs p hp)⟩
theorem KeepB.grown {B : Nat} {w w' w'' : World} {l : List (Nat × Obj)} {row : Option Nat} (h : KeepB B w l w') (hg : w'.grownBy w'' row) (hr : ∀ r, row = some r → B ≤ r ∧ ∀ p ∈ l, p.1 ≠ r) : KeepB B w l w'' :=
  ⟨h.b.grown hg h.n (fun r e => (hr r e).1), Nat.le_trans h.n hg.size, fun p hp => (hg.block _ (ltOf (h.at' p hp)) (fun e => (hr p.1 e.symm).2 p hp rfl)).trans (h.at' p hp)⟩
/-- A store into the first of the blocks. -/
theorem KeepB.set {B : Nat} {w w' : World} {l : List (Nat × Obj)} {b o : Nat} {cs : Array Value} {t : TypeId} {fr : Nat × Nat} (v : Value) (h : KeepB B w ((b, .cells cs t fr) :: l) w') (hB : B ≤ b) (hne : ∀ p ∈ l, p.1 ≠ b) : KeepB B w ((b, .cells (cs.setIfInBounds o v) t fr) :: l) (w'.setCell ⟨b, o, none⟩ v) :=
  ⟨h.b.setCell (p := ⟨b, o, none⟩) hB v, by simpa [World.setCell] using h.n, fun p hp => by
    rcases List.mem_cons.1 hp with rfl | hp
    · exact heapSet v (h.at' _ (List.mem_cons_self ..))
    · exact (Below.heap_setCell _ _ _ _ (hne p hp)).trans (h.at' p (List.mem_cons_of_mem _ hp))⟩
theorem KeepB.val {B : Nat} {w w' : World} {l : List (Nat × Obj)} (h : KeepB B w l w') : ∀ b, b < B → b < w'.heap.size ∧ w'.heap[b]? = w.heap[b]? := fun b hb => ⟨Nat.lt_of_lt_of_le hb h.n, h.b.block b hb⟩

section
variable {C D : Type} (K : Kit C D)
/-- The slice v of k things, in a row of the call's own from B on: its elements are l, and lead into memory below B. -/
def Kept (T B : Nat) (w : World) (v : Value) (k : Nat) (l : List D) : Prop :=
  ∃ cs : List C, cs.length = k ∧ l.length = k ∧ w.ownsRow B T K.n v k (cs.flatMap K.cs) ∧ ∀ j (h : j < cs.length) (h' : j < l.length), K.Is (· < B) w cs[j] l[j]
variable {K}
theorem Kept.nil (T B : Nat) (w : World) : Kept K T B w (.slice none 0 0) 0 [] := ⟨[], rfl, rfl, World.ownsRow_nil _ _ _ _, fun j h => by simp at h⟩
theorem Kept.ext {T B : Nat} {w w' : World} {v : Value} {k : Nat} {l : List D} (h : Kept K T B w v k l) (hn : B ≤ w.heap.size) (hb : Below w.heap.size w w') : Kept K T B w' v k l := by
  obtain ⟨cs, h1, h0, h2, h3⟩ := h
  exact ⟨cs, h1, h0, ownExt h2 hb, fun j hj hj' => K.same (fun b q => ⟨q, hb.block b (by omega)⟩) (h3 j hj hj')⟩
theorem Kept.own {T B : Nat} {w : World} {v : Value} {k : Nat} {l : List D} (h : Kept K T B w v k l) : ∀ r, v.ownBlock = some r → B ≤ r ∧ r < w.heap.size := by
  obtain ⟨_, _, _, h2, _⟩ := h
  exact h2.lt
theorem Kept.shape {T B : Nat} {w : World} {v : Value} {k : Nat} {l : List D} (h : Kept K T B w v k l) : ∃ a cap, v = .slice a k cap ∧ k ≤ cap := by
  obtain ⟨cs, h1, h0, h2, h3⟩ := h
  rcases h2.2 with ⟨rfl, rfl⟩ | ⟨g, cap, cur, rfl, hb, hg, hn, _⟩
  · exact ⟨none, 0, rfl, Nat.le_refl _⟩
  · exact ⟨_, cap, rfl, hn⟩
/-- A store into another block of the call's own. -/
theorem Kept.set {T B : Nat} {w : World} {v : Value} {k : Nat} {l : List D} (h : Kept K T B w v k l) (a : Addr) (u : Value) (hB : B ≤ a.block) (hne : v.ownBlock ≠ some a.block) : Kept K T B (w.setCell a u) v k l := by
  obtain ⟨cs, h1, h0, h2, h3⟩ := h
  exact ⟨cs, h1, h0, ownsRow_setCell_other h2 hne u, fun j hj hj' => K.same (fun b q => ⟨q, Below.heap_setCell _ _ _ _ (by omega)⟩) (h3 j hj hj')⟩
theorem Kept.push {T B : Nat} {w1 w2 : World} {v : Value} {k : Nat} {l : List D} {c : C} {d : D} {o : Obj} {g cap : Nat} {cs : List C} (hcs : cs.length = k) (hl : l.length = k)
    (hel : ∀ j (h : j < cs.length) (h' : j < l.length), K.Is (· < B) w1 cs[j] l[j]) (hn : B ≤ w1.heap.size) (hc : K.Is (· < B) w1 c d) (hv : ∀ r, v.ownBlock = some r → B ≤ r)
    (hown : w2.ownsRow B T K.n (.slice (some ⟨g, 0, none⟩) (k + 1) cap) (k + 1) (cs.flatMap K.cs ++ K.cs c)) (hgrow : (w1.alloc o).grownBy w2 v.ownBlock) :
    Kept K T B w2 (.slice (some ⟨g, 0, none⟩) (k + 1) cap) (k + 1) (l ++ [d]) := by
  have hst : ∀ b, b < B → w2.heap[b]? = w1.heap[b]? := fun b hb =>
    (hgrow.block b (by simp; omega) (fun e => by have := hv b e.symm; omega)).trans (Below.heap_alloc _ _ _ (by omega))
  refine ⟨cs ++ [c], by simp [hcs], by simp [hl], by simpa using hown, fun j hj hj' => ?_⟩
  by_cases hjk : j < cs.length
  · rw [List.getElem_append_left hjk, List.getElem_append_left (by omega)]
    exact K.same (fun b q => ⟨q, hst b q⟩) (hel j hjk (by omega))
  · have e1 : j = cs.length := by simp at hj; omega
    rw [List.getElem_append_right (by omega), List.getElem_append_right (by omega)]
    simp only [e1, hcs, hl, Nat.sub_self, List.getElem_cons_zero]
    exact K.same (fun b q => ⟨q, hst b q⟩) hc
theorem Kept.row {T B : Nat} {w : World} {a : Option Addr} {k cap : Nat} {l : List D} (h : Kept K T B w (.slice a k cap) k l) (hn : B ≤ w.heap.size) (hbig : k * K.by' ≤ 140737488351232) : IsRow K (· < w.heap.size) w a k cap l := by
  obtain ⟨_, cap', hv, hcap⟩ := h.shape
  simp only [Value.slice.injEq] at hv
  obtain ⟨rfl, _, rfl⟩ := hv
  obtain ⟨cs, h1, h0, h2, h3⟩ := h
  refine ⟨h0.symm, hcap, hbig, ?_⟩
  rcases h2.2 with ⟨h4, h5⟩ | ⟨g, cap', cur, hv, hb, hg, _⟩
  · exact .inl (List.eq_nil_of_length_eq_zero (by omega))
  · simp only [Value.slice.injEq] at hv
    obtain ⟨rfl, _, rfl⟩ := hv
    refine .inr ⟨g, 0, rfl, ltOf hg, fun j hj => ⟨cs[j]'(by omega), ?_, ?_⟩⟩
    · rw [Nat.zero_add]; exact AtG.ofRow h2 j (by omega)
    · exact K.same (fun b q => ⟨by omega, rfl⟩) (h3 j (by omega) hj)
end
end Go.Proofs.YthjlgpmajeafpaaGreatDoor
